/- Parts of the proof, in order. -/
import Derived.Test.YtkmpoleajjgfaaaGreatQ14
import Derived.Test.YtkmpoleajjgfaaaGreatQ11
namespace Go.Proofs.YtkmpoleajjgfaaaGreat
open Go.RowKit Gm Go.Sort Go.Shelf
set_option maxRecDepth 100000
set_option maxHeartbeats 16000000
def NW(w:World)(mb:Nat)(x:Nat->Nat)(k B:Nat):Prop:=
 ∃V:Nat->Value,IM w mb ((List.range k).map fun i=>((x i:Int),V i))/\B<=w.heap.size/\∀i,i<k->∃b o c,V i= .slice (some ⟨b,o,none⟩) 1 c/\b<B/\w.cell? ⟨b,o,none⟩=some (.int .i64 (i:Int))
theorem NW.bJ{P:Nat->Prop}{w w':World}{mb k B:Nat}{x:Nat->Nat}(h:NW w mb x k B)(hc:bw P w w')(hm:¬P mb)(hp:∀q,P q->B<=q):NW w' mb x k B:=by
 obtain⟨V,h1,hB,h2⟩:=h;refine⟨V,h1.bJ hc hm,ay hB hc.size,fun i hi=>?_⟩;obtain⟨b,o,c,h3,h4,h5⟩:=h2 i hi;exact⟨b,o,c,h3,h4,hc.cell (fun h=>by have:=hp _ h;omega) h5⟩
theorem NW.below{w w':World}{mb k B:Nat}{x:Nat->Nat}(h:NW w mb x k B)(hb:Below w.heap.size w w'):NW w' mb x k B:=h.bJ (P:=fun _=>False) (bw.of hb) (fun h=>h) (fun _ h=>h.elim)
theorem IM.ne{w:World}{b c o:Nat}{S:List (Int×Value)}{v:Value}(h:IM w b S)(hc:w.cell? ⟨c,o,none⟩=some v):¬c=b:=fun e=>by
 subst e;obtain⟨E,cl,h1,_⟩:=h.ex;simp[World.cell?,h1]at hc
theorem cK.bJ{P:Nat->Prop}{w w':World}{N:Nat}{b s t:Value}(h:cK w N b s t)(hc:bw P w w')(hN:¬P N):cK w' N b s t:=by
 have hl:=h.lt;obtain⟨a0,a1,a2,f0,f1,f2⟩:=h;exact⟨hc.cell hN a0,hc.cell hN a1,hc.cell hN a2,(hc.sA hl hN).trans f0,(hc.sA hl hN).trans f1,(hc.sA hl hN).trans f2⟩
def Z9(w:World)(n M:Nat)(B:Nat->Nat->Rat)(e:Ending)(w':World):Prop:=
 ∃D c A,e= .returned (.tuple #[.agg #[.int .i64 (n:Int), .int .i64 (n:Int), .slice D n c], .int .i64 0])/\(n<=c/\c<=9223372036854775807)/\Ir w' w.heap.size D n A M/\(∀i,i<n->Can n (A i)/\∀j,j<n->gv (A i) j=B i j)/\Below w.heap.size w w'
theorem xO(w:World):(zeroValue 22).run Tryz.prog w= .ok (.slice none 0 0) w:=by go_simp
theorem BH{w:World}{D Dx:Option Addr}{N n cD cx cy K:Nat}{A:Nat->List (Nat×Rat)}{x:Nat->Nat}{ix:Nat->Option Nat}(hN:N<=12)(hn:n<=12)(hl:ML w D N A K)(hcan:∀i,i<N->Can N (A i))(hK:K<=1099511627776)(hx:IL w Dx n x)(hxN:∀i,i<n->x i<N)(Hv:Ix n x ix):
 Calls Tryz.prog 45 #[.agg #[.int .i64 (N:Int), .int .i64 (N:Int), .slice D N cD], .slice Dx n cx, .slice Dx n cy] w (Z9 w n K fun i j=>gv (A (x i)) (x j)):=by
 obtain⟨W,hW,bC,i0,ir⟩:∃W,(w.alloc (.cells #[.int .i64 (N:Int), .int .i64 (N:Int), .slice D N cD] 34)).alloc (.cells #[.int .i64 0, .int .i64 0, .slice none 0 0] 34)=W/\Below w.heap.size w W/\cK W w.heap.size (.int .i64 (N:Int)) (.int .i64 (N:Int)) (.slice D N cD)/\cK W (w.heap.size+1) (.int .i64 0) (.int .i64 0) (.slice none 0 0):=⟨_,rfl,((aq _ _).alloc (by simp) _).alloc (by simp) _,by refine⟨?_,?_,?_,?_,?_,?_⟩<;>go_simp,by refine⟨?_,?_,?_,?_,?_,?_⟩<;>go_simp⟩;have hv:=uQ (c:=cD) (by omega) (by omega) (hl.below bC) hcan hK;have HL:=ah (show∀W',Below w.heap.size w W'->ML W' D N A K from fun W' h=>hl.below h);have HX:=ah (show∀W',Below w.heap.size w W'->IL W' Dx n x from fun W' h=>hx.below h);have Bw:=ah hcan;have HIX:=ah Hv;have HXN:=ah hxN;obtain⟨N0,kz⟩:=xeq w.heap.size;have Oh:=ah kz;have Fk:=i0.c0;have Fl:=i0.c1;have Fm:=i0.c2;have SE:=i0.lt;have hl1:=ir.lt;have HW:=ah hW;clear hl hx hcan Hv hxN hW kz;go_enter Tryz.func45,Tryz.ntmps45
 go_wp2_with fail
 rw[HW.out];clear HW;refine hv.mono ?_;rintro e w1 ⟨rfl,g1⟩;clear hv Fk Fl Fm;replace i0:=i0.keep g1;replace ir:=ir.keep g1;have hb1:=bC.trans (g1.mono bC.size);clear SE hl1 g1 bC;have SE:=i0.lt;have hl1:=ir.lt;have Fk:=i0.c0;have Fl:=i0.c1;have Fm:=i0.c2;have hs1:=LR (n:=N) w1;go_wp2_with fail
 refine hs1.mono ?_;rintro e w2 ⟨q,rfl,hq,rO,g2⟩;have hb2:=hb1.trans (g2.mono hb1.size);have hin:=Bx (c:=cx) (by omega) (HX.out _ hb2) hq rO HXN.out;clear hs1 Fk Fl Fm;replace i0:=i0.keep g2;replace ir:=ir.keep g2;clear hb1 SE hl1 g2 hq;go_wp2_with fail
 refine hin.mono ?_;rintro e w3 ⟨rfl,g3⟩;clear hin;replace i0:=i0.keep g3;replace ir:=ir.keep g3;have fq:=hb2.trans (g3.mono hb2.size);clear hb2 g3 rO;have SE:=i0.lt;have hl1:=ir.lt;have Fk:=i0.c0;have Fl:=i0.c1;have Fm:=i0.c2;have hs1:=LR (n:=N) w3;go_wp2_with fail
 refine hs1.mono ?_;rintro e w4 ⟨q2,rfl,hq,rO,g4⟩;have hb4:=fq.trans (g4.mono fq.size);have hin:=Bx (c:=cy) (by omega) (HX.out _ hb4) hq rO HXN.out;clear hs1 Fk Fl Fm;replace i0:=i0.keep g4;replace ir:=ir.keep g4;clear fq SE hl1 g4 hq;go_wp2_with fail
 refine hin.mono ?_;rintro e w5 ⟨rfl,g5⟩;clear hin;replace i0:=i0.keep g5;replace ir:=ir.keep g5;have gj:=hb4.trans (g5.mono hb4.size);clear hb4 g5 rO;have hr:=rq (n:=n) (by omega) w5;go_wp2_with fail
 refine hr.mono ?_;rintro e w6 ⟨rfl,e6⟩;subst e6;go_wp2_with fail
 refine hr.mono ?_;rintro e w7 ⟨rfl,e7⟩;subst e7;clear hr;have hmm:=run_makeMap (P:=Tryz.prog) 122 w7;have him:=IM.new w7;have jV:=bI w7 (.map #[] 0);obtain⟨w8,h8⟩:=xeq (w7.alloc (.map #[] 0));obtain⟨mb,PG⟩:=xeq w7.heap.size;rw[h8,PG]at hmm him;rw[h8]at jV;have hmb:w.heap.size+1<mb:=by have:=ir.lt;omega
 replace i0:=i0.keep jV;replace ir:=ir.keep jV;replace jV:=gj.trans (jV.mono gj.size);have V8:NW w8 mb x 0 w8.heap.size:=⟨fun _=> .slice none 0 0,him,aj _,fun i hi=>absurd hi (by omega)⟩;clear gj h8 PG him;go_wp2_with fail
 clear hmm
 go_loopw [53] (fun t wr=>∃k:Nat,k<=n/\t= .int .i64 (k:Int)/\NW wr mb x k wr.heap.size/\mb<wr.heap.size/\cK wr w.heap.size (.int .i64 (N:Int)) (.int .i64 (N:Int)) (.slice D N cD)/\cK wr (w.heap.size+1) (.int .i64 0) (.int .i64 0) (.slice none 0 0)/\Below w.heap.size w wr) (fun t _=>n- (intOf t).toNat)
 case atStart=>exact⟨0,aF _,rfl,V8,(by obtain⟨V,h,_⟩:=V8;exact h.lt),i0,ir,jV⟩
 case round=>
  clear V8 i0 ir jV;obtain⟨k,hk,rfl,hp,hmbl,i0,ir,hb⟩:=hrel
  by_cases hlk:k<n
  ·obtain⟨b,off,rfl,hbl,hc⟩:=(HX.out _ hb) (by omega);have c0:=hc k hlk;obtain⟨V,him,_,hpl⟩:=hp
   have hkn:∀p∈(List.range k).map (fun i=>((x i:Int),V i)),p.1≠(x k:Int):=fun p hp e=>by
    obtain⟨i,hi,rfl⟩:=List.mem_map.1 hp;have hi':=List.mem_range.1 hi;have h1:=HIX.out.yes i (by omega);have h2:=HIX.out.yes k hlk;have e':(x i:Int)=(x k:Int):=e;rw[show x i=x k by omega,h2]at h1;injection h1;omega
   have xP:=him.xL (T:=122) Tryz.underlying122 Tryz.underlying3 (xO wr) hkn;have JR:=ah hkn;have HPL:=ah hpl;have HIM:=ah him;obtain⟨xk,PU⟩:=xeq (x k);have EXK:=ah PU;rw[PU]at c0 xP;have v0:(0:Int)<=(k:Int):=by omega
   have v1:(k:Int)<n:=by omega
   have ba:=bI wr (.cells #[.int .i64 (k:Int)] 3);obtain⟨wa,iP⟩:=xeq (wr.alloc (.cells #[.int .i64 (k:Int)] 3));have h6:wa.heap[wr.heap.size]?=some (.cells #[.int .i64 (k:Int)] 3 (0,0)):=by rw[<-iP];exact aS wr _
   rw[iP]at ba;have BA:=ah ba;have I0:=ah i0;have IR:=ah ir;have HB:=ah hb;clear him hpl hkn PU hc ba i0 ir hb
   go_wp2_with (first
    |(at_builtin;(try rw[iP]);refine mP rfl (.tmp 62) (.tmp 64) rfl rfl (World.ownsRow_nil wa w.heap.size _ _) rfl h6 (by omega) (by have:=HB.out.size;have:=BA.out.size;omega) ?_;intro g7 bR w7 ew dR eO kR
      have iu:wa.grownBy w7 none:=dR;have jM:(none:Option Nat)=some g7∨g7=wa.heap.size:=eO;have aad:w7.ownsRow w.heap.size 3 1 (.slice (some ⟨g7,0,none⟩) 1 bR) 1 [.int .i64 (k:Int)]:=ew;clear dR eO ew;have PV:Below wr.heap.size wr w7:=BA.out.trans ((bw.grown (v:= .slice none 0 0) iu).below BA.out.size (fun k hk e=>by simp[Value.ownBlock]at e));obtain⟨w8,hrun,Wq,nD⟩:=(HIM.out.bJ (P:=fun _=>False) (bw.of PV) (fun h=>h)).Gp (T:=122) (v:= .slice (some ⟨g7,0,none⟩) 1 bR) Tryz.underlying122 Tryz.underlying3 JR.out;rw[EXK.out]at hrun;have c7:= @World.ownsRow.cells _ _ _ _ _ _ _ aad g7 rfl 0 (.int .i64 (k:Int)) rfl;rw[ow]at c7;have aea:¬g7=mb:=(HIM.out.bJ (P:=fun _=>False) (bw.of PV) (fun h=>h)).ne c7
      have G0:NW w8 mb x (k+1) w8.heap.size:=by
       refine⟨fun i=>if i=k then .slice (some ⟨g7,0,none⟩) 1 bR else V i,?_,aj _,fun i hi=>?_⟩
       ·have e:(List.range (k+1)).map (fun i=>((x i:Int),if i=k then Value.slice (some ⟨g7,0,none⟩) 1 bR else V i))=(List.range k).map (fun i=>((x i:Int),V i))++ [((x k:Int), .slice (some ⟨g7,0,none⟩) 1 bR)]:=by
         rw[List.range_succ,List.map_append]
         congr 1
         ·apply List.map_congr_left;intro i hi;rw[if_neg (by have:=List.mem_range.1 hi;omega)]
         ·simp
        rw[e];exact Wq
       ·by_cases e:i=k
        ·subst e;exact⟨g7,0,bR,if_pos rfl,ak kR nD.size,nD.cell aea c7⟩
        ·obtain⟨b',o',c',h1,h2,h3⟩:=HPL.out i (by omega);have h3':=(PV.cell (p:=⟨b',o',none⟩) h2).trans h3;exact⟨b',o',c',by show(if i=k then _ else V i)=_;rw[if_neg e,h1],ak h2 (ay PV.size nD.size),nD.cell ((HIM.out.bJ (P:=fun _=>False) (bw.of PV) (fun h=>h)).ne h3') h3'⟩
      have fW:=HB.out.trans (PV.mono HB.out.size);have jV:=fW.trans (nD.below fW.size (fun q hq e=>by omega));have aeb:mb<w8.heap.size:=Wq.lt;have j0:=((I0.out.keep PV)).bJ nD (by omega);have jr:=((IR.out.keep PV)).bJ nD (by omega);have HR:=ah (ai G0 (ai aeb (ai j0 (ai jr jV))));clear G0 aeb j0 jr jV fW PV Wq nD c7 aea iu jM aad xP h6 iP kR))
   go_wp2_with fail
   go_roundw
   case rel=>exact⟨k+1,by omega,by go_num,HR.out⟩
   case measure=>simp[intOf];omega
  ·obtain rfl:n=k:=by omega
   have he:=PK (w:=wr) (n:=n) (m:=n) (by omega);have HP:=ah hp;obtain⟨Bp,eBp⟩:=xeq wr.heap.size;rw[eBp]at HP;have EBP:=ah eBp;clear eBp;have I0:=ah i0;have IR:=ah ir;have HB:=ah hb;clear hp i0 ir hb;go_wp2_with fail
   refine he.mono ?_;rintro e w9 ⟨g,rfl,hgl,hv,g9⟩;clear he;have b10:=bI w9 (.cells #[.int .i64 (n:Int), .int .i64 (n:Int), .slice (some ⟨g,0,none⟩) n n] 34);have i10:=cK.jJ w9 34 (.int .i64 (n:Int)) (.int .i64 (n:Int)) (.slice (some ⟨g,0,none⟩) n n);obtain⟨wx,hwx⟩:=xeq (w9.alloc (.cells #[.int .i64 (n:Int), .int .i64 (n:Int), .slice (some ⟨g,0,none⟩) n n] 34));obtain⟨sb,esb⟩:=xeq w9.heap.size;rw[hwx]at b10 i10;rw[esb]at i10;have gx:=g9.trans (b10.mono g9.size);have hvx:=hv.bJ (P:=fun _=>False) (bw.of b10) (fun h=>h);have hgsb:g<sb:=by rw[<-esb];exact hv.lt
   have Q6:=HP.out.below gx;have i09:=I0.out.keep gx;have ir9:=IR.out.keep gx;have kS:=HB.out.trans (gx.mono HB.out.size);have hlt:w.heap.size+1<g:=by omega
   have hmg:mb<g:=by omega
   have hBg:Bp<=g:=by rw[<-EBP.out];exact hgl
   have Bs:=ah hwx;have ESB:=ah esb;clear hwx esb g9 b10 hv gx HP I0 IR HB hgl;go_wp2_with fail
   rw[Bs.out,ESB.out];clear Bs ESB
   go_loopw [74] (fun t wr=>∃(k:Nat) (V:Nat->Value) (R:Nat->List (Nat×Rat)),k<=n/\t= .int .i64 (k:Int)/\dm wr g 40 n V/\(∀i,i<k->(∃Di ci,V i= .slice Di (R i).length ci/\((R i).length<=ci/\ci<=9223372036854775807)/\uP wr (g+1) Di (R i) K)/\Can n (R i)/\∀j,j<n->gv (R i) j=gv (A (x i)) (x j))/\
    NW wr mb x n Bp/\cK wr sb (.int .i64 (n:Int)) (.int .i64 (n:Int)) (.slice (some ⟨g,0,none⟩) n n)/\cK wr w.heap.size (.int .i64 (N:Int)) (.int .i64 (N:Int)) (.slice D N cD)/\cK wr (w.heap.size+1) (.int .i64 0) (.int .i64 0) (.slice none 0 0)/\Below w.heap.size w wr) (fun t _=>n- (intOf t).toNat)
   case atStart=>exact⟨0,_,fun _=>[],aF _,rfl,hvx,fun i hi=>absurd hi (by omega),Q6,i10,i09,ir9,kS⟩
   case round=>
    clear hvx Q6 i10 i09 ir9 kS;obtain⟨k,V,R,hk,rfl,hv,hR,hp,is,i0,ir,hb⟩:=hrel
    by_cases hlk:k<n
    ·obtain⟨b,off,rfl,hbl,hc⟩:=(HX.out _ hb) (by omega);have c0:=hc k hlk;have hxk:=HXN.out k hlk;obtain⟨db,ak2,rfl,hdl,hdc⟩:=(HL.out _ hb) (by omega);obtain⟨Di,ci,d0,hci,hel⟩:=hdc (x k) hxk;have JP:=Bw.out (x k) hxk;obtain⟨l,el⟩:=xeq (A (x k));rw[el]at d0 hci hel JP;have EL_:=ah el;obtain⟨la,kL⟩:=xeq l.length;rw[kL]at d0 hci;have LU:=ah kL;obtain⟨xk,PU⟩:=xeq (x k);rw[PU]at c0 d0 hxk;have v0:(0:Int)<=(k:Int):=by omega
     have v1:(k:Int)<n:=by omega
     have u0:(0:Int)<=(xk:Int):=by omega
     have u1:(xk:Int)<N:=by omega
     have z2:=i0.c2;have HV:=ah hv;have HR:=ah hR;have HP:=ah hp;have IS:=ah is;have I0:=ah i0;have IR:=ah ir;have HB:=ah hb;have PW:=ah hel;have LM:=ah JP;clear hv hR hp is i0 ir hb hel JP hc hdc kL el PU;go_wp2_with fail
     clear z2 d0 c0;obtain⟨wo,rfl⟩:∃wo,wo=wr:=⟨_,rfl⟩
     go_loopw [15,85] (fun v t wq=>∃q:Nat,q<=la/\t= .int .i64 (q:Int)/\EO wq wo.heap.size v (lW ix (l.take q)) K/\Below wo.heap.size wo wq) (fun _ t _=>la- (intOf t).toNat)
     case atStart=>exact⟨0,aF _,rfl,EO.nil _ _ _,aq _ _⟩
     case round=>
      obtain⟨q,hq,rfl,dY,NU⟩:=hrel
      by_cases K7:q<la
      ·obtain⟨p,hpq⟩:∃p,l[q]?=some p:=⟨l[q]'(by have:=LU.out;omega),aB _⟩;obtain⟨eb,eo,rfl,hel,hec⟩:=(PW.out.below NU) (by have:=LU.out;omega);obtain⟨e0,y1,y2,y3,e1,e2,e3,tD⟩:=hec q p hpq;have hst:=Iw (ix:=ix) hpq;have hzp:=PW.out.sz p (aD hpq);have jB:=LM.out.lt p (aD hpq);have rO:=(aC.1 hpq).1;have hrl:=uR ix (l.take q);rw[List.length_take]at hrl;obtain⟨pi,pR⟩:=xeq p.1;obtain⟨pr,UR⟩:=xeq p.2;rw[pR]at e0 hst jB;rw[UR]at tD hst hzp;have q0:(0:Int)<=(q:Int):=by omega
       have q1:(q:Int)<la:=by omega
       have bo:=bI wr (.cells #[.int .i64 (pi:Int),y1,y2,y3] 92);have i5:=Cr.new wr (.int .i64 (pi:Int)) y1 y2 y3;obtain⟨s0,s1,s2⟩:=tD.st;have Wr:=tD.keep bo;have nA:=dY.below bo
       have uS:∀k,k<wo.heap.size∨u15.ownBlock=some k->k<wr.heap.size:=fun k hk=>by
        rcases hk with hk|hk
        ·exact ak hk NU.size
        ·exact(dY.blk k hk).2
       have jd:=NU.trans (bo.mono NU.size);obtain⟨wb,gh⟩:=xeq (wr.alloc (.cells #[.int .i64 (pi:Int),y1,y2,y3] 92));obtain⟨Ne,fG⟩:=xeq wr.heap.size;rw[gh]at bo i5 Wr nA jd;rw[fG]at i5 uS;have hNe:Ne<=wb.heap.size:=by rw[<-fG];exact bo.size
       obtain⟨r0,r1,r2,r3,_⟩:=id i5;obtain⟨V',him,_,hpl⟩:=HP.out.below jd;have lC:=ah gh;have ny:=ah fG;have HOB:=ah uS;have xQ:=ah jd;have U3:=ah nA;have HZP:=ah hzp;have HRL:=ah hrl;clear gh fG uS jd nA dY NU hec tD bo pR UR hzp hrl hpq
       cases Iy:ix pi with
       |none=>
        have xP:=him.xL (T:=122) (i:=(pi:Int)) Tryz.underlying122 Tryz.underlying3 (xO wb) (fun p hp e=>by
         obtain⟨i,hi,rfl⟩:=List.mem_map.1 hp;have e':(x i:Int)=(pi:Int):=e;have h1:=HIX.out.yes i (List.mem_range.1 hi);rw[show x i=pi by omega,Iy]at h1
         cases h1)
        rw[Iy]at hst;dsimp only at hst;rw[List.append_nil]at hst;have HST:=ah hst;clear him hpl hst Iy i5;go_upto_region 22 with fail
        rw[lC.out,ny.out];clear e0 e1 e2 e3;go_wp2_with fail
        refine wp_loop_rounds 1 ?_;rw[rounds_succ];go_wp2_with fail
        go_roundw
        case rel=>exact⟨q+1,by omega,by go_num,by rw[HST.out];exact U3.out,xQ.out⟩
        case measure=>simp[intOf];omega
       |some i=>
        obtain⟨hin,hxi⟩:=HIX.out.no _ _ Iy;obtain⟨bi,oi,cI,hVi,hbi,cci⟩:=hpl i hin;have xP:=him.Iu (T:=122) (i:=(pi:Int)) (v:=V' i) (j:=i) Tryz.underlying122 Tryz.underlying3 (by simp[hin,hxi]);rw[hVi]at xP;rw[Iy]at hst;dsimp only at hst;have HST:=ah hst;have hnm:=yT Wr hK rfl;clear him hpl hst Iy i5 Wr hVi hxi;go_upto_region 22 with fail
        rw[lC.out,ny.out];clear e0 e1 e2 e3;go_wp2_with fail
        refine wp_loop_rounds 2 ?_;rw[rounds_succ];go_wp2_with fail
        refine hnm.mono ?_;rintro e w5 ⟨b3,s3,t3,rfl,o5,g5⟩;have oQ:=U3.out.below g5;have gj:=xQ.out.trans (g5.mono xQ.out.size);have Bt:Av (fun k=>k<wo.heap.size∨u15.ownBlock=some k) s3/\Av (fun k=>k<wo.heap.size∨u15.ownBlock=some k) t3:=⟨o5.av.1.mono fun k hk=>ak (HOB.out k hk) hNe,o5.av.2.mono fun k hk=>ak (HOB.out k hk) hNe⟩;have Bu:=ah Bt;have o5':=o5.is HZP.out;obtain⟨xs,hown,ld⟩:=oQ;have HJ:=ah hown.1;have a6:=bI w5 (.cells #[.int .i64 (i:Int),b3,s3,t3] 92);obtain⟨w6,iB⟩:=xeq (w5.alloc (.cells #[.int .i64 (i:Int),b3,s3,t3] 92));have h6:w6.heap[w5.heap.size]?=some (.cells #[.int .i64 (i:Int),b3,s3,t3] 92 (0,0)):=by rw[<-iB];exact aS w5 _
        rw[iB]at a6;have o6:=o5'.keep a6;have gJ:=bL hown (bw.of (P:=fun _=>False) a6) (fun _ _ h=>h);have jK:=ld.keep a6;have eC:=gj.trans (a6.mono gj.size);have hone:=o5'.qG (i:Int);obtain⟨k0,k1,k2⟩:=o5'.cl;have hrl:(lW ix (l.take q)).length<=1048576:=by have:=HRL.out;have:=LM.out.len;omega
        clear o5 o5' Bt hnm hown ld a6 gj g5 r0 r1 r2 r3 xP cci
        go_wp2_with (first
         |(at_builtin;(try rw[iB]);refine pJ rfl (.tmp 98) (.tmp 104) rfl rfl gJ rfl h6 hone hrl (by have:=eC.size;omega) ?_;intro g7 bR w7 ew dR eO kR
           have iu:w6.grownBy w7 u15.ownBlock:=dR;have jM:u15.ownBlock=some g7∨g7=w6.heap.size:=eO;have rI:=EO.push jK HJ.out o6 Bu.out.1 Bu.out.2 ew iu jM;have fW:=eC.trans ((bw.grown iu).below eC.size (fun k hk e=>by have:=(gJ.lt k e.symm).1;omega));rw[<-HST.out]at rI;have aoe:=ah rI;have HB7:=ah fW;clear dR eO iu jM ew gJ jK h6 iB eC o6 kR rI fW))
        rw[rounds_succ];go_wp2_with fail
        go_roundw
        case rel=>exact⟨q+1,by omega,by go_num,aoe.out,HB7.out⟩
        case measure=>simp[intOf];omega
      ·obtain rfl:la=q:=by omega
       rw[aI (by have:=LU.out;omega)]at dY;have XG:=PO UY dY (by have:=uR ix l;have:=LM.out.len;omega);have HBQ:=ah NU;clear dY NU;go_wp2_with fail
       refine XG.mono ?_;rintro e w8 ⟨rfl,D8,c8,r8,rfl,nD,G0,hs8,he8,b8⟩;clear XG;have bt:=HBQ.out.trans b8;have hgl:=HV.out.lt;have v8:=HV.out.bJ (P:=fun _=>False) (bw.of bt) (fun h=>h);have v9:=v8.set k (.slice D8 r8.length c8);have hcs:bw (·=g) w8 (w8.setCell ⟨g,k,none⟩ (.slice D8 r8.length c8)):=bw.set (P:=(·=g)) (p:=⟨g,k,none⟩) rfl _ _;have gk:=v8.cell hlk;have gf:=v8.frozen k;have is8:=IS.out.keep bt;have z2:=is8.c2;have XG:=BD HIX.out LM.out G0 hs8
       have hR9:∀i,i<k+1->(∃Di ci,bE V k (.slice D8 r8.length c8) i= .slice Di (bE R k r8 i).length ci/\((bE R k r8 i).length<=ci/\ci<=9223372036854775807)/\uP (w8.setCell ⟨g,k,none⟩ (.slice D8 r8.length c8)) (g+1) Di (bE R k r8 i) K)/\Can n (bE R k r8 i)/\∀j,j<n->gv (bE R k r8 i) j=gv (A (x i)) (x j):=fun i hi=>by
        by_cases e:i=k
        ·subst e;rw[aW,aW];exact⟨⟨D8,c8,rfl,nD,(he8.lo (by omega)).bJ hcs (fun q hq=>by omega)⟩,XG.1,fun j hj=>by rw[XG.2 j hj,EL_.out]⟩
        ·rw[bk _ _ e,bk _ _ e];obtain⟨⟨Di,ci,t1,t2,t3⟩,t4⟩:=HR.out i (by omega);exact⟨⟨Di,ci,t1,t2,(t3.below bt).bJ hcs (fun q hq=>by omega)⟩,t4⟩
       have jV:=HB.out.trans (bt.mono HB.out.size);have HX9:=ah (ai v9 (ai hR9 (ai ((HP.out.below bt).bJ hcs (by omega) (fun q hq=>by omega)) (ai (is8.bJ hcs (by omega)) (ai ((I0.out.keep bt).bJ hcs (by omega)) (ai ((IR.out.keep bt).bJ hcs (by omega)) (jV.trans (hcs.below jV.size (fun q hq e=>by omega)))))))));clear bt v8 v9 hcs is8 XG hR9 jV G0 hs8 he8 b8;go_wp2_with fail
       go_roundw
       case rel=>exact⟨k+1,_,_,by omega,by go_num,HX9.out⟩
       case measure=>simp[intOf];omega
    ·obtain rfl:n=k:=by omega
     obtain⟨r0,r1,r2,f0,f1,f2⟩:=id ir;have z0:=is.c0;have z1:=is.c1;have z2:=is.c2
     have hcs:bw (·=w.heap.size+1) wr (((wr.setCell ⟨w.heap.size+1,0,none⟩ (.int .i64 (n:Int))).setCell ⟨w.heap.size+1,1,none⟩ (.int .i64 (n:Int))).setCell ⟨w.heap.size+1,2,none⟩ (.slice (some ⟨g,0,none⟩) n n)):=
      ((bw.set (P:=(·=w.heap.size+1)) (p:=⟨w.heap.size+1,0,none⟩) rfl _ _).trans (bw.set (P:=(·=w.heap.size+1)) (p:=⟨w.heap.size+1,1,none⟩) rfl _ _)).trans (bw.set (P:=(·=w.heap.size+1)) (p:=⟨w.heap.size+1,2,none⟩) rfl _ _)
     have RU:Ir (((wr.setCell ⟨w.heap.size+1,0,none⟩ (.int .i64 (n:Int))).setCell ⟨w.heap.size+1,1,none⟩ (.int .i64 (n:Int))).setCell ⟨w.heap.size+1,2,none⟩ (.slice (some ⟨g,0,none⟩) n n)) w.heap.size (some ⟨g,0,none⟩) n R K:=by
      refine⟨g,V,rfl,by omega,hv.bJ hcs (by omega),fun i hi=>?_⟩;obtain⟨⟨Di,ci,t1,t2,t3⟩,_⟩:=hR i hi;exact⟨Di,ci,t1,t2,(t3.bJ hcs (fun q hq=>by omega)).lo (by omega)⟩
     have HX9:=ah (ai RU (ai (fun i hi=>(hR i hi).2:∀i,i<n->Can n (R i)/\∀j,j<n->gv (R i) j=gv (A (x i)) (x j)) (hb.trans (hcs.below hb.size (fun q hq e=>by omega)))));clear hv hR hp is i0 ir hb hcs RU;go_wp2_with fail
     exact bodyPost_ret (v:= .tuple #[.agg #[.int .i64 (n:Int), .int .i64 (n:Int), .slice (some ⟨g,0,none⟩) n n], .int .i64 0]) (by simp[results,Tryz.results45,go_sem,r0,r1,r2]) rfl ⟨some ⟨g,0,none⟩,n,R,rfl,⟨aj _,by omega⟩,HX9.out⟩
def RW(w:World)(M:Nat->Prop)(D:Option Addr)(l:List (Nat×Rat))(K:Nat):Prop:=
 0<l.length->∃N f,D=some ⟨N,0,none⟩/\¬M N/\N<w.heap.size/\dh l.length f=l/\(∀i,i<l.length->(f i).ok w M K)/\fP w N 0 l.length f
section
variable {w w':World}{M M' P:Nat->Prop}{D:Option Addr}{l:List (Nat×Rat)}{K L:Nat}
theorem RW.el(h:RW w M D l K):EL w D l K:=fun h0=>by
 obtain⟨N,f,rfl,h1,h2,h3,h4,h5⟩:=h h0;have:=h5.el h2 (aj _) h4;rw[h3]at this;exact this h0
theorem RW.bJ(h:RW w M D l K)(hc:bw P w w')(hp:∀k,P k->M k):RW w' M D l K:=fun h0=>by
 obtain⟨N,f,rfl,h1,h2,h3,h4,h5⟩:=h h0;exact⟨N,f,rfl,h1,ak h2 hc.size,h3,fun i hi=>(h4 i hi).bJ hc (fun k hk=> .inl (hp k hk)),h5.bJ hc h2 (fun h=>h1 (hp _ h))⟩
theorem RW.below(h:RW w M D l K)(hb:Below w.heap.size w w'):RW w' M D l K:=h.bJ (P:=fun _=>False) (bw.of hb) (fun _ h=>h.elim)
theorem RW.wide(h:RW w M D l K)(hm:∀k,M' k->M k∨w.heap.size<=k):RW w M' D l K:=fun h0=>by
 obtain⟨N,f,rfl,h1,h2,h3,h4,h5⟩:=h h0;exact⟨N,f,rfl,fun h=>(hm _ h).elim h1 (fun h=>by omega),h2,h3,fun i hi=>(h4 i hi).wide hm,h5⟩
theorem RW.mono(h:RW w M D l K)(hk:K<=L):RW w M D l L:=fun h0=>by
 obtain⟨N,f,rfl,h1,h2,h3,h4,h5⟩:=h h0;exact⟨N,f,rfl,h1,h2,h3,fun i hi=>(h4 i hi).mono hk,h5⟩
theorem uP.rw{lo:Nat}(h:uP w lo D l K)(hm:∀k,M k->k<lo):RW w M D l K:=fun h0=>by
 obtain⟨N,f,rfl,h1,h2,h3,h4,h5⟩:=h h0;exact⟨N,f,rfl,fun h=>by have:=hm _ h;omega,h2,h3,fun i hi=>(h4 i hi).wide (fun k hk=> .inl (.inl (hm k hk))),h5⟩
end
theorem nr.append{P:Nat->Prop}{w:World}{l m:List (Nat×Rat)}{xs ys:List Value}{K:Nat}(h:nr w P l xs K)(hx:xs.length=l.length*4)(h2:nr w P m ys K):nr w P (l++m) (xs++ys) K:=fun k p hp=>by
 by_cases e:k<l.length
 ·rw[aL e]at hp;obtain⟨h1,x',y',z',h2,h3,h4,h5⟩:=h k p hp
  have hl:k*4+3<xs.length:=by
   have:=(aC.1 h4).1;exact this
  exact⟨by rw[aL (by omega)];exact h1,x',y',z',by rw[aL (by omega)];exact h2,by rw[aL (by omega)];exact h3,by rw[aL (by omega)];exact h4,h5⟩
 ·rw[aK (by omega)]at hp;obtain⟨h1,x',y',z',h2',h3,h4,h5⟩:=h2 _ p hp;have e2:k*4-xs.length=(k-l.length)*4:=by omega
  exact⟨by rw[aK (by omega),e2];exact h1,x',y',z',by rw[aK (by omega),show k*4+1-xs.length=(k-l.length)*4+1 by omega];exact h2',by rw[aK (by omega),show k*4+2-xs.length=(k-l.length)*4+2 by omega];exact h3,by rw[aK (by omega),show k*4+3-xs.length=(k-l.length)*4+3 by omega];exact h4,h5⟩
def FM(g n:Nat)(V:Nat->Value)(M:Nat->Prop)(k:Nat):Prop:=iq g n V k∨M k
structure gG(w:World)(lo g n:Nat)(V:Nat->Value)(M:Nat->Prop)(A:Nat->List (Nat×Rat))(K:Nat)(L:Nat->List Value):Prop where
 fF:vY w lo g n 40 92 4 V (fun i=>(A i).length) L
 ent:∀i,i<n->nr w (FM g n V M) (A i) (L i) K
section
variable {w w':World}{lo g n:Nat}{V:Nat->Value}{M P:Nat->Prop}{A:Nat->List (Nat×Rat)}{K:Nat}{L:Nat->List Value}
theorem gG.bJ(h:gG w lo g n V M A K L)(hc:bw P w w')(hP:∀k,P k->M k)(hF:∀k,iq g n V k->¬P k):gG w' lo g n V M A K L:=
 ⟨h.fF.bJ hc hF,fun i hi=>(h.ent i hi).bJ hc (fun k hk=> .inl (.inr (hP k hk)))⟩
theorem gG.below(h:gG w lo g n V M A K L)(hb:Below w.heap.size w w'):gG w' lo g n V M A K L:=h.bJ (P:=fun _=>False) (bw.of hb) (fun _ h=>h.elim) (fun _ _ h=>h)
theorem nr.mono{P:Nat->Prop}{l:List (Nat×Rat)}{xs:List Value}{L:Nat}(h:nr w P l xs K)(hk:K<=L):nr w P l xs L:=fun i p hp=>by
 obtain⟨h1,x,y,z,h2,h3,h4,h5,h6⟩:=h i p hp;exact⟨h1,x,y,z,h2,h3,h4,h5.mono hk,h6⟩
theorem gG.mono{K':Nat}(h:gG w lo g n V M A K L)(hk:K<=K'):gG w lo g n V M A K' L:=⟨h.fF,fun i hi=>(h.ent i hi).mono hk⟩
theorem gG.grow(h:gG w lo g n V M A K L){i m:Nat}(hi:i<n){es:List (Nat×Rat)}{news:List Value}{w1:World}{g' cap:Nat}(hm:es.length=m)(hn:nr w (FM g n V M) es news K)
 (ho:w1.ownsRow lo 92 4 (.slice (some ⟨g',0,none⟩) ((A i).length+m) cap) ((A i).length+m) (L i++news)) (hg:w.grownBy w1 (V i).ownBlock) (iX:(V i).ownBlock=some g'∨g'=w.heap.size):
 gG (w1.setCell ⟨g,i,none⟩ (.slice (some ⟨g',0,none⟩) ((A i).length+m) cap)) lo g n (bE V i (.slice (some ⟨g',0,none⟩) ((A i).length+m) cap)) M (bE A i (A i++es)) K (bE L i (L i++news))/\
  bw (iq g n V) w (w1.setCell ⟨g,i,none⟩ (.slice (some ⟨g',0,none⟩) ((A i).length+m) cap)):=by
 obtain⟨h1,h2⟩:=h.fF.grow (m:=m) hi ho hg (iX.imp (fun e=>e.symm) (fun e=> .inr ⟨g',rfl,Nat.le_of_eq e.symm⟩))
 have hb:∀k,iq g n (bE V i (.slice (some ⟨g',0,none⟩) ((A i).length+m) cap)) k->iq g n V k∨w.heap.size<=k:=fun k hk=>by
  rcases hk with e|⟨j,hj,e⟩
  ·exact .inl (.inl e)
  ·by_cases e2:j=i
   ·subst e2;rw[aW]at e;injection e with e
    rcases iX with e3|e3
    ·exact .inl (.inr ⟨j,hj,by rw[e3,<-e]⟩)
    ·exact .inr (by rw[<-e];exact Nat.le_of_eq e3.symm)
   ·rw[bk _ _ e2]at e;exact .inl (.inr ⟨j,hj,e⟩)
 have hx:(L i).length=(A i).length*4:=(h.fF.own i hi).1
 have hfun:(fun j=>(bE A i (A i++es) j).length)=bE (fun j=>(A j).length) i ((A i).length+m):=by
  funext j
  unfold bE;split
  ·simp[hm]
  ·rfl
 refine⟨⟨by rw[hfun];exact h1,fun j hj=>?_⟩,h2⟩
 have key:∀(l:List (Nat×Rat)) (xs:List Value),nr w (FM g n V M) l xs K->nr (w1.setCell ⟨g,i,none⟩ (.slice (some ⟨g',0,none⟩) ((A i).length+m) cap)) (FM g n (bE V i (.slice (some ⟨g',0,none⟩) ((A i).length+m) cap)) M) l xs K:=fun l xs he=>by
  have e1:=he.wide (Q:=fun k=>FM g n V M k∨FM g n (bE V i (.slice (some ⟨g',0,none⟩) ((A i).length+m) cap)) M k) (fun k hk=>by
   rcases hk with hk|hk|hk
   ·exact .inl hk
   ·exact(hb k hk).imp (fun h=> .inl h) id
   ·exact .inl (.inr hk))
  exact(e1.bJ h2 (fun k hk=> .inl (.inl (.inl hk)))).wide (fun k hk=> .inl (.inr hk))
 by_cases e:j=i
 ·subst e;rw[aW,aW];exact key _ _ ((h.ent j hj).append hx hn)
 ·rw[bk _ _ e,bk _ _ e];exact key _ _ (h.ent j hj)
theorem gG.eo(h:gG w lo g n V M A K L){i:Nat}(hi:i<n):∃D c,V i= .slice D (A i).length c/\((A i).length<=c/\c<=9223372036854775807)/\EL w D (A i) K:=by
 have ho:=h.fF.own i hi;have he:=h.ent i hi;have hcl:=fun g=> @World.ownsRow.cells _ _ _ _ _ _ _ ho g;obtain⟨h1,⟨e,h0⟩|⟨g',cap,cur,e,hb,hh,hc,hm,_⟩⟩:=ho
 ·exact⟨none,0,by rw[e,h0],by omega,fun h=>by omega⟩
 ·have hlt:=(au.1 hh).1;refine⟨some ⟨g',0,none⟩,cap,e,⟨hc,hm⟩,fun _=>⟨g',0,rfl,hlt,fun j p hp=>?_⟩⟩;obtain⟨k0,x,y,z,k1,k2,k3,k4,_⟩:=he j p hp;have ob:(V i).ownBlock=some g':=by rw[e];rfl
  have a0:=hcl g' ob _ _ k0;have a1:=hcl g' ob _ _ k1;have a2:=hcl g' ob _ _ k2;have a3:=hcl g' ob _ _ k3;rw[ow]at a0 a1 a2 a3;refine⟨?_,x,y,z,?_,?_,?_,k4⟩
  ·rw[Nat.zero_add];exact a0
  ·rw[Nat.zero_add];exact a1
  ·rw[Nat.zero_add];exact a2
  ·rw[Nat.zero_add];exact a3
theorem gG.new(w:World)(lo n K:Nat)(M:Nat->Prop)(hl:lo<=w.heap.size):gG (w.alloc (.cells ((List.range n).map fun _=>Value.slice none 0 0).toArray 40)) lo w.heap.size n (fun _=> .slice none 0 0) M (fun _=>[]) K (fun _=>[]):=
 ⟨vY.new w lo n _ _ 4 hl,fun i _ j p hp=>by simp at hp⟩
end
def TB(w:World)(k:Nat)(T:TypeId):Prop:=∃cs,w.heap[k]?=some (.cells cs T (0,0))
theorem TB.ne{w:World}{k l:Nat}{T U:TypeId}(h:TB w k T)(h2:TB w l U)(hn:T≠U):k≠l:=fun e=>by
 subst e;obtain⟨a,ha⟩:=h;obtain⟨b,hb⟩:=h2;rw[ha]at hb;injection hb with hb
 injection hb with _ hb _
 exact hn hb
theorem TB.lt{w:World}{k:Nat}{T:TypeId}(h:TB w k T):k<w.heap.size:=by
 obtain⟨a,ha⟩:=h;exact(au.1 ha).1
theorem TB.bJ{P:Nat->Prop}{w w':World}{k:Nat}{T:TypeId}(h:TB w k T)(hc:bw P w w')(hp:¬P k):TB w' k T:=by
 have hl:=h.lt;obtain⟨a,ha⟩:=h;exact⟨a,(hc.block k hl hp).trans ha⟩
theorem IM.nt{w:World}{b k:Nat}{S:List (Int×Value)}{T:TypeId}(h:IM w b S)(ht:TB w k T):k≠b:=fun e=>by
 subst e;obtain⟨E,cl,h1,_⟩:=h.ex;obtain⟨a,ha⟩:=ht;rw[h1]at ha
 cases ha
theorem dm.tb{w:World}{g n:Nat}{T:TypeId}{V:Nat->Value}(h:dm w g T n V):TB w g T:=⟨_,h⟩
def SM(w:World)(b:Nat)(Q:Nat->Prop):Prop:=∃l,IM w b l/\∀p,p∈l↔∃i:Nat,p=((i:Int), .bool true)/\Q i
theorem SM.bJ{P:Nat->Prop}{w w':World}{b:Nat}{Q:Nat->Prop}(h:SM w b Q)(hc:bw P w w')(hb:¬P b):SM w' b Q:=by
 obtain⟨l,h1,h2⟩:=h;exact⟨l,h1.bJ hc hb,h2⟩
theorem SM.congr{w:World}{b:Nat}{Q Q':Nat->Prop}(h:SM w b Q)(hq:∀i,Q i↔Q' i):SM w b Q':=by
 obtain⟨l,h1,h2⟩:=h;exact⟨l,h1,fun p=>(h2 p).trans ⟨fun⟨i,e,hi⟩=>⟨i,e,(hq i).1 hi⟩,fun⟨i,e,hi⟩=>⟨i,e,(hq i).2 hi⟩⟩⟩
theorem SM.add{w:World}{b i:Nat}{Q:Nat->Prop}(h:SM w b Q):∃w',(Instr.mapUpdate 64 (.map (some b)) (.int .i64 (i:Int)) (.bool true)).run Tryz.prog w= .ok () w'/\SM w' b (fun k=>Q k∨k=i)/\bw (·=b) w w':=by
 obtain⟨l,h1,h2⟩:=h
 by_cases hi:Q i
 ·obtain⟨w',h3,h4,h5⟩:=h1.PN (T:=64) (i:=(i:Int)) (v:= .bool true) Tryz.underlying64 Tryz.underlying3 ((h2 _).2 ⟨i,rfl,hi⟩);refine⟨w',h3,⟨l,h4,fun p=>(h2 p).trans ⟨fun⟨k,e,hk⟩=>⟨k,e, .inl hk⟩,fun⟨k,e,hk⟩=>⟨k,e,hk.elim id (fun e=>e▸hi)⟩⟩⟩,h5⟩
 ·obtain⟨w',h3,h4,h5⟩:=h1.Gp (T:=64) (i:=(i:Int)) (v:= .bool true) Tryz.underlying64 Tryz.underlying3 (fun p hp e=>by
   obtain⟨k,rfl,hk⟩:=(h2 p).1 hp;have:(k:Int)=(i:Int):=e;rw[show k=i by omega]at hk;exact hi hk)
  refine⟨w',h3,⟨_,h4,fun p=>?_⟩,h5⟩;rw[List.mem_append,h2];constructor
  ·rintro(⟨k,e,hk⟩|h)
   ·exact⟨k,e, .inl hk⟩
   ·simp at h;exact⟨i,h, .inr rfl⟩
  ·rintro⟨k,e,hk|rfl⟩
   ·exact .inl ⟨k,e,hk⟩
   ·exact .inr (by simp[e])
theorem SM.del{w:World}{b i:Nat}{Q:Nat->Prop}{T':TypeId}(h:SM w b Q):∃w',(Builtin.delete_ #[64,3] T' #[.map (some b), .int .i64 (i:Int)]).run Tryz.prog w= .ok (.tuple #[]) w'/\SM w' b (fun k=>Q k/\k≠i)/\bw (·=b) w w':=by
 obtain⟨l,h1,h2⟩:=h;obtain⟨w',S',h3,h4,h5,h6⟩:=h1.del (T:=64) (T':=T') Tryz.underlying64 Tryz.underlying3 (i:Int);refine⟨w',h3,⟨S',h4,fun p=>?_⟩,h6⟩;rw[h5,h2];constructor
 ·rintro⟨⟨k,rfl,hk⟩,hne⟩;exact⟨k,rfl,hk,fun e=>hne (by rw[e])⟩
 ·rintro⟨k,rfl,hk,hne⟩;exact⟨⟨k,rfl,hk⟩,fun e=>hne (by have:(k:Int)=(i:Int):=e;omega)⟩
theorem SM.len{w:World}{b:Nat}{Q:Nat->Prop}{T':TypeId}(h:SM w b Q):∃c:Nat,(Builtin.len_ #[64] T' #[.map (some b)]).run Tryz.prog w= .ok (.int .i64 (c:Int)) w/\(c=0->∀i,¬Q i):=by
 obtain⟨l,h1,h2⟩:=h;refine⟨l.length,h1.len Tryz.underlying64,fun e i hi=>?_⟩;have:=(h2 ((i:Int), .bool true)).2 ⟨i,rfl,hi⟩;rw[List.eq_nil_of_length_eq_zero e]at this
 cases this
theorem SM.new(w:World):SM (w.alloc (.map #[] 0)) w.heap.size (fun _=>False):=⟨[],IM.new w,fun p=>⟨fun h=>by simp at h,fun⟨_,_,h⟩=>h.elim⟩⟩
theorem SM.lt{w:World}{b:Nat}{Q:Nat->Prop}(h:SM w b Q):b<w.heap.size:=by
 obtain⟨l,h1,_⟩:=h;exact h1.lt
theorem SM.nt{w:World}{b k:Nat}{Q:Nat->Prop}{T:TypeId}(h:SM w b Q)(ht:TB w k T):k≠b:=by
 obtain⟨l,h1,_⟩:=h;exact h1.nt ht
def MU(eb gr gi gf n:Nat)(mj:Nat->Nat)(k:Nat):Prop:=k=eb∨k=gr∨k=gi∨k=gf∨∃j,j<n/\mj j=k
structure ju where
 lo:Nat
 eb:Nat
 gr:Nat
 gl:Nat
 gi:Nat
 gf:Nat
 mj:Nat->Nat
def ju.mu(e:ju)(n:Nat):Nat->Prop:=MU e.eb e.gr e.gi e.gf n e.mj
structure EST(w:World)(e:ju)(n:Nat)(Vr Vl:Nat->Value)(L:Nat->List Value)(A Ls:Nat->List (Nat×Rat))(Q:Nat->Nat->Prop)(lf:List Nat)(K:Nat):Prop where
 st:w.heap[e.eb]?=some (.cells #[.slice (some ⟨e.gr,0,none⟩) n n, .slice (some ⟨e.gl,0,none⟩) n n, .slice (some ⟨e.gi,0,none⟩) n n, .slice (some ⟨e.gf,0,none⟩) lf.length n] 133 (0,0))
 rows:dm w e.gr 40 n Vr
 rws:∀i,i<n->∃D c,Vr i= .slice D (A i).length c/\((A i).length<=c/\c<=9223372036854775807)/\RW w (FM e.gl n Vl (e.mu n)) D (A i) K
 low:gG w e.lo e.gl n Vl (e.mu n) Ls K L
 maps:dm w e.gi 64 n (fun j=> .map (some (e.mj j)))
 sm:∀j,j<n->SM w (e.mj j) (Q j)
 mi:∀i j,i<n->j<n->e.mj i=e.mj j->i=j
 lf:∃cs:Array Value,w.heap[e.gf]?=some (.cells cs 3 (0,0))/\cs.size=n/\(∀(k x:Nat),lf[k]?=some x->cs[k]?=some (Value.int .i64 (x:Int)))/\lf.length<=n
 rl:e.gr≠e.gl
 lo:e.lo<=e.eb/\e.lo<=e.gr/\e.lo<=e.gl/\e.lo<=e.gi/\e.lo<=e.gf/\∀j,j<n->e.lo<=e.mj j
section
variable {w w':World}{e:ju}{n:Nat}{Vr Vl:Nat->Value}{L:Nat->List Value}{A Ls:Nat->List (Nat×Rat)}{Q:Nat->Nat->Prop}{lf:List Nat}{K:Nat}{P:Nat->Prop}
def ju.all(e:ju)(n:Nat)(Vl:Nat->Value):Nat->Prop:=FM e.gl n Vl (e.mu n)
theorem EST.kC(h:EST w e n Vr Vl L A Ls Q lf K):TB w e.eb 133:=⟨_,h.st⟩
theorem EST.pS(h:EST w e n Vr Vl L A Ls Q lf K):TB w e.gf 3:=by
 obtain⟨cs,h1,_⟩:=h.lf;exact⟨cs,h1⟩
theorem vY.tb{lo g n size:Nat}{T E:TypeId}{V:Nat->Value}{c:Nat->Nat}{L:Nat->List Value}(h:vY w lo g n T E size V c L){i k:Nat}(hi:i<n)(hk:(V i).ownBlock=some k):TB w k E:=by
 obtain⟨h1,⟨e,h0⟩|⟨g',cap,cur,e,hb,hh,hc,hm,_⟩⟩:=h.own i hi
 ·rw[e]at hk;simp[Value.ownBlock]at hk
 ·rw[e]at hk;injection hk with hk
  subst hk;exact⟨_,hh⟩
theorem EST.lt(h:EST w e n Vr Vl L A Ls Q lf K){k:Nat}(hk:e.all n Vl k):e.lo<=k/\k<w.heap.size:=by
 obtain⟨l1,l2,l3,l4,l5,l6⟩:=h.lo;rcases hk with hk|rfl|rfl|rfl|rfl|⟨j,hj,rfl⟩
 ·exact h.low.fF.ge hk
 ·exact⟨l1,h.kC.lt⟩
 ·exact⟨l2,h.rows.lt⟩
 ·exact⟨l4,h.maps.lt⟩
 ·exact⟨l5,h.pS.lt⟩
 ·exact⟨l6 j hj,(h.sm j hj).lt⟩
theorem EST.bJ(h:EST w e n Vr Vl L A Ls Q lf K)(hc:bw P w w')(hp:∀k,e.all n Vl k->¬P k)(hq:∀k,P k->w.heap.size<=k):EST w' e n Vr Vl L A Ls Q lf K where
 st:=(hc.block _ h.kC.lt (hp _ (.inr (.inl rfl)))).trans h.st
 rows:=h.rows.bJ hc (hp _ (.inr (.inr (.inl rfl))))
 rws:=fun i hi=>by
  obtain⟨D,c,h1,h2,h3⟩:=h.rws i hi;exact⟨D,c,h1,h2,h3.below (hc.below (aj _) (fun k hk hp=>by have:=hq k hp;omega))⟩
 low:=h.low.below (hc.below (aj _) (fun k hk hp=>by have:=hq k hp;omega))
 maps:=h.maps.bJ hc (hp _ (.inr (.inr (.inr (.inl rfl)))))
 sm:=fun j hj=>(h.sm j hj).bJ hc (hp _ (.inr (.inr (.inr (.inr (.inr ⟨j,hj,rfl⟩))))))
 mi:=h.mi
 lf:=by
  obtain⟨cs,h1,h2⟩:=h.lf;exact⟨cs,(hc.block _ h.pS.lt (hp _ (.inr (.inr (.inr (.inr (.inl rfl))))))).trans h1,h2⟩
 rl:=h.rl
 lo:=h.lo
theorem EST.below(h:EST w e n Vr Vl L A Ls Q lf K)(hb:Below w.heap.size w w'):EST w' e n Vr Vl L A Ls Q lf K:=h.bJ (P:=fun _=>False) (bw.of hb) (fun _ _ h=>h) (fun _ h=>h.elim)
theorem EST.mono{K':Nat}(h:EST w e n Vr Vl L A Ls Q lf K)(hk:K<=K'):EST w e n Vr Vl L A Ls Q lf K':=by
 obtain⟨a1,a2,a3,a4,a5,a6,a7,a8,a9,a10⟩:=h;refine⟨a1,a2,fun i hi=>?_,a4.mono hk,a5,a6,a7,a8,a9,a10⟩;obtain⟨D,c,h1,h2,h3⟩:=a3 i hi;exact⟨D,c,h1,h2,h3.mono hk⟩
theorem EST.jv{Q':Nat->Nat->Prop}(h:EST w e n Vr Vl L A Ls Q lf K)(hq:∀j,j<n->∀i,Q j i↔Q' j i):EST w e n Vr Vl L A Ls Q' lf K:=by
 obtain⟨a1,a2,a3,a4,a5,a6,a7,a8,a9,a10⟩:=h;exact⟨a1,a2,a3,a4,a5,fun j hj=>(a6 j hj).congr (hq j hj),a7,a8,a9,a10⟩
theorem EST.Ed(h:EST w e n Vr Vl L A Ls Q lf K){j:Nat}(hj:j<n)(hc:bw (·=e.mj j) w w'){q:Nat->Prop}(hs:SM w' (e.mj j) q):EST w' e n Vr Vl L A Ls (bE Q j q) lf K where
 st:=(hc.block _ h.kC.lt ((h.sm j hj).nt h.kC)).trans h.st
 rows:=h.rows.bJ hc ((h.sm j hj).nt h.rows.tb)
 rws:=fun i hi=>by
  obtain⟨D,c,h1,h2,h3⟩:=h.rws i hi;exact⟨D,c,h1,h2,h3.bJ hc (fun k hk=> .inr (.inr (.inr (.inr (.inr ⟨j,hj,hk.symm⟩)))))⟩
 low:=h.low.bJ hc (fun k hk=> .inr (.inr (.inr (.inr ⟨j,hj,hk.symm⟩)))) (fun k hk=>by
  rcases hk with rfl|⟨i,hi,hk⟩
  ·exact(h.sm j hj).nt h.low.fF.row.tb
  ·exact(h.sm j hj).nt (h.low.fF.tb hi hk))
 maps:=h.maps.bJ hc ((h.sm j hj).nt h.maps.tb)
 sm:=fun i hi=>by
  by_cases e2:i=j
  ·subst e2;rw[aW];exact hs
  ·rw[bk _ _ e2];exact(h.sm i hi).bJ hc (fun e3=>e2 (h.mi _ _ hi hj e3))
 mi:=h.mi
 lf:=by
  obtain⟨cs,h1,h2⟩:=h.lf;exact⟨cs,(hc.block _ h.pS.lt ((h.sm j hj).nt h.pS)).trans h1,h2⟩
 rl:=h.rl
 lo:=h.lo
theorem EST.setRow(h:EST w e n Vr Vl L A Ls Q lf K){i:Nat}(hi:i<n){D:Option Addr}{c:Nat}{r:List (Nat×Rat)}(hr:r.length<=c/\c<=9223372036854775807)(hrw:RW w (FM e.gl n Vl (e.mu n)) D r K):
 EST (w.setCell ⟨e.gr,i,none⟩ (.slice D r.length c)) e n (bE Vr i (.slice D r.length c)) Vl L (bE A i r) Ls Q lf K:=by
 have hc:bw (·=e.gr) w (w.setCell ⟨e.gr,i,none⟩ (.slice D r.length c)):=bw.set (P:=(·=e.gr)) (p:=⟨e.gr,i,none⟩) rfl _ _;have hM:∀k,k=e.gr->FM e.gl n Vl (e.mu n) k:=fun k hk=> .inr (.inr (.inl hk));refine⟨(hc.block _ h.kC.lt (h.kC.ne h.rows.tb (by decide))).trans h.st,h.rows.set i _,fun j hj=>?_,h.low.bJ hc (fun k hk=> .inr (.inl hk)) (fun k hk=>?_),h.maps.bJ hc (h.maps.tb.ne h.rows.tb (by decide)),fun j hj=>(h.sm j hj).bJ hc (fun e2=>(h.sm j hj).nt h.rows.tb e2.symm),h.mi,?_,h.rl,h.lo⟩
 ·by_cases e2:j=i
  ·subst e2;rw[aW,aW];exact⟨D,c,rfl,hr,hrw.bJ hc hM⟩
  ·rw[bk _ _ e2,bk _ _ e2];obtain⟨D',c',h1,h2,h3⟩:=h.rws j hj;exact⟨D',c',h1,h2,h3.bJ hc hM⟩
 ·rcases hk with rfl|⟨j,hj,hk⟩
  ·exact fun e2=>h.rl e2.symm
  ·exact(h.low.fF.tb hj hk).ne h.rows.tb (by decide)
 ·obtain⟨cs,h1,h2⟩:=h.lf;exact⟨cs,(hc.block _ h.pS.lt (h.pS.ne h.rows.tb (by decide))).trans h1,h2⟩
theorem EST.grow(h:EST w e n Vr Vl L A Ls Q lf K){i:Nat}(hi:i<n){p:Nat×Rat}{news:List Value}{w1:World}{g' cap:Nat}(hn:nr w (FM e.gl n Vl (e.mu n)) [p] news K)
 (ho:w1.ownsRow e.lo 92 4 (.slice (some ⟨g',0,none⟩) ((Ls i).length+1) cap) ((Ls i).length+1) (L i++news)) (hg:w.grownBy w1 (Vl i).ownBlock) (iX:(Vl i).ownBlock=some g'∨g'=w.heap.size):
 EST (w1.setCell ⟨e.gl,i,none⟩ (.slice (some ⟨g',0,none⟩) ((Ls i).length+1) cap)) e n Vr (bE Vl i (.slice (some ⟨g',0,none⟩) ((Ls i).length+1) cap)) (bE L i (L i++news)) A (bE Ls i (Ls i++ [p])) Q lf K:=by
 obtain⟨h1,hc⟩:=h.low.grow (m:=1) hi rfl hn ho hg iX
 have hF:∀k T,TB w k T->T≠40->T≠92->¬iq e.gl n Vl k:=fun k T ht hn1 hn2 hk=>by
  rcases hk with rfl|⟨j,hj,hk⟩
  ·exact ht.ne h.low.fF.row.tb hn1 rfl
  ·exact ht.ne (h.low.fF.tb hj hk) hn2 rfl
 have hb:∀k,FM e.gl n (bE Vl i (.slice (some ⟨g',0,none⟩) ((Ls i).length+1) cap)) (e.mu n) k->FM e.gl n Vl (e.mu n) k∨w.heap.size<=k:=fun k hk=>by
  rcases hk with (e2|⟨j,hj,e2⟩)|hk
  ·exact .inl (.inl (.inl e2))
  ·by_cases e3:j=i
   ·subst e3;rw[aW]at e2;injection e2 with e2
    rcases iX with e4|e4
    ·exact .inl (.inl (.inr ⟨j,hj,by rw[e4,<-e2]⟩))
    ·exact .inr (by rw[<-e2];exact Nat.le_of_eq e4.symm)
   ·rw[bk _ _ e3]at e2;exact .inl (.inl (.inr ⟨j,hj,e2⟩))
  ·exact .inl (.inr hk)
 have hgr:¬iq e.gl n Vl e.gr:=fun hk=>by
  rcases hk with hk|⟨j,hj,hk⟩
  ·exact h.rl hk
  ·exact h.rows.tb.ne (h.low.fF.tb hj hk) (by decide) rfl
 refine⟨(hc.block _ h.kC.lt (hF _ _ h.kC (by decide) (by decide))).trans h.st,h.rows.bJ hc hgr,fun j hj=>?_,h1,h.maps.bJ hc (hF _ _ h.maps.tb (by decide) (by decide)),fun j hj=>(h.sm j hj).bJ hc (fun hk=>?_),h.mi,?_,h.rl,h.lo⟩
 ·obtain⟨D',c',h2,h3,h4⟩:=h.rws j hj;have h5:=h4.wide (M':=fun k=>FM e.gl n Vl (e.mu n) k∨FM e.gl n (bE Vl i (.slice (some ⟨g',0,none⟩) ((Ls i).length+1) cap)) (e.mu n) k) (fun k hk=>hk.elim .inl (hb k));exact⟨D',c',h2,h3,(h5.bJ hc (fun k hk=> .inl (.inl hk))).wide (fun k hk=> .inl (.inr hk))⟩
 ·rcases hk with hk|⟨i',hi',hk⟩
  ·exact(h.sm j hj).nt h.low.fF.row.tb hk.symm
  ·exact(h.sm j hj).nt (h.low.fF.tb hi' hk) rfl
 ·obtain⟨cs,h2,h3⟩:=h.lf;exact⟨cs,(hc.block _ h.pS.lt (hF _ _ h.pS (by decide) (by decide))).trans h2,h3⟩
end
theorem Gt{w:World}{a:Addr}{v:Value}(h:w.cell? a=some v)(o:Obj):(w.alloc o).cell? a=some v:=by
 rw[World.cell?_alloc_some w a o (by rw[h];rfl)];exact h
theorem PZ:(Tryz.prog.info? 64).map (fun i=>(i.zero,i.size,i.bytes))=some (some (.map none),1,8):=by kernel_rfl
theorem P0(z:Int)(n:Nat)(hz:z=(n:Int))(hn:n<=1073741824)(u:World):
 (Instr.makeSlice 131 (.int .i64 z) (.int .i64 z)).run Tryz.prog u= .ok (.slice (some ⟨u.heap.size,0,none⟩) n n) (u.alloc (.cells ((List.range n).map fun _=>Value.map none).toArray 64)):=by
 obtain⟨i0,hi,hz0,hz1,hz2⟩:=info_parts PZ;subst hz;have h:=run_make (P:=Tryz.prog) u 131 64 i0 (.map none) Tryz.underlying131 hi hz0 .i64 .i64 (n:Int) (n:Int) (by omega) (Int.le_refl _) (by rw[hz2];omega) (by omega);simp only[Int.toNat_natCast]at h
 have e:madeCells (Value.map none).cells (n*i0.size)=((List.range n).map fun _=>Value.map none).toArray:=by
  rw[hz1];simp only[madeCells,Value.cells];apply Array.ext
  ·simp
  ·intro i h1 h2;simp[Nat.mod_one]
 rw[e]at h;exact h
theorem Can.gv{n:Nat}{l:List (Nat×Rat)}(h:Can n l)(j:Nat):gv l j≠0↔∃p∈l,p.1=j:=by
 rcases LB h.jF j with ⟨e,h1⟩|⟨p,hp,h1,e⟩
 ·rw[e];exact⟨fun h=>absurd rfl h,fun⟨p,hp,h2⟩=>absurd h2 (h1 p hp)⟩
 ·rw[e];exact⟨fun _=>⟨p,hp,h1⟩,fun _=>h.ne p hp⟩
theorem ML.fn{w:World}{D:Option Addr}{n:Nat}{A:Nat->List (Nat×Rat)}{K:Nat}(h:ML w D n A K):∃(DD:Nat->Option Addr) (CC:Nat->Nat),0<n->∃b off,D=some ⟨b,off,none⟩/\b<w.heap.size/\∀i,i<n->w.cell? ⟨b,off+i,none⟩=some (.slice (DD i) (A i).length (CC i))/\((A i).length<=CC i/\CC i<=9223372036854775807)/\EL w (DD i) (A i) K:=by
 rcases aM n with h0|h0
 ·exact⟨fun _=>none,fun _=>0,fun h=>by omega⟩
 ·obtain⟨b,off,rfl,h1,h2⟩:=h h0
  have hx:∀i,∃p:Option Addr×Nat,i<n->w.cell? ⟨b,off+i,none⟩=some (.slice p.1 (A i).length p.2)/\((A i).length<=p.2/\p.2<=9223372036854775807)/\EL w p.1 (A i) K:=fun i=>by
   by_cases hi:i<n
   ·obtain⟨Di,ci,h3⟩:=h2 i hi;exact⟨(Di,ci),fun _=>h3⟩
   ·exact⟨(none,0),fun h=>absurd h hi⟩
  obtain⟨f,hf⟩:=Classical.axiomOfChoice hx;exact⟨fun i=>(f i).1,fun i=>(f i).2,fun _=>⟨b,off,rfl,h1,fun i hi=>hf i hi⟩⟩
theorem ML.fnB{w w':World}{D:Option Addr}{n:Nat}{A:Nat->List (Nat×Rat)}{K:Nat}{DD:Nat->Option Addr}{CC:Nat->Nat}(h:0<n->∃b off,D=some ⟨b,off,none⟩/\b<w.heap.size/\∀i,i<n->w.cell? ⟨b,off+i,none⟩=some (.slice (DD i) (A i).length (CC i))/\((A i).length<=CC i/\CC i<=9223372036854775807)/\EL w (DD i) (A i) K)(hb:Below w.heap.size w w'):
 0<n->∃b off,D=some ⟨b,off,none⟩/\b<w'.heap.size/\∀i,i<n->w'.cell? ⟨b,off+i,none⟩=some (.slice (DD i) (A i).length (CC i))/\((A i).length<=CC i/\CC i<=9223372036854775807)/\EL w' (DD i) (A i) K:=fun h0=>by
 obtain⟨b,off,rfl,h1,h2⟩:=h h0;refine⟨b,off,rfl,ak h1 hb.size,fun i hi=>?_⟩;obtain⟨h3,h4,h5⟩:=h2 i hi;exact⟨(hb.cell (p:=⟨b,off+i,none⟩) h1).trans h3,h4,h5.below hb⟩
structure Ni(w:World)(e:ju)(n k:Nat):Prop where
 st:w.heap[e.eb]?=some (.cells #[.slice (some ⟨e.gr,0,none⟩) n n, .slice (some ⟨e.gl,0,none⟩) n n, .slice (some ⟨e.gi,0,none⟩) n n, .slice (some ⟨e.gf,0,none⟩) n n] 133 (0,0))
 rows:dm w e.gr 40 n (fun _=> .slice none 0 0)
 low:dm w e.gl 40 n (fun _=> .slice none 0 0)
 maps:dm w e.gi 64 n (fun j=>if j<k then .map (some (e.mj j))else .map none)
 sm:∀j,j<k->SM w (e.mj j) (fun _=>False)
 mi:∀i j,i<k->j<k->e.mj i=e.mj j->i=j
 lf:∃cs:Array Value,w.heap[e.gf]?=some (.cells cs 3 (0,0))/\cs.size=n/\∀j,j<k->cs[j]?=some (Value.int .i64 (j:Int))
 rl:e.gr≠e.gl
 lo:e.lo<=e.eb/\e.lo<=e.gr/\e.lo<=e.gl/\e.lo<=e.gi/\e.lo<=e.gf/\∀j,j<k->e.lo<=e.mj j
theorem Ni.kC{w:World}{e:ju}{n k:Nat}(h:Ni w e n k):TB w e.eb 133:=⟨_,h.st⟩
theorem Ni.pS{w:World}{e:ju}{n k:Nat}(h:Ni w e n k):TB w e.gf 3:=by
 obtain⟨cs,h1,_⟩:=h.lf;exact⟨cs,h1⟩
theorem cG{w:World}{b i:Nat}{cs:Array Value}{T:TypeId}{v:Value}(h:w.heap[b]?=some (.cells cs T (0,0))):(w.setCell ⟨b,i,none⟩ v).heap[b]?=some (.cells (cs.setIfInBounds i v) T (0,0)):=by
 simp[World.setCell,Array.getElem?_modify,h]
theorem Ni.step{w:World}{e:ju}{n k:Nat}(h:Ni w e n k)(hk:k<n)(hlo:e.lo<=w.heap.size):Ni (((w.alloc (.map #[] 0)).setCell ⟨e.gi,k,none⟩ (.map (some w.heap.size))).setCell ⟨e.gf,k,none⟩ (.int .i64 (k:Int))) {e with mj:=bE e.mj k w.heap.size} n (k+1):=by
 have hb:=bI w (.map #[] 0);have ca:bw (fun _=>False) w (w.alloc (.map #[] 0)):=bw.of hb;have K5:=SM.new w;obtain⟨w1,e1⟩:=xeq (w.alloc (.map #[] 0));rw[e1]at ca K5⊢;have c1:bw (·=e.gi) w1 (w1.setCell ⟨e.gi,k,none⟩ (.map (some w.heap.size))):=bw.set (P:=(·=e.gi)) (p:=⟨e.gi,k,none⟩) rfl _ _;have m1:=(h.maps.bJ ca (fun h=>h)).set k (.map (some w.heap.size));obtain⟨w2,e2⟩:=xeq (w1.setCell ⟨e.gi,k,none⟩ (.map (some w.heap.size)));rw[e2]at c1 m1⊢;have c2:bw (·=e.gf) w2 (w2.setCell ⟨e.gf,k,none⟩ (.int .i64 (k:Int))):=bw.set (P:=(·=e.gf)) (p:=⟨e.gf,k,none⟩) rfl _ _;have cc:bw (fun b=>b=e.gi∨b=e.gf) w (w2.setCell ⟨e.gf,k,none⟩ (.int .i64 (k:Int))):=(ca.mono (fun _ _ h=>h.elim)).trans ((c1.mono (fun _ _ h=> .inl h)).trans (c2.mono (fun _ _ h=> .inr h)));have t1:=h.kC.ne h.maps.tb (by decide);have t2:=h.kC.ne h.pS (by decide);have t3:=h.rows.tb.ne h.maps.tb (by decide);have t4:=h.rows.tb.ne h.pS (by decide);have t5:=h.low.tb.ne h.maps.tb (by decide);have t6:=h.low.tb.ne h.pS (by decide);have t7:=h.maps.tb.ne h.pS (by decide);obtain⟨cs,f1,f2,f3⟩:=h.lf;refine⟨(cc.block _ h.kC.lt (fun h=>h.elim t1 t2)).trans h.st,h.rows.bJ cc (fun h=>h.elim t3 t4),h.low.bJ cc (fun h=>h.elim t5 t6),(m1.bJ c2 t7).congr fun j hj=>?_,fun j hj=>?_,fun i j hi hj e3=>?_,⟨_,cG ((c1.block _ (ak h.pS.lt ca.size) (fun e=>t7 e.symm)).trans ((ca.block _ h.pS.lt (fun h=>h)).trans f1)),by simp[f2],fun j hj=>?_⟩,h.rl,⟨h.lo.1,h.lo.2.1,h.lo.2.2.1,h.lo.2.2.2.1,h.lo.2.2.2.2.1,fun j hj=>?_⟩⟩
 ·by_cases e3:j=k
  ·subst e3;rw[aW,if_pos (by omega)];show _=Value.map (some (bE e.mj j w.heap.size j));rw[aW]
  ·rw[bk _ _ e3]
   by_cases e4:j<k
   ·rw[if_pos e4,if_pos (by omega)];show _=Value.map (some (bE e.mj k w.heap.size j));rw[bk _ _ e3]
   ·rw[if_neg e4,if_neg (by omega)]
 ·show SM _ (bE e.mj k w.heap.size j) _
  by_cases e3:j=k
  ·subst e3;rw[aW];have h9:=K5.bJ c1 (by have:=h.maps.lt;omega);exact h9.bJ c2 (by have:=h.pS.lt;omega)
  ·rw[bk _ _ e3];have h9:=h.sm j (by omega);exact h9.bJ cc (fun h2=>h2.elim (fun e=>h9.nt h.maps.tb e.symm) (fun e=>h9.nt h.pS e.symm))
 ·have e3':bE e.mj k w.heap.size i=bE e.mj k w.heap.size j:=e3
  by_cases a1:i=k<;>by_cases a2:j=k
  ·omega
  ·subst a1;rw[aW,bk _ _ a2]at e3';have:=(h.sm j (by omega)).lt;omega
  ·subst a2;rw[aW,bk _ _ a1]at e3';have:=(h.sm i (by omega)).lt;omega
  ·rw[bk _ _ a1,bk _ _ a2]at e3';exact h.mi i j (by omega) (by omega) e3'
 ·rw[Array.getElem?_setIfInBounds]
  by_cases e3:k=j
  ·subst e3;simp[f2,hk]
  ·rw[if_neg e3];exact f3 j (by omega)
 ·show _<=bE e.mj k w.heap.size j
  by_cases e3:j=k
  ·subst e3;rw[aW];exact hlo
  ·rw[bk _ _ e3];exact h.lo.2.2.2.2.2 j (by omega)
theorem Ni.done{w:World}{e:ju}{n:Nat}(h:Ni w e n n)(K:Nat):EST w e n (fun _=> .slice none 0 0) (fun _=> .slice none 0 0) (fun _=>[]) (fun _=>[]) (fun _=>[]) (fun _ _=>False) (List.range n) K where
 st:=by rw[List.length_range];exact h.st
 rows:=h.rows
 rws:=fun i hi=>⟨none,0,rfl,⟨aj _,by decide⟩,fun h=>by simp at h⟩
 low:=⟨⟨h.low,fun i _=>World.ownsRow_nil _ _ _ _,fun i _=>by simp[Value.ownBlock],fun i j _ _ _ k hk=>by simp[Value.ownBlock]at hk,h.lo.2.2.1⟩,fun i _ j p hp=>by simp at hp⟩
 maps:=h.maps.congr fun j hj=>by rw[if_pos hj]
 sm:=h.sm
 mi:=h.mi
 lf:=by
  obtain⟨cs,h1,h2,h3⟩:=h.lf;refine⟨cs,h1,h2,fun k x hk=>?_,by simp⟩;have hkn:k<n:=by have:=(aC.1 hk).1;simpa using this
  rw[List.getElem?_range hkn]at hk;injection hk with hk
  subst hk;exact h3 k hkn
 rl:=h.rl
 lo:=h.lo
/-- Norm of a sorted list -/
theorem P2{w:World}{D:Option Addr}{l:List (Nat×Rat)}{c K M n:Nat}(hl:EL w D l K)(hm:l.length<=19)(hc:l.length<=c)(hs:jo l)(mB:1<=K)(hM:K<=M)(vS:M<=1099511627776)(hlt:∀p∈l,p.1<n)(hn:n<=1048576):
 Calls Tryz.prog 43 #[.slice D l.length c] w (rT w n M (gv l)):=by
 have ha:=(mV hl (by omega) hc hs).mono fun _ _ h=>h.mono hM;have ZU:1<=M:=by omega
 have HH:=ah (ai vS (ai hlt (ai hn (ai ZU hm))));obtain⟨m,em⟩:=xeq l.length;rw[em]at ha⊢;clear hl hm hc hM vS hlt hn ZU hs;go_enter Tryz.func43,Tryz.ntmps43
 go_wp2_with fail
 refine ha.mono ?_;rintro e w1 ⟨D1,r,c1,rfl,h1,h2,h3,h4,h5,h6,g1⟩;clear ha
 have hme:=yZ (w:=w1) (Da:=D1) (Db:=none) (A:=r) (B:=[]) (ca:=c1) (cb:=0) (K:=M) (M:=M) (n:=n) (kf:=72) (cs:=#[]) (op:=fun x _=>x) h1 EL.nil h3 (aj _) (by have:=HH.out.2.2.2.2;omega) (by simp) h2 (fun _ _ _ _ _ h=>by simp at h)
  (fun p hp=>by obtain⟨q,hq,e⟩:=h6 p hp;rw[<-e];exact HH.out.2.1 q hq) (fun p hp=>by simp at hp) HH.out.2.2.1 HH.out.2.2.2.1 HH.out.1 rfl (fun x y h _=>h) (enters_of Tryz.func72 (by kernel_rfl) rfl)
  (fun wr a b c a' b' c' x y _ hx hy=>Gn hx hy HH.out.1)
 have H5:=ah h5;clear h1 h2 h3 h4 h5 h6;go_wp2_with fail
 refine hme.mono ?_;rintro e w2 hr;have iW:=hr.conv g1 H5.out;obtain⟨v,rr,rfl,Jv⟩:=iW;have HR:=ah Jv;clear hr hme Jv;go_wp2_with fail
 go_ret;exact⟨v,rr,rfl,HR.out⟩
theorem P4{w:World}{D:Option Addr}{n c K M:Nat}{A:Nat->List (Nat×Rat)}(hn:n<=12)(hl:ML w D n A K)(hcan:∀i,i<n->Can n (A i))(mB:1<=K)(hM:K<=M)(vS:M<=1099511627776):
 Calls Tryz.prog 82 #[.agg #[.int .i64 (n:Int), .int .i64 (n:Int), .slice D n c]] w (fun e w'=>∃el Vr Vl L R,e= .returned (.pointer (some ⟨el.eb,0,none⟩))/\el.lo=w.heap.size/\EST w' el n Vr Vl L R (fun _=>[]) (fun j i=>i<n/\gv (R i) j≠0) (List.range n) M/\(∀i,i<n->Can n (R i)/\∀j,gv (R i) j=gv (A i) j)/\Below w.heap.size w w'):=by
 obtain⟨W,hW,bC,i0⟩:∃W,w.alloc (.cells #[.int .i64 (n:Int), .int .i64 (n:Int), .slice D n c] 34)=W/\Below w.heap.size w W/\cK W w.heap.size (.int .i64 (n:Int)) (.int .i64 (n:Int)) (.slice D n c):=⟨_,rfl,bI _ _,cK.jJ _ _ _ _ _⟩;obtain⟨DD,CC,hdd⟩:=hl.fn;have HL:=ah (fun W' (h:Below w.heap.size w W')=>ML.fnB hdd h);have Bw:=ah hcan;have HW:=ah hW;have l0:=i0.lt;have x0:=i0.c0;have x1:=i0.c1;have x2:=i0.c2;obtain⟨P5,hE⟩:=xeq (((List.range n).map fun _=>Value.slice none 0 0).toArray);obtain⟨csM,hM_⟩:=xeq (((List.range n).map fun _=>Value.map none).toArray);obtain⟨LX,U7⟩:=xeq (cQ n (fun _=>0));have mkE:=mD (n:Int) n rfl (by omega);have mkM:=P0 (n:Int) n rfl (by omega);have dI:=tT (n:Int) n rfl (by omega);rw[hE]at mkE;rw[hM_]at mkM;rw[U7]at dI;have HE:=ah hE;have HM_:=ah hM_;have HI_:=ah U7;clear hl hdd hcan hW hE hM_ U7;go_enter Tryz.func82,Tryz.ntmps82
 go_upto_region 1 with fail
 rw[HW.out]
 go_cut [3] (fun t wx=>∃eb gr gl gi gf:Nat,t= .pointer (some ⟨eb,0,none⟩)/\wx.heap[eb]?=some (.cells #[.slice (some ⟨gr,0,none⟩) n n, .slice (some ⟨gl,0,none⟩) n n, .slice (some ⟨gi,0,none⟩) n n, .slice (some ⟨gf,0,none⟩) n n] 133 (0,0))/\wx.heap[gr]?=some (.cells P5 40 (0,0))/\wx.heap[gl]?=some (.cells P5 40 (0,0))/\wx.heap[gi]?=some (.cells csM 64 (0,0))/\wx.heap[gf]?=some (.cells LX 3 (0,0))/\gr≠gl/\w.heap.size<eb/\w.heap.size<gr/\w.heap.size<gl/\w.heap.size<gi/\w.heap.size<gf/\Below W.heap.size W wx)
 case first=>
  refine wJ (by kernel_rfl) [[],[0],[1,1],[],[3],[4,4],[],[6],[7,7],[],[9],[10,10],[2,5,8,11],[12],[13,0,1,2,3,4,5,6,7,8,9,10,11,12,13]] rfl rfl [⟨9,fun γ=> .pointer (some ⟨w.heap.size,0,none⟩),[],none⟩,⟨10,fun γ=> .int .i64 (n:Int),[],none⟩,⟨11,fun γ=> .slice (some ⟨γ 2,0,none⟩) n n,[2],some fun γ=> .cells P5 40⟩,⟨12,fun γ=> .pointer (some ⟨w.heap.size,0,none⟩),[],none⟩,⟨13,fun γ=> .int .i64 (n:Int),[],none⟩,⟨14,fun γ=> .slice (some ⟨γ 5,0,none⟩) n n,[5],some fun γ=> .cells P5 40⟩,⟨15,fun γ=> .pointer (some ⟨w.heap.size,1,none⟩),[],none⟩,⟨16,fun γ=> .int .i64 (n:Int),[],none⟩,⟨17,fun γ=> .slice (some ⟨γ 8,0,none⟩) n n,[8],some fun γ=> .cells csM 64⟩,⟨18,fun γ=> .pointer (some ⟨w.heap.size,1,none⟩),[],none⟩,⟨19,fun γ=> .int .i64 (n:Int),[],none⟩,⟨20,fun γ=> .slice (some ⟨γ 11,0,none⟩) n n,[11],some fun γ=> .cells LX 3⟩,⟨21,fun γ=> .agg #[.slice (some ⟨γ 2,0,none⟩) n n, .slice (some ⟨γ 5,0,none⟩) n n, .slice (some ⟨γ 8,0,none⟩) n n, .slice (some ⟨γ 11,0,none⟩) n n],[2,5,8,11],none⟩,⟨22,fun γ=> .pointer (some ⟨γ 13,0,none⟩),[2,5,8,11,13],some fun γ=> .cells #[.slice (some ⟨γ 2,0,none⟩) n n, .slice (some ⟨γ 5,0,none⟩) n n, .slice (some ⟨γ 8,0,none⟩) n n, .slice (some ⟨γ 11,0,none⟩) n n] 133⟩,⟨3,fun γ=> .pointer (some ⟨γ 13,0,none⟩),[13],none⟩] (fun w'=>w'.cell? ⟨w.heap.size,0,none⟩=some (.int .i64 (n:Int))/\w'.cell? ⟨w.heap.size,1,none⟩=some (.int .i64 (n:Int))) rfl rfl rfl ⟨x0,x1⟩ (fun w o h=>⟨Gt h.1 o,Gt h.2 o⟩) ?_ rfl ?_ ?_
  ·intro s hs γ γ' h;simp only[List.mem_cons,List.not_mem_nil,or_false]at hs;rcases hs with rfl|rfl|rfl|rfl|rfl|rfl|rfl|rfl|rfl|rfl|rfl|rfl|rfl|rfl|rfl
   ·exact⟨rfl,fun o ho=>by cases ho⟩
   ·exact⟨rfl,fun o ho=>by cases ho⟩
   ·have q2:=h 2 (by simp);exact⟨by simp only[q2],fun o ho=>by injection ho with ho;subst ho;exact rfl⟩
   ·exact⟨rfl,fun o ho=>by cases ho⟩
   ·exact⟨rfl,fun o ho=>by cases ho⟩
   ·have q5:=h 5 (by simp);exact⟨by simp only[q5],fun o ho=>by injection ho with ho;subst ho;exact rfl⟩
   ·exact⟨rfl,fun o ho=>by cases ho⟩
   ·exact⟨rfl,fun o ho=>by cases ho⟩
   ·have q8:=h 8 (by simp);exact⟨by simp only[q8],fun o ho=>by injection ho with ho;subst ho;exact rfl⟩
   ·exact⟨rfl,fun o ho=>by cases ho⟩
   ·exact⟨rfl,fun o ho=>by cases ho⟩
   ·have q11:=h 11 (by simp);exact⟨by simp only[q11],fun o ho=>by injection ho with ho;subst ho;exact rfl⟩
   ·have q2:=h 2 (by simp);have q5:=h 5 (by simp);have q8:=h 8 (by simp);have q11:=h 11 (by simp);exact⟨by simp only[q2,q5,q8,q11],fun o ho=>by cases ho⟩
   ·have q2:=h 2 (by simp);have q5:=h 5 (by simp);have q8:=h 8 (by simp);have q11:=h 11 (by simp);have q13:=h 13 (by simp);exact⟨by simp only[q13],fun o ho=>by injection ho with ho;subst ho;exact(by simp only[q2,q5,q8,q11])⟩
   ·have q13:=h 13 (by simp);exact⟨by simp only[q13],fun o ho=>by cases ho⟩
  ·refine⟨⟨_,_,_,_,rfl,fun γ a w cZ hd ho=>?_⟩,⟨_,_,_,_,rfl,fun γ a w cZ hd ho=>?_⟩,⟨_,_,_,_,rfl,fun γ a w cZ hd ho=>?_⟩,⟨_,_,_,_,rfl,fun γ a w cZ hd ho=>?_⟩,⟨_,_,_,_,rfl,fun γ a w cZ hd ho=>?_⟩,⟨_,_,_,_,rfl,fun γ a w cZ hd ho=>?_⟩,⟨_,_,_,_,rfl,fun γ a w cZ hd ho=>?_⟩,⟨_,_,_,_,rfl,fun γ a w cZ hd ho=>?_⟩,⟨_,_,_,_,rfl,fun γ a w cZ hd ho=>?_⟩,⟨_,_,_,_,rfl,fun γ a w cZ hd ho=>?_⟩,⟨_,_,_,_,rfl,fun γ a w cZ hd ho=>?_⟩,⟨_,_,_,_,rfl,fun γ a w cZ hd ho=>?_⟩,⟨_,_,_,_,rfl,fun γ a w cZ hd ho=>?_⟩,⟨_,_,_,_,rfl,fun γ a w cZ hd ho=>?_⟩,⟨_,_,_,_,rfl,fun γ a w cZ hd ho=>?_⟩,trivial⟩
   ·have g1:=ho 1 rfl;(try dsimp only at g1);clear hd ho;go_simp
   ·have g9:=hd 0 (by decide) _ rfl;(try dsimp only at g9);clear hd ho;go_simp
   ·have g10:=hd 1 (by decide) _ rfl;(try dsimp only at g10);clear hd ho;go_simp;(try simp[bE])
   ·have g1:=ho 1 rfl;(try dsimp only at g1);clear hd ho;go_simp
   ·have g12:=hd 3 (by decide) _ rfl;(try dsimp only at g12);clear hd ho;go_simp
   ·have g13:=hd 4 (by decide) _ rfl;(try dsimp only at g13);clear hd ho;go_simp;(try simp[bE])
   ·have g1:=ho 1 rfl;(try dsimp only at g1);clear hd ho;go_simp
   ·have g15:=hd 6 (by decide) _ rfl;(try dsimp only at g15);clear hd ho;go_simp
   ·have g16:=hd 7 (by decide) _ rfl;(try dsimp only at g16);clear hd ho;go_simp;(try simp[bE])
   ·have g1:=ho 1 rfl;(try dsimp only at g1);clear hd ho;go_simp
   ·have g18:=hd 9 (by decide) _ rfl;(try dsimp only at g18);clear hd ho;go_simp
   ·have g19:=hd 10 (by decide) _ rfl;(try dsimp only at g19);clear hd ho;go_simp;(try simp[bE])
   ·have g11:=hd 2 (by decide) _ rfl;have g14:=hd 5 (by decide) _ rfl;have g17:=hd 8 (by decide) _ rfl;have g20:=hd 11 (by decide) _ rfl;(try dsimp only at g11 g14 g17 g20);simp only[Array.getD_eq_getD_getElem?]at g11 g14 g17 g20;clear hd ho;go_simp
   ·have g21:=hd 12 (by decide) _ rfl;(try dsimp only at g21);clear hd ho;go_simp;(try simp[bE])
   ·have g22:=hd 13 (by decide) _ rfl;(try dsimp only at g22);clear hd ho;go_simp
  ·intro γ w' uS hdf hb hS;obtain⟨h1,h2⟩:=uS 2 _ _ rfl rfl;obtain⟨h3,h4⟩:=uS 5 _ _ rfl rfl;obtain⟨h5,h6⟩:=uS 8 _ _ rfl rfl;obtain⟨h7,h8⟩:=uS 11 _ _ rfl rfl;obtain⟨h9,h10⟩:=uS 13 _ _ rfl rfl;have h11:=hdf 2 5 _ _ rfl rfl rfl rfl (by decide);(try dsimp only at h1 h3 h5 h7 h9);clear uS hdf;simp only[puts,Act.put,List.setIfInBounds_toArray,List.set_cons_zero,List.set_cons_succ];go_wp2_with fail
   go_meet;exact⟨γ 13,γ 2,γ 5,γ 8,γ 11,rfl,h9,h1,h3,h5,h7,h11,by omega,by omega,by omega,by omega,by omega,hb⟩
 case rest=>
  obtain⟨eb,gr,gl,gi,gf,rfl,h1,h2,h3,h4,h5,hrl,n1,n2,n3,n4,n5,kY⟩:=hcut;have y1:=bn kY l0 x1;have x2':=bn kY l0 x2;have hb1:=bC.trans (kY.mono bC.size)
  have hst:Ni wc ⟨w.heap.size,eb,gr,gl,gi,gf,fun _=>0⟩ n 0:=by
   refine⟨h1,?_,?_,?_,fun j h=>absurd h (by omega),fun i j h=>absurd h (by omega),⟨LX,h5,?_,fun j h=>absurd h (by omega)⟩,hrl,⟨by show w.heap.size<=eb;omega,by show w.heap.size<=gr;omega,by show w.heap.size<=gl;omega,by show w.heap.size<=gi;omega,by show w.heap.size<=gf;omega,fun j h=>absurd h (by omega)⟩⟩
   ·unfold dm;rw[HE.out];exact h2
   ·unfold dm;rw[HE.out];exact h3
   ·have:dm wc gi 64 n (fun _=> .map none):=by unfold dm;rw[HM_.out];exact h4
    exact this.congr fun j _=>by rw[if_neg (by omega)]
   ·rw[<-HI_.out];simp[cQ]
  clear h1 h2 h3 h4 h5 x0 x1 x2 kY i0 mkE mkM dI;go_wp2_with fail
  go_loopw [25] (fun t wr=>∃(k:Nat) (mj:Nat->Nat),k<=n/\t= .int .i64 (k:Int)/\Ni wr ⟨w.heap.size,eb,gr,gl,gi,gf,mj⟩ n k/\wr.cell? ⟨w.heap.size,2,none⟩=some (.slice D n c)/\Below w.heap.size w wr) (fun t _=>n- (intOf t).toNat)
  case atStart=>exact⟨0,_,aF _,rfl,hst,x2',hb1⟩
  case round=>
   clear hst x2' hb1 y1;obtain⟨k,mj,hk,rfl,hst,x2,hb⟩:=hrel
   by_cases hlk:k<n
   ·have U8:=hst.step hlk hb.size;have e2:=(aT wr eb 2 _ _ (0,0) hst.st).trans (show _=some (Value.slice (some ⟨gi,0,none⟩) n n)from rfl);have e3:=(aT wr eb 3 _ _ (0,0) hst.st).trans (show _=some (Value.slice (some ⟨gf,0,none⟩) n n)from rfl);have t1:=hst.kC.ne hst.maps.tb (by decide);have t2:=hst.kC.ne hst.pS (by decide);have t7:=hst.maps.tb.ne hst.pS (by decide);dsimp only at t1 t2 t7 U8;have hmc:=hst.maps.cell hlk;have hmf:=hst.maps.frozen k;rw[if_neg (Nat.lt_irrefl k)]at hmc;obtain⟨cs,f1,f2,f3⟩:=hst.lf;have fc:=aT wr gf k _ _ (0,0) f1;rw[Array.getElem?_eq_getElem (by rw[f2];exact hlk)]at fc;obtain⟨v,ev⟩:∃v,cs[k]'(by rw[f2];exact hlk)=v:=⟨_,rfl⟩;rw[ev]at fc;have ff:wr.frozen? ⟨gf,k,none⟩=false:=by simp[World.frozen?,f1]
    have v0:(0:Int)<=(k:Int):=by omega
    have v1:(k:Int)<n:=by omega
    have l1:=hst.maps.lt;have l2:=hst.pS.lt;have l3:=hst.kC.lt;have l4:=hb.size
    have x2':(((wr.alloc (.map #[] 0)).setCell ⟨gi,k,none⟩ (.map (some wr.heap.size))).setCell ⟨gf,k,none⟩ (.int .i64 (k:Int))).cell? ⟨w.heap.size,2,none⟩=some (.slice D n c):=by
     have n7:gi≠w.heap.size:=by omega
     have n8:gf≠w.heap.size:=by omega
     have h8:=Gt x2 (.map #[] 0);exact((bw.set (P:=(·=gf)) (p:=⟨gf,k,none⟩) rfl _ _).cell (fun e=>n8 e.symm) ((bw.set (P:=(·=gi)) (p:=⟨gi,k,none⟩) rfl _ _).cell (fun e=>n7 e.symm) h8))
    have jd:Below w.heap.size w (((wr.alloc (.map #[] 0)).setCell ⟨gi,k,none⟩ (.map (some wr.heap.size))).setCell ⟨gf,k,none⟩ (.int .i64 (k:Int))):=by
     have h8:=hb.trans ((bI wr (.map #[] 0)).mono hb.size);have h9:=h8.trans ((bw.set (P:=(·=gi)) (p:=⟨gi,k,none⟩) rfl (wr.alloc (.map #[] 0)) (.map (some wr.heap.size))).below h8.size (fun q hq e=>by omega));exact h9.trans ((bw.set (P:=(·=gf)) (p:=⟨gf,k,none⟩) rfl _ _).below h9.size (fun q hq e=>by omega))
    have HR:=ah (ai U8 (ai x2' jd));have hmm:=run_makeMap (P:=Tryz.prog) 64 wr;have ba:=bI wr (.map #[] 0);obtain⟨wa,iP⟩:=xeq (wr.alloc (.map #[] 0));obtain⟨mb,PG⟩:=xeq wr.heap.size;rw[iP]at HR hmm ba;dsimp only at l1 l2 l3;replace hmc:=(ba.cell (p:=⟨gi,k,none⟩) l1).trans hmc;replace hmf:=(ba.frozen (p:=⟨gi,k,none⟩) l1).trans hmf;replace e3:=(ba.cell (p:=⟨eb,3,none⟩) l3).trans e3;replace fc:=(ba.cell (p:=⟨gf,k,none⟩) l2).trans fc;replace ff:=(ba.frozen (p:=⟨gf,k,none⟩) l2).trans ff;rw[PG]at HR hmm;clear hst U8 f1 f2 f3 ev x2' jd hb x2 ba iP l1 l2 l3 l4 PG;go_wp2_with fail
    go_roundw
    case rel=>exact⟨k+1,_,by omega,by go_num,HR.out⟩
    case measure=>simp[intOf];omega
   ·obtain rfl:n=k:=by omega
    have hes:=(hst.done M).jv (Q':=fun j i=>i<0/\gv ((fun _=>([]:List (Nat×Rat))) i) j≠0) (fun j _ i=>⟨fun h=>h.elim,fun h=>absurd h.1 (by omega)⟩);have HES:=ah hes;have HB:=ah hb;clear hst hes hb;go_wp2_with fail
    clear x2
    go_loopw [46] (fun t wr=>∃(k:Nat) (Vr:Nat->Value) (R:Nat->List (Nat×Rat)),k<=n/\t= .int .i64 (k:Int)/\EST wr ⟨w.heap.size,eb,gr,gl,gi,gf,mj⟩ n Vr (fun _=> .slice none 0 0) (fun _=>[]) R (fun _=>[]) (fun j i=>i<k/\gv (R i) j≠0) (List.range n) M/\(∀i,i<k->Can n (R i)/\∀j,gv (R i) j=gv (A i) j)/\Below w.heap.size w wr) (fun t _=>n- (intOf t).toNat)
    case atStart=>exact⟨0,_,_,aF _,rfl,HES.out,fun i hi=>absurd hi (by omega),HB.out⟩
    case round=>
     clear HES HB;obtain⟨k,Vr,R,hk,rfl,hes,hR,hb⟩:=hrel
     by_cases hlk:k<n
     ·obtain⟨db,ak2,rfl,hdl,hdc⟩:=(HL.out _ hb) (by omega);obtain⟨d0,RX,hel⟩:=hdc k hlk;have JP:=Bw.out k hlk;have ak8:(A k).length<=n:=JP.len;have U9:=hes.below ((aq wr.heap.size wr).drew);have hnm:=P2 (c:=CC k) (n:=n) (M:=M) (hel.below ((aq wr.heap.size wr).drew)) (by omega) RX.1 JP.jF mB hM vS JP.lt (by omega);obtain⟨la,kL⟩:=xeq ((A k).length);obtain⟨Dk,eDk⟩:=xeq (DD k);obtain⟨ck,eck⟩:=xeq (CC k);rw[kL,eDk,eck]at d0;rw[kL,eDk,eck]at hnm;have SJ:la<=12:=by omega
      have LU:=ah kL;have EDK:=ah eDk;have z0:wr.drew.cell? ⟨eb,0,none⟩=some (.slice (some ⟨gr,0,none⟩) n n):=(aT wr eb 0 _ _ (0,0) hes.st).trans rfl;have leb:eb<wr.drew.heap.size:=hes.kC.lt;have nbr:¬eb=gr:=hes.kC.ne hes.rows.tb (by decide);have v0:(0:Int)<=(k:Int):=by omega
      have v1:(k:Int)<n:=by omega
      have HR:=ah hR;have HB:=ah hb;have LM:=ah JP;clear hR hb JP hes hdc hel kL eDk eck RX ak8;go_upto_region 11 with fail
      clear d0;refine wp_region_held_drew (S:=(fun w'=>w'.cell? ⟨eb,0,none⟩=some (.slice (some ⟨gr,0,none⟩) n n))) (by kernel_rfl) (z0) (fun aU=>?_);refine tq 0 aU ?_;refine tq 1 aU ?_;refine tq 2 aU ?_;refine tq 3 aU ?_;refine tq 4 aU ?_;refine tq 5 aU ?_;refine tv 6 (fun κ hκ=>?_);go_simp;go_at_call 43;refine hnm.mono ?_;rintro e w3 ⟨v3,r3,rfl,dY,lK,qJ,g3⟩;obtain⟨D3,c3,rfl,hc3,mC⟩:=dY.sF;have Q7:=U9.below g3;have k0:=bn g3 leb z0;have q1:=Q7.rows.cell hlk;have q2:=Q7.rows.frozen k;dsimp only at q1 q2;have Ws:=ah Q7;have aee:=ah (mC.rw (M:=FM gl n (fun _=> .slice none 0 0) (ju.mu ⟨w.heap.size,eb,gr,gl,gi,gf,mj⟩ n)) (fun q hq=>(U9.lt hq).2));clear dY mC Q7;go_wp2_with fail
      refine hκ.out _ _ ?_ (fun aU=>?_)
      ·exact k0
      clear hκ κ;refine tu ?_;refine tq 7 aU ?_;refine tv 8 (fun κ hκ=>?_);go_simp;refine hκ.out _ _ ?_ (fun aU=>?_)
      ·exact(bw.set (P:=(·=gr)) (p:=⟨gr,k,none⟩) rfl _ _).cell nbr k0
      clear hκ κ;refine tu ?_;refine td ?_ _;have Fo:=Ws.out.setRow hlk hc3 aee.out;obtain⟨w4,iG⟩:=xeq (w3.setCell ⟨gr,k,none⟩ (.slice D3 r3.length c3));dsimp only at Fo;rw[iG]at Fo;have fq:Below w.heap.size w w3:=HB.out.trans (((aq wr.heap.size wr).drew.trans g3).mono HB.out.size)
      have hb4:Below w.heap.size w w4:=by
       rw[<-iG];exact fq.trans ((bw.set (P:=(·=gr)) (p:=⟨gr,k,none⟩) rfl _ _).below fq.size (fun q hq e=>by have:=Ws.out.lo.2.1;dsimp only at this;omega))
      have Jx:=Fo.jv (Q':=fun j i=>(i<k/\gv (bE R k r3 i) j≠0)∨(i=k/\∃a,a<0/\∃p,(A k)[a]?=some p/\p.1=j)) (fun j _ i=>⟨fun h=> .inl ⟨h.1,by rw[bk _ _ (by have:=h.1;omega)];exact h.2⟩,fun h=>h.elim (fun h=>⟨h.1,by have h2:=h.2;rwa [bk _ _ (by have:=h.1;omega)]at h2⟩) (fun⟨_,a,ha,_⟩=>absurd ha (by omega))⟩);have aef:=ah Jx;have HB4:=ah hb4;have HCG:=ah (ai lK qJ);clear aU k0 q1 q2 fq hb4 Fo Jx Ws aee lK qJ g3 hnm z0 leb U9;rw[iG];clear iG;go_wp2_with fail
      go_loopw [61] (fun t wq=>∃q:Nat,q<=la/\t= .int .i64 (q:Int)/\EST wq ⟨w.heap.size,eb,gr,gl,gi,gf,mj⟩ n (bE Vr k (.slice D3 r3.length c3)) (fun _=> .slice none 0 0) (fun _=>[]) (bE R k r3) (fun _=>[]) (fun j i=>(i<k/\gv (bE R k r3 i) j≠0)∨(i=k/\∃a,a<q/\∃p,(A k)[a]?=some p/\p.1=j)) (List.range n) M/\Below w.heap.size w wq) (fun t _=>la- (intOf t).toNat)
      case atStart=>exact⟨0,aF _,rfl,aef.out,HB4.out⟩
      case round=>
       clear aef HB4;obtain⟨q,hq,rfl,hes,hb⟩:=hrel
       by_cases K7:q<la
       ·have hel:EL wr Dk (A k) K:=by
         obtain⟨_,_,_,_,aoh⟩:=HL.out _ hb (by omega);have hel:=(aoh k hlk).2.2;rw[EDK.out]at hel;exact hel
        obtain⟨p,hpq⟩:∃p,(A k)[q]?=some p:=⟨(A k)[q]'(by have:=LU.out;omega),aB _⟩;obtain⟨xb,xo,rfl,hxl,hxc⟩:=hel (by have:=LU.out;omega);obtain⟨e0,y1,y2,y3,e1,e2,e3,tD⟩:=hxc q p hpq;obtain⟨s0,s1,s2⟩:=tD.st;have jB:=LM.out.lt p (aD hpq);obtain⟨pi,pR⟩:=xeq p.1;rw[pR]at e0 jB;have v2:(0:Int)<=(q:Int):=by omega
        have v3:(q:Int)<la:=by omega
        have v4:(0:Int)<=(pi:Int):=by omega
        have v5:(pi:Int)<n:=by omega
        have bo:=bI wr (.cells #[.int .i64 (pi:Int),y1,y2,y3] 92);have i5:=Cr.new wr (.int .i64 (pi:Int)) y1 y2 y3;obtain⟨wb,gh⟩:=xeq (wr.alloc (.cells #[.int .i64 (pi:Int),y1,y2,y3] 92));obtain⟨Ne,fG⟩:=xeq wr.heap.size;rw[gh]at bo i5;rw[fG]at i5;have bz:=bo.trans ((aq wb.heap.size wb).drew.mono bo.size);have gZ:=hes.below bz;have eC:=hb.trans (bz.mono hb.size);have z0:wb.drew.cell? ⟨eb,2,none⟩=some (.slice (some ⟨gi,0,none⟩) n n):=(aT wb.drew eb 2 _ _ (0,0) gZ.st).trans rfl;have z1:wb.drew.cell? ⟨Ne,0,none⟩=some (.int .i64 (pi:Int)):=i5.c0;have z2:=gZ.maps.cell jB;dsimp only at z2;obtain⟨w7,hrun,wV,C4⟩:=(gZ.sm pi jB).add (i:=k);dsimp only at hrun wV C4;have Cu:=gZ.Ed jB C4 wV;have m1:¬eb=mj pi:=(gZ.sm pi jB).nt gZ.kC;have m2:¬gi=mj pi:=(gZ.sm pi jB).nt gZ.maps.tb;have m3:¬Ne=mj pi:=fun e=>by have:=(hes.sm pi jB).lt;dsimp only at this;omega
        have Cv:=Cu.jv (Q':=fun j i=>(i<k/\gv (bE R k r3 i) j≠0)∨(i=k/\∃a,a<q+1/\∃p,(A k)[a]?=some p/\p.1=j)) (fun j _ i=>by
         by_cases e:j=pi
         ·subst e;rw[aW];constructor
          ·rintro((h|⟨h,a,ha,h2⟩)|rfl)
           ·exact .inl h
           ·exact .inr ⟨h,a,by omega,h2⟩
           ·exact .inr ⟨rfl,q,by omega,p,hpq,pR⟩
          ·rintro(h|⟨rfl,_⟩)
           ·exact .inl (.inl h)
           ·exact .inr rfl
         ·rw[bk _ _ e];constructor
          ·rintro(h|⟨h,a,ha,h2⟩)
           ·exact .inl h
           ·exact .inr ⟨h,a,by omega,h2⟩
          ·rintro(h|⟨h,a,ha,p2,h2,h3⟩)
           ·exact .inl h
           ·refine .inr ⟨h,a,?_,p2,h2,h3⟩;rcases aN a q with h4|h4
            ·exact h4
            ·obtain rfl:a=q:=by omega
             rw[hpq]at h2;injection h2 with h2
             exact absurd (by rw[<-h3,<-h2];exact pR) e)
        have HR8:=ah (ai Cv (eC.trans (C4.below eC.size (fun q hq e=>by have:=gZ.lo.2.2.2.2.2 pi jB;dsimp only at this;omega))));have lC:=ah gh;have ny:=ah fG;have ye:=ah C4;clear hel hxc tD hes hb bo bz gZ eC wV C4 Cu Cv i5 gh fG pR hpq;go_upto_region 15 with fail
        rw[lC.out]
        try rw[ny.out]
        clear e0 e1 e2 e3;refine wp_region_held_drew (S:=(fun w'=>w'.cell? ⟨eb,2,none⟩=some (.slice (some ⟨gi,0,none⟩) n n)/\w'.cell? ⟨Ne,0,none⟩=some (.int .i64 (pi:Int))/\w'.cell? ⟨gi,pi,none⟩=some (.map (some (mj pi))))) (by kernel_rfl) (⟨z0,z1,z2⟩) (fun aU=>?_);refine tq 0 aU ?_;refine tq 1 aU ?_;refine tq 2 aU ?_;refine tq 3 aU ?_;refine tq 4 aU ?_;refine tq 5 aU ?_;refine tq 6 aU ?_;refine tq 7 aU ?_;refine tq 8 aU ?_;refine tv 9 (fun κ hκ=>?_);go_simp;refine hκ.out _ _ ?_ (fun aU=>?_)
        ·exact⟨ye.out.cell m1 z0,ye.out.cell m3 z1,ye.out.cell m2 z2⟩
        clear hκ κ;refine tu ?_;refine td ?_ _;clear aU z0 z1 z2 hrun ye;go_wp2_with fail
        go_roundw
        case rel=>exact⟨q+1,by omega,by go_num,HR8.out⟩
        case measure=>simp[intOf];omega
       ·obtain rfl:la=q:=by omega
        have aei:=hes.jv (Q':=fun j i=>i<k+1/\gv (bE R k r3 i) j≠0) (fun j _ i=>by
         constructor
         ·rintro(⟨h1,h2⟩|⟨rfl,a,ha,p,hp,h3⟩)
          ·exact⟨by omega,h2⟩
          ·rw[aW,HCG.out.2];exact⟨by omega,(LM.out.gv j).2 ⟨p,aD hp,h3⟩⟩
         ·rintro⟨h1,h2⟩;rcases aN i k with h3|h3
          ·exact .inl ⟨h3,h2⟩
          ·obtain rfl:i=k:=by omega
           rw[aW,HCG.out.2]at h2;obtain⟨p,hp,h4⟩:=(LM.out.gv j).1 h2;obtain⟨a,ha⟩:=aJ hp;exact .inr ⟨rfl,a,by have:=(aC.1 ha).1;have:=LU.out;omega,p,ha,h4⟩)
        have hR2:∀i,i<k+1->Can n (bE R k r3 i)/\∀j,gv (bE R k r3 i) j=gv (A i) j:=fun i hi=>by
         by_cases e:i=k
         ·subst e;rw[aW];exact HCG.out
         ·rw[bk _ _ e];exact HR.out i (by omega)
        have HX:=ah (ai aei (ai hR2 hb));clear hes aei hR2 hb;go_wp2_with fail
        go_roundw
        case rel=>exact⟨k+1,_,_,by omega,by go_num,HX.out⟩
        case measure=>simp[intOf];omega
     ·obtain rfl:n=k:=by omega
      have HX:=ah (ai hes (ai hR hb));clear hes hR hb;go_wp2_with fail
      go_ret;exact⟨⟨w.heap.size,eb,gr,gl,gi,gf,mj⟩,_,_,_,R,rfl,rfl,HX.out.1,HX.out.2.1,HX.out.2.2⟩
/-- the number of rows in a column that is left -/
theorem P6{w:World}{e:ju}{n k q:Nat}{Vr Vl:Nat->Value}{L:Nat->List Value}{A Ls:Nat->List (Nat×Rat)}{Q:Nat->Nat->Prop}{lf:List Nat}{K:Nat}(h:EST w e n Vr Vl L A Ls Q lf K)(hq:w.cell? ⟨q,0,none⟩=some (.pointer (some ⟨e.eb,0,none⟩))){x:Nat}(hk:lf[k]?=some x)(hx:x<n):
 Calls Tryz.prog 115 #[.int .i64 (k:Int), .pointer (some ⟨q,0,none⟩)] w (fun r w'=>∃c:Nat,r= .returned (.int .i64 (c:Int))/\(c=0->∀i,¬Q x i)/\Below w.heap.size w w'):=by
 have hkl:=(aC.1 hk).1;obtain⟨cs,f1,f2,f3,f4⟩:=h.lf;have fc:=(aT w e.gf k _ _ (0,0) f1).trans (f3 k x hk);have e2:=(aT w e.eb 2 _ _ (0,0) h.st).trans (show _=some (Value.slice (some ⟨e.gi,0,none⟩) n n)from rfl);have e3:=(aT w e.eb 3 _ _ (0,0) h.st).trans (show _=some (Value.slice (some ⟨e.gf,0,none⟩) lf.length n)from rfl);have mc:=h.maps.cell hx;obtain⟨c,hlen,hc0⟩:=((h.below (aq _ _).drew).sm x hx).len (T':=3);obtain⟨m,em⟩:=xeq lf.length;rw[em]at e3 hkl;have HC:=ah hc0;have v0:(0:Int)<=(k:Int):=by omega
 have v1:(k:Int)<m:=by omega
 have v2:(0:Int)<=(x:Int):=by omega
 have v3:(x:Int)<n:=by omega
 obtain⟨lo,eb,gr,gl,gi,gf,mj⟩:=e;dsimp only at hq fc e2 e3 mc hlen;clear h f1 f2 f3 hk em hc0;go_enter Tryz.func115,Tryz.ntmps115
 go_upto_region 1 with fail
 refine wp_region_held_drew (S:=(fun w'=>w'=w.drew)) (by kernel_rfl) (rfl) (fun aU=>?_);refine tp 0 aU ?_;refine tp 1 aU ?_;refine tp 2 aU ?_;refine tp 3 aU ?_;refine tp 4 aU ?_;refine tp 5 aU ?_;refine tp 6 aU ?_;refine tp 7 aU ?_;refine tp 8 aU ?_;refine tp 9 aU ?_;refine tp 10 aU ?_;refine tp 11 aU ?_;refine tp 12 aU ?_;refine tp 13 aU ?_;refine tp 14 aU ?_;refine td ?_ _;go_wp2_with fail
 go_ret;exact⟨c,rfl,HC.out,(aq _ _).drew⟩
def news(lf:List Nat)(b:Nat):List Value:=(lf.drop (b+1)).map fun(x:Nat)=> .int .i64 (x:Int)
theorem uW(lf:List Nat)(b:Nat):(news lf b).length=lf.length- (b+1):=by simp[news]
theorem Gu(lf:List Nat)(b j:Nat)(u:Value)(h:(news lf b)[j]?=some u):∃x:Nat,lf[b+1+j]?=some x/\u= .int .i64 (x:Int):=by
 simp only[news,List.getElem?_map,List.getElem?_drop,Option.map_eq_some_iff]at h;obtain⟨x,h1,h2⟩:=h;exact⟨x,h1,h2.symm⟩
theorem uX{g:Nat}{T:TypeId}:∀(vs:List Value) (o:Nat) (w:World) (cs:Array Value),w.heap[g]?=some (.cells cs T (0,0))->∃cs':Array Value,(w.setCells g o vs).heap[g]?=some (.cells cs' T (0,0))/\cs'.size=cs.size/\∀j,j<cs.size->cs'[j]?=if o<=j/\j<o+vs.length then vs[j-o]? else cs[j]?
 |[],o,w,cs,h=>⟨cs,h,rfl,fun j _=>by rw[if_neg (by simp)]⟩
 |v::r,o,w,cs,h=>by
  obtain⟨cs',h1,h2,h3⟩:=uX r (o+1) _ _ (cG (i:=o) (v:=v) h);refine⟨cs',h1,by rw[h2];simp,fun j hj=>?_⟩;rw[h3 j (by simpa using hj),Array.getElem?_setIfInBounds]
  by_cases e:o=j
  ·subst e;rw[if_neg (by omega),if_pos rfl,if_pos hj,if_pos (by simp)];simp
  ·rw[if_neg e]
   by_cases e2:o+1<=j/\j<o+1+r.length
   ·rw[if_pos e2,if_pos (by simp;omega),show j-o=(j- (o+1))+1 by omega,List.getElem?_cons_succ]
   ·rw[if_neg e2,if_neg (by simp;omega)]
theorem EST.P7{w:World}{e:ju}{n len:Nat}{Vr Vl:Nat->Value}{L:Nat->List Value}{A Ls:Nat->List (Nat×Rat)}{Q:Nat->Nat->Prop}{lf:List Nat}{K:Nat}(h:EST w e n Vr Vl L A Ls Q lf K){b:Nat}(hl:len+1=lf.length)(hb:b<lf.length):
 (∀j u,(news lf b)[j]?=some u->w.cell? ⟨e.gf,b+1+j,none⟩=some u)/\(∀j,j< (news lf b).length->(w.cell? ⟨e.gf,0+b*1+j,none⟩).isSome=true/\w.frozen? ⟨e.gf,0+b*1+j,none⟩=false)/\
 EST ((w.setCells e.gf (0+b*1) (news lf b)).setCell ⟨e.eb,3,none⟩ (.slice (some ⟨e.gf,0,none⟩) len n)) e n Vr Vl L A Ls Q (lf.eraseIdx b) K/\bw (e.all n Vl) w ((w.setCells e.gf (0+b*1) (news lf b)).setCell ⟨e.eb,3,none⟩ (.slice (some ⟨e.gf,0,none⟩) len n)):=by
 obtain⟨cs,f1,f2,f3,f4⟩:=h.lf;have Yl:e.eb≠e.gf:=h.kC.ne h.pS (by decide);have hc1:bw (·=e.gf) w (w.setCells e.gf (0+b*1) (news lf b)):=bw.sets (P:=(·=e.gf)) rfl _ _ _;obtain⟨cs',g1,g2,g3⟩:=uX (news lf b) (0+b*1) w cs f1;obtain⟨w1,e1⟩:=xeq (w.setCells e.gf (0+b*1) (news lf b));rw[e1]at hc1 g1⊢;have hc2:bw (·=e.eb) w1 (w1.setCell ⟨e.eb,3,none⟩ (.slice (some ⟨e.gf,0,none⟩) len n)):=bw.set (P:=(·=e.eb)) (p:=⟨e.eb,3,none⟩) rfl _ _;have hc:bw (fun k=>k=e.eb∨k=e.gf) w (w1.setCell ⟨e.eb,3,none⟩ (.slice (some ⟨e.gf,0,none⟩) len n)):=(hc1.mono (fun _ _ h=> .inr h)).trans (hc2.mono (fun _ _ h=> .inl h));have hM:∀k,(k=e.eb∨k=e.gf)->e.mu n k:=fun k hk=>hk.elim .inl (fun h=> .inr (.inr (.inr (.inl h))));have hel:(lf.eraseIdx b).length=len:=by rw[List.length_eraseIdx,if_pos hb];omega
 refine⟨fun j u hu=>?_,fun j hj=>?_,⟨?_,h.rows.bJ hc (fun hk=>hk.elim (h.rows.tb.ne h.kC (by decide)) (h.rows.tb.ne h.pS (by decide))),fun i hi=>?_,h.low.bJ hc hM (fun k hk=>?_),h.maps.bJ hc (fun hk=>hk.elim (h.maps.tb.ne h.kC (by decide)) (h.maps.tb.ne h.pS (by decide))),fun j hj=>(h.sm j hj).bJ hc (fun hk=>hk.elim (fun e2=>(h.sm j hj).nt h.kC e2.symm) (fun e2=>(h.sm j hj).nt h.pS e2.symm)),h.mi,⟨cs',?_,by rw[g2,f2],fun k x hk=>?_,by rw[hel];omega⟩,h.rl,h.lo⟩,hc.mono (fun k _ hk=> .inr (hM k hk))⟩
 ·obtain⟨x,hx,rfl⟩:=Gu _ _ _ _ hu;exact(aT w e.gf _ _ _ (0,0) f1).trans (f3 _ _ hx)
 ·rw[uW]at hj;have hjn:0+b*1+j<cs.size:=by omega
  refine⟨?_,by simp[World.frozen?,f1]⟩;rw[aT w e.gf _ _ _ (0,0) f1,Array.getElem?_eq_getElem hjn];rfl
 ·rw[hel,cG ((hc1.block _ h.kC.lt Yl).trans h.st)];rfl
 ·obtain⟨D',c',h1,h2,h3⟩:=h.rws i hi;exact⟨D',c',h1,h2,h3.bJ hc (fun k hk=> .inr (hM k hk))⟩
 ·rcases hk with rfl|⟨j,hj,hk⟩
  ·exact fun hk=>hk.elim (h.low.fF.row.tb.ne h.kC (by decide)) (h.low.fF.row.tb.ne h.pS (by decide))
  ·exact fun hk2=>hk2.elim ((h.low.fF.tb hj hk).ne h.kC (by decide)) ((h.low.fF.tb hj hk).ne h.pS (by decide))
 ·exact(hc2.block _ (by exact ak h.pS.lt hc1.size) (fun e2=>Yl e2.symm)).trans g1
 ·rw[List.getElem?_eraseIdx]at hk
  by_cases hkb:k<b
  ·rw[if_pos hkb]at hk;rw[g3 k (by omega),if_neg (by omega)];exact f3 k x hk
  ·rw[if_neg hkb]at hk;have hkl:=(aC.1 hk).1;rw[g3 k (by omega),if_pos (by rw[uW];omega)];simp only[news,List.getElem?_map,List.getElem?_drop];rw[show b+1+ (k- (0+b*1))=k+1 by omega,hk];rfl
def Gv(w:World)(r:Nat):Nat:=match w.heap[r]? with
 |some (.mapIter _ _ seen _)=>seen.size
 |_=>0
theorem IT.seen{w:World}{r b:Nat}{S done:List (Int×Value)}(h:IT w r b S done):Gv w r=done.length:=by
 obtain⟨E,cl,seen,D,_,_,_,_,h5,_,h7,h8⟩:=h.ex;unfold Gv;rw[h5];have a1:=congrArg List.length h7;have a2:=congrArg List.length h8;simp at a1 a2
 show seen.size=_
 omega
/-- a column that is left and a row of it -/
theorem LY{w:World}{e:ju}{n:Nat}{Vr Vl:Nat->Value}{L:Nat->List Value}{A Ls:Nat->List (Nat×Rat)}{Q:Nat->Nat->Prop}{lf:List Nat}{K:Nat}(h:EST w e n Vr Vl L A Ls Q lf K)(hn:n<=12)(hpos:0<lf.length)(hlf:∀x∈lf,x<n/\∃i,Q x i)(hQ:∀x i,x<n->Q x i->i<n):
 Calls Tryz.prog 83 #[.pointer (some ⟨e.eb,0,none⟩)] w (fun r w'=>∃b row col:Nat,lf[b]?=some col/\Q col row/\r= .returned (.tuple #[.int .i64 (row:Int), .int .i64 (col:Int), .bool true])/\EST w' e n Vr Vl L A Ls Q (lf.eraseIdx b) K/\bw (e.all n Vl) w w'):=by
 obtain⟨W,hW,bC,i0⟩:∃W,w.alloc (.cells #[.pointer (some ⟨e.eb,0,none⟩)] 126)=W/\Below w.heap.size w W/\W.cell? ⟨w.heap.size,0,none⟩=some (.pointer (some ⟨e.eb,0,none⟩)):=⟨_,rfl,bI _ _,aT _ _ 0 _ _ (0,0) (aS w _)⟩;obtain⟨q,RY⟩:=xeq w.heap.size;have Va:q<W.heap.size:=by rw[<-hW,<-RY];show _< (w.heap.push _).size;simp
 rw[RY]at i0;have HW:=ah hW;have hE:=h.below bC;have HE:=ah (fun w' (hb:Below W.heap.size W w')=>hE.below hb);have hx:∀k x,lf[k]?=some x->x<n:=fun k x hk=>(hlf x (aD hk)).1;have HCT:=ah (fun w' (hb:Below W.heap.size W w') k x (hk:lf[k]?=some x)=>P6 (hE.below hb) ((hb.cell (p:=⟨q,0,none⟩) Va).trans i0) hk (hx k x hk));have e3:=(aT W e.eb 3 _ _ (0,0) hE.st).trans (show _=some (Value.slice (some ⟨e.gf,0,none⟩) lf.length n)from rfl);have XF:=ah hlf;obtain⟨m,em⟩:=xeq lf.length;have EM:=ah em;rw[em]at e3 hpos;have hm12:m<=12:=by have:=h.lf;obtain⟨_,_,_,_,h4⟩:=this;omega
 have leb:e.eb<W.heap.size:=hE.kC.lt;clear hE h hlf hx em hW;go_enter Tryz.func83,Tryz.ntmps83
 go_upto_region 3 with fail
 rw[HW.out]
 go_upto_block 0 with fail
 go_cut [5] (fun t wx=>∃b:Nat,t= .int .i64 (b:Int)/\b<m/\Below W.heap.size W wx)
 case first=>
  go_wp2_with fail
  go_loopw [5,15] (fun u v wr=>∃b i:Nat,u= .int .i64 (b:Int)/\v= .int .i64 (i:Int)/\b<m/\i<=m/\Below W.heap.size W wr) (fun _ v _=>m- (intOf v).toNat)
  case atStart=>exact⟨0,0,rfl,rfl,hpos,aF _,aq _ _⟩
  case round=>
   obtain⟨b,i,rfl,rfl,hb,hi,hB⟩:=hrel
   by_cases hlt:i<m
   ·have v0:(0:Int)<=(i:Int):=by omega
    have v1:(i:Int)<m:=by omega
    obtain⟨xb,vW⟩:∃x,lf[b]?=some x:=⟨_,aB (by rw[EM.out];exact hb)⟩;obtain⟨xi,hxi⟩:∃x,lf[i]?=some x:=⟨_,aB (by rw[EM.out];exact hlt)⟩;go_wp2_with fail
    refine(HCT.out _ hB i xi hxi).mono ?_;rintro r1 w1 ⟨c1,rfl,-,hb1⟩;have vT:=hB.trans (hb1.mono hB.size);go_wp2_with fail
    refine(HCT.out _ vT b xb vW).mono ?_;rintro r2 w2 ⟨c2,rfl,-,hb2⟩;have rJ:=vT.trans (hb2.mono vT.size);go_wp2_with fail
    ·refine(HCT.out _ rJ i xi hxi).mono ?_;rintro r3 w3 ⟨c3,rfl,-,fq⟩;have hB3:=rJ.trans (fq.mono rJ.size);clear hB vT rJ hb1 hb2 fq;go_wp2_with fail
     ·go_meet;exact⟨_,rfl,by assumption,hB3⟩
     ·go_roundw
      case rel=>exact⟨i,i+1,rfl,by go_num,by assumption,by omega,hB3⟩
      case measure=>simp[intOf];omega
    ·refine(HCT.out _ rJ b xb vW).mono ?_;rintro r3 w3 ⟨c3,rfl,-,fq⟩;have hB3:=rJ.trans (fq.mono rJ.size);clear hB vT rJ hb1 hb2 fq;go_wp2_with fail
     ·go_meet;exact⟨_,rfl,by assumption,hB3⟩
     ·go_roundw
      case rel=>exact⟨b,i+1,rfl,by go_num,by assumption,by omega,hB3⟩
      case measure=>simp[intOf];omega
   ·obtain rfl:m=i:=by omega
    go_wp2_with fail
    go_meet;exact⟨b,rfl,hb,hB⟩
 case rest=>
  obtain⟨b,rfl,hb,hB⟩:=hcut;obtain⟨col,BI⟩:∃x,lf[b]?=some x:=⟨_,aB (by rw[EM.out];exact hb)⟩;go_wp2_with fail
  refine(HCT.out _ hB b col BI).mono ?_;rintro r1 w1 ⟨c1,rfl,hc0,hb1⟩;have vT:=hB.trans (hb1.mono hB.size);obtain⟨BJ,zZ,hqi⟩:=XF.out col (aD BI);have hc1:(c1:Int)≠0:=fun e=>hc0 (by omega) _ hqi;clear hc0;have Ym:=HE.out _ vT;obtain⟨cs,f1,f2,f3,f4⟩:=Ym.lf;have fc:=(aT w1 e.gf b _ _ (0,0) f1).trans (f3 b col BI);replace e3:=(vT.cell (p:=⟨e.eb,3,none⟩) leb).trans e3;have i0:=(vT.cell (p:=⟨q,0,none⟩) Va).trans i0;have v0:(0:Int)<=(b:Int):=by omega
  have v1:(b:Int)<m:=by omega
  clear hb1 hB;go_wp2_with fail
  have P8:=HE.out _ vT.drew;have tqZ:TB w1 q 126:=⟨_,(vT.block q Va).trans (by rw[<-HW.out,<-RY];exact aS w _)⟩;have nqe:¬q=e.eb:=tqZ.ne Ym.kC (by decide);have nqg:¬q=e.gf:=tqZ.ne Ym.pS (by decide);have hmn:m<=n:=by have h1:=EM.out;omega
  have FK:b<=n:=by omega
  obtain⟨b1,P9⟩:∃b1,b1=b+1:=⟨_,rfl⟩;have XH:b1<=m:=by omega
  have hwr:IntKind.i64.wrap ((b:Int)+1)=(b1:Int):=by subst P9;rw[IntKind.wrap_i64];omega
  obtain⟨X,hX,hX2⟩:∃X,(if n=b1 then some (⟨e.gf,0,none⟩:Addr)else some ⟨e.gf,b1,none⟩)=some ⟨e.gf,X,none⟩/\(n≠b1->X=b1):=by
   by_cases hc:n=b1
   ·exact⟨0,by rw[if_pos hc],fun h=>absurd hc h⟩
   ·exact⟨b1,by rw[if_neg hc],fun _=>rfl⟩
  have HL:=ah (P8.P7 (len:=b+ (m-b1)) (b:=b) (by rw[EM.out];omega) (by rw[EM.out];omega));have Tq:b+ (m-b1)<=n:=by omega
  have HN:=ah (show(news lf b).length=(m-b1)*1/\(∀j u,(news lf b)[j]?=some u->w1.drew.cell? ((⟨e.gf,X,none⟩:Addr).add j)=some u)/\∀u∈news lf b,u.oneCell'=true by
   refine⟨by rw[uW,EM.out,P9];omega,fun j u hu=>?_,fun u hu=>?_⟩
   ·have h1:=HL.out.1 j u hu;obtain⟨x,h2,-⟩:=Gu _ _ _ _ hu;have h3:=(aC.1 h2).1;have h4:=EM.out;have h5:X=b1:=hX2 (by omega);rw[<-P9,<-h5]at h1;simp only[Addr.add];split
    ·rename_i e0;rw[e0]at h1;exact h1
    ·exact h1
   ·obtain⟨x,-,rfl⟩:=List.mem_map.1 hu
    rfl)
  have hcx:bw (·=e.gf) w1.drew (w1.drew.setCells e.gf (0+b*1) (news lf b)):=bw.sets (P:=(·=e.gf)) rfl _ _ _;have neg:¬e.eb=e.gf:=Ym.kC.ne Ym.pS (by decide);obtain⟨wx,hwx⟩:=xeq (w1.drew.setCells e.gf (0+b*1) (news lf b));rw[hwx]at hcx;have k0:=hcx.cell nqg i0;have k3:=hcx.cell neg e3;have kf:wx.frozen? ⟨e.eb,3,none⟩=false:=by simp[World.frozen?,(hcx.block _ P8.kC.lt neg).trans P8.st]
  have k1:=(bw.set (P:=(·=e.eb)) (p:=⟨e.eb,3,none⟩) rfl wx (.slice (some ⟨e.gf,0,none⟩) (b+ (m-b1)) n)).cell nqe k0;clear P9 hX2 hcx f1 f2 f3 fc
  go_cut [] (fun wx=>EST wx e n Vr Vl L A Ls Q (lf.eraseIdx b) K/\bw (e.all n Vl) W wx/\wx.cell? ⟨q,0,none⟩=some (.pointer (some ⟨e.eb,0,none⟩)))
  case first=>
   refine wp_region_held_drew (S:=(fun w'=>w'.cell? ⟨q,0,none⟩=some (.pointer (some ⟨e.eb,0,none⟩)))) (by kernel_rfl) (i0) (fun aU=>?_);refine tq 0 aU ?_;refine tq 1 aU ?_;refine tq 2 aU ?_;refine tq 3 aU ?_;refine tq 5 aU ?_;refine tq 7 aU ?_;refine tq 8 aU ?_;refine tq 9 aU ?_;refine tq 11 aU ?_;refine tq 12 aU ?_;refine wpAnyH_ready (rs:=[4,10]) (by kernel_rfl) (by simp) ?_;refine nC 4 rfl (fun κ hκ=>?_) ?_
   focus
    go_simp;refine hκ.out _ _ ?_ (fun aU=>?_)
    ·exact aU
    clear hκ κ;refine tu ?_;refine tr (v:= .slice (some ⟨e.gf,0,none⟩) b n) 6 aU (fun w cZ=>?_) ?_
    focus((try dsimp only at cZ);go_simp;(try with_reducible rfl);done)
    try simp only[Act.put,List.setIfInBounds_toArray,List.set_cons_zero,List.set_cons_succ]
    refine tv 10 (fun κ hκ=>?_);go_simp;refine hκ.out _ _ ?_ (fun aU=>?_)
    ·exact aU
    clear hκ κ;refine tu ?_;refine tr (v:= .slice (some ⟨e.gf,X,none⟩) (m-b1) (n-b1)) 13 aU (fun w cZ=>?_) ?_
    focus((try dsimp only at cZ);go_simp;(try with_reducible rfl);done)
    try simp only[Act.put,List.setIfInBounds_toArray,List.set_cons_zero,List.set_cons_succ]
    refine tv 14 (fun κ hκ=>?_);obtain⟨zZ,hi',hz0,hz1,hz2⟩:=info_parts qc;refine step_append_room rfl (.tmp 48) (.tmp 55) 22 rfl 3 zZ 1 Tryz.underlying22 hi' hz1 e.gf 0 b n rfl ⟨e.gf,X,none⟩ (m-b1) (n-b1) (news lf b) rfl HN.out.1 HN.out.2.1 HN.out.2.2 Tq HL.out.2.1 ?_;rw[hwx];refine hκ.out _ _ ?_ (fun aU=>?_)
    ·exact k0
    clear hκ κ;refine tu ?_;refine tq 15 aU ?_;refine tq 16 aU ?_;refine tv 17 (fun κ hκ=>?_);go_simp;refine hκ.out _ _ ?_ (fun aU=>?_)
    ·exact k1
    clear hκ κ;refine tu ?_;refine td ?_ _;go_wp2_with fail
    go_meet;have h9:=HL.out.2.2;rw[hwx]at h9;exact⟨h9.1,((bw.of (P:=fun _=>False) vT.drew).mono (fun _ _ h=>h.elim)).trans h9.2,k1⟩
   refine nC 10 rfl (fun κ hκ=>?_) ?_
   focus
    go_simp;refine hκ.out _ _ ?_ (fun aU=>?_)
    ·exact aU
    clear hκ κ;refine tu ?_;refine tr (v:= .slice (some ⟨e.gf,X,none⟩) (m-b1) (n-b1)) 13 aU (fun w cZ=>?_) ?_
    focus((try dsimp only at cZ);go_simp;(try with_reducible rfl);done)
    try simp only[Act.put,List.setIfInBounds_toArray,List.set_cons_zero,List.set_cons_succ]
    refine tv 4 (fun κ hκ=>?_);go_simp;refine hκ.out _ _ ?_ (fun aU=>?_)
    ·exact aU
    clear hκ κ;refine tu ?_;refine tr (v:= .slice (some ⟨e.gf,0,none⟩) b n) 6 aU (fun w cZ=>?_) ?_
    focus((try dsimp only at cZ);go_simp;(try with_reducible rfl);done)
    try simp only[Act.put,List.setIfInBounds_toArray,List.set_cons_zero,List.set_cons_succ]
    refine tv 14 (fun κ hκ=>?_);obtain⟨zZ,hi',hz0,hz1,hz2⟩:=info_parts qc;refine step_append_room rfl (.tmp 48) (.tmp 55) 22 rfl 3 zZ 1 Tryz.underlying22 hi' hz1 e.gf 0 b n rfl ⟨e.gf,X,none⟩ (m-b1) (n-b1) (news lf b) rfl HN.out.1 HN.out.2.1 HN.out.2.2 Tq HL.out.2.1 ?_;rw[hwx];refine hκ.out _ _ ?_ (fun aU=>?_)
    ·exact k0
    clear hκ κ;refine tu ?_;refine tq 15 aU ?_;refine tq 16 aU ?_;refine tv 17 (fun κ hκ=>?_);go_simp;refine hκ.out _ _ ?_ (fun aU=>?_)
    ·exact k1
    clear hκ κ;refine tu ?_;refine td ?_ _;go_wp2_with fail
    go_meet;have h9:=HL.out.2.2;rw[hwx]at h9;exact⟨h9.1,((bw.of (P:=fun _=>False) vT.drew).mono (fun _ _ h=>h.elim)).trans h9.2,k1⟩
   exact AllReadyH.nil
  case rest=>
   clear HL HN neg hwx k0 k3 kf k1 P8 Ym i0 e3 hwr hX Tq tqZ nqe nqg XH FK hmn v0 v1;obtain⟨Oi,QH,i2⟩:=hcut;have nq2:q<wc.heap.size:=ak Va QH.size;have e2:=(aT wc e.eb 2 _ _ (0,0) Oi.st).trans (show _=some (Value.slice (some ⟨e.gi,0,none⟩) n n)from rfl);have mc:=Oi.maps.cell BJ;obtain⟨S,hIM,hS⟩:=Oi.sm col BJ;obtain⟨wn,hrun,wK,FK⟩:=hIM.range (T:=64) Tryz.underlying64;have HRL:=ah (show∀k,e.all n Vl k->k<wc.heap.size from fun k hk=>(Oi.lt hk).2);have hgB:e.mj col<wc.heap.size:=(Oi.sm col BJ).lt;have HF:=ah (show∀wr,Below wc.heap.size wc wr->EST wr e n Vr Vl L A Ls Q (lf.eraseIdx b) K/\wr.cell? ⟨q,0,none⟩=some (.pointer (some ⟨e.eb,0,none⟩))/\bw (e.all n Vl) w wr from fun wr hb=>⟨Oi.below hb,(hb.cell (p:=⟨q,0,none⟩) nq2).trans i2,((bw.of (P:=fun _=>False) bC).mono (fun _ _ h=>h.elim)).trans (QH.trans ((bw.of (P:=fun _=>False) hb).mono (fun _ _ h=>h.elim)))⟩);obtain⟨r,hr⟩:=xeq wc.heap.size;rw[hr]at hrun wK nq2 hgB FK HF;have v0:(0:Int)<=(col:Int):=by omega
   have v1:(col:Int)<n:=by omega
   have HS:=ah hS;have HR:=ah (ai wK FK);clear QH Oi hS hIM wK FK hr HRL;go_wp2_with fail
   go_loopw [2] (fun t wr=>(∃(z:Int) (done:List (Int×Value)),t= .int .i64 z/\IT wr r (e.mj col) S done/\((z= -1/\done=[])∨∃row:Nat,z=row/\Q col row))/\Below r wc wr) (fun _ wr=>S.length-Gv wr r)
   case atStart=>exact⟨⟨-1,[],rfl,HR.out.1, .inl ⟨rfl,rfl⟩⟩,HR.out.2⟩
   case round=>
    clear HR hrun mc e2 i2 v0 v1;obtain⟨⟨z,done,rfl,wK,hz⟩,hb⟩:=hrel;rcases wK.next 0 with ⟨hall,hnext⟩|⟨p,hpS,jB,hlen,w5,hnext,zP,Yn⟩
    ·have hz2:∃row:Nat,z=row/\Q col row:=by
      rcases hz with ⟨_,rfl⟩|h
      ·exact absurd (hall _ ((HS.out _).2 ⟨zZ,rfl,hqi⟩)) (by simp)
      ·exact h
     obtain⟨row,rfl,hqr⟩:=hz2;have HE:=ah (HF.out _ hb);clear hall wK hz;go_wp2_with fail
     go_ret3
     exact⟨b,row,col,BI,hqr,rfl,HE.out.1,HE.out.2.2⟩
    ·obtain⟨i,rfl,aek⟩:=(HS.out _).1 hpS;have hin:i<n:=hQ _ _ BJ aek;have LZ:=zP.entry;have gj:=hb.trans (Yn.below (aR wK.lt.1) (fun k hk e=>by omega));obtain⟨Nj,i5,-⟩:=HF.out _ gj;have e0:=(aT w5 e.eb 0 _ _ (0,0) Nj.st).trans (show _=some (Value.slice (some ⟨e.gr,0,none⟩) n n)from rfl);obtain⟨Di,ci,eVi,-,-⟩:=Nj.rws i hin;have ri:=Nj.rows.cell hin;rw[eVi]at ri;obtain⟨la,kL⟩:=xeq ((A i).length);rw[kL]at ri;have v0:(0:Int)<=(i:Int):=by omega
     have v1:(i:Int)<n:=by omega
     have aoi:=ah zP;have HM:=ah (ai wK.seen hlen);clear zP wK Yn hb hpS jB eVi kL hlen;go_upto_region 18 with fail
     go_cut [115] (fun t wx=>∃bv:Bool,t= .bool bv/\(z= -1->bv=true)/\Below r wc wx/\Below w5.heap.size w5 wx)
     case first=>
      have HB5:=ah gj.drew;have HX5:=ah (aq w5.heap.size w5).drew;rcases hz with ⟨rfl,-⟩|⟨row,rfl,hqr⟩
      ·
       clear hnext LZ gj Nj;refine wp_region_held_drew (S:=(fun w'=>w'=w5.drew)) (by kernel_rfl) (rfl) (fun aU=>?_);refine tp 0 aU ?_;refine tr (v:= .bool true) 1 aU (fun w cZ=>?_) ?_
       focus(subst cZ;go_simp;(try with_reducible rfl);done)
       try simp only[Act.put,List.setIfInBounds_toArray,List.set_cons_zero,List.set_cons_succ]
       refine tr (v:= .bool true) 2 aU (fun w cZ=>?_) ?_
       focus(subst cZ;go_simp;(try with_reducible rfl);done)
       try simp only[Act.put,List.setIfInBounds_toArray,List.set_cons_zero,List.set_cons_succ]
       refine tn 3 aU ?_;refine tn 4 aU ?_;refine tn 5 aU ?_;refine tn 6 aU ?_;refine tn 7 aU ?_;refine tn 8 aU ?_;refine tn 9 aU ?_;refine tn 10 aU ?_;refine tn 11 aU ?_;refine tn 12 aU ?_;refine tn 13 aU ?_;refine tn 14 aU ?_;refine tn 15 aU ?_;refine tn 16 aU ?_;refine tn 17 aU ?_;refine tn 18 aU ?_;refine tn 19 aU ?_;refine tr (v:= .bool true) 20 aU (fun w cZ=>?_) ?_
       focus(subst cZ;go_simp;(try with_reducible rfl);done)
       try simp only[Act.put,List.setIfInBounds_toArray,List.set_cons_zero,List.set_cons_succ]
       refine tr (v:= .bool true) 21 aU (fun w cZ=>?_) ?_
       focus(subst cZ;go_simp;(try with_reducible rfl);done)
       try simp only[Act.put,List.setIfInBounds_toArray,List.set_cons_zero,List.set_cons_succ]
       refine tn 22 aU ?_;refine tn 23 aU ?_;refine tn 24 aU ?_;refine tn 25 aU ?_;refine tn 26 aU ?_;refine tn 27 aU ?_;refine tn 28 aU ?_;refine tn 29 aU ?_;refine tn 30 aU ?_;refine tn 31 aU ?_;refine tn 32 aU ?_;refine tn 33 aU ?_;refine tn 34 aU ?_;refine tn 35 aU ?_;refine tn 36 aU ?_;refine tn 37 aU ?_;refine tn 38 aU ?_;refine tn 39 aU ?_;refine tn 40 aU ?_;refine tn 41 aU ?_;refine tn 42 aU ?_;refine tn 43 aU ?_;refine tr (v:= .bool true) 44 aU (fun w cZ=>?_) ?_
       focus(subst cZ;go_simp;(try with_reducible rfl);done)
       try simp only[Act.put,List.setIfInBounds_toArray,List.set_cons_zero,List.set_cons_succ]
       refine td ?_ _;go_wp2_with fail
       go_meet;exact⟨_,rfl,by simp,HB5.out,HX5.out⟩
      ·have CU:row<n:=hQ _ _ BJ hqr;obtain⟨Dr,cr,XI,-,-⟩:=Nj.rws row CU;have rr:=Nj.rows.cell CU;rw[XI]at rr;obtain⟨lb,Gj⟩:=xeq ((A row).length);rw[Gj]at rr;have v2:(0:Int)<=(row:Int):=by omega
       have v3:(row:Int)<n:=by omega
       have v4:¬(row:Int)<0:=by omega
       clear hnext LZ Nj Gj XI hqr gj
       by_cases hab:la<lb
       ·
        refine wp_region_held_drew (S:=(fun w'=>w'=w5.drew)) (by kernel_rfl) (rfl) (fun aU=>?_);refine tp 0 aU ?_;refine tr (v:= .bool false) 1 aU (fun w cZ=>?_) ?_
        focus(subst cZ;go_simp;(try with_reducible rfl);done)
        try simp only[Act.put,List.setIfInBounds_toArray,List.set_cons_zero,List.set_cons_succ]
        refine tr (v:= .bool false) 2 aU (fun w cZ=>?_) ?_
        focus(subst cZ;go_simp;(try with_reducible rfl);done)
        try simp only[Act.put,List.setIfInBounds_toArray,List.set_cons_zero,List.set_cons_succ]
        refine tp 3 aU ?_;refine tp 4 aU ?_;refine tp 5 aU ?_;refine tp 6 aU ?_;refine tp 7 aU ?_;refine tp 8 aU ?_;refine tp 9 aU ?_;refine tp 10 aU ?_;refine tp 11 aU ?_;refine tp 12 aU ?_;refine tp 13 aU ?_;refine tp 14 aU ?_;refine tp 15 aU ?_;refine tp 16 aU ?_;refine tp 17 aU ?_;refine tp 18 aU ?_;refine tr (v:= .bool true) 19 aU (fun w cZ=>?_) ?_
        focus(subst cZ;go_simp;(try with_reducible rfl);done)
        try simp only[Act.put,List.setIfInBounds_toArray,List.set_cons_zero,List.set_cons_succ]
        refine tr (v:= .bool true) 20 aU (fun w cZ=>?_) ?_
        focus(subst cZ;go_simp;(try with_reducible rfl);done)
        try simp only[Act.put,List.setIfInBounds_toArray,List.set_cons_zero,List.set_cons_succ]
        refine tr (v:= .bool true) 21 aU (fun w cZ=>?_) ?_
        focus(subst cZ;go_simp;(try with_reducible rfl);done)
        try simp only[Act.put,List.setIfInBounds_toArray,List.set_cons_zero,List.set_cons_succ]
        refine tn 22 aU ?_;refine tn 23 aU ?_;refine tn 24 aU ?_;refine tn 25 aU ?_;refine tn 26 aU ?_;refine tn 27 aU ?_;refine tn 28 aU ?_;refine tn 29 aU ?_;refine tn 30 aU ?_;refine tn 31 aU ?_;refine tn 32 aU ?_;refine tn 33 aU ?_;refine tn 34 aU ?_;refine tn 35 aU ?_;refine tn 36 aU ?_;refine tn 37 aU ?_;refine tn 38 aU ?_;refine tn 39 aU ?_;refine tn 40 aU ?_;refine tn 41 aU ?_;refine tn 42 aU ?_;refine tn 43 aU ?_;refine tr (v:= .bool true) 44 aU (fun w cZ=>?_) ?_
        focus(subst cZ;go_simp;(try with_reducible rfl);done)
        try simp only[Act.put,List.setIfInBounds_toArray,List.set_cons_zero,List.set_cons_succ]
        refine td ?_ _;go_wp2_with fail
        go_meet;exact⟨_,rfl,fun h=>absurd h (by omega),HB5.out,HX5.out⟩
       ·by_cases hlb:la=lb
        ·subst hlb;refine wp_region_held_drew (S:=(fun w'=>w'=w5.drew)) (by kernel_rfl) (rfl) (fun aU=>?_);refine tp 0 aU ?_;refine tr (v:= .bool false) 1 aU (fun w cZ=>?_) ?_
         focus(subst cZ;go_simp;(try with_reducible rfl);done)
         try simp only[Act.put,List.setIfInBounds_toArray,List.set_cons_zero,List.set_cons_succ]
         refine tr (v:= .bool false) 2 aU (fun w cZ=>?_) ?_
         focus(subst cZ;go_simp;(try with_reducible rfl);done)
         try simp only[Act.put,List.setIfInBounds_toArray,List.set_cons_zero,List.set_cons_succ]
         refine tp 3 aU ?_;refine tp 4 aU ?_;refine tp 5 aU ?_;refine tp 6 aU ?_;refine tp 7 aU ?_;refine tp 8 aU ?_;refine tp 9 aU ?_;refine tp 10 aU ?_;refine tp 11 aU ?_;refine tp 12 aU ?_;refine tp 13 aU ?_;refine tp 14 aU ?_;refine tp 15 aU ?_;refine tp 16 aU ?_;refine tp 17 aU ?_;refine tp 18 aU ?_;refine tr (v:= .bool false) 19 aU (fun w cZ=>?_) ?_
         focus(subst cZ;go_simp;(try with_reducible rfl);done)
         try simp only[Act.put,List.setIfInBounds_toArray,List.set_cons_zero,List.set_cons_succ]
         refine tr (v:= .bool false) 20 aU (fun w cZ=>?_) ?_
         focus(subst cZ;go_simp;(try with_reducible rfl);done)
         try simp only[Act.put,List.setIfInBounds_toArray,List.set_cons_zero,List.set_cons_succ]
         refine tr (v:= .bool false) 21 aU (fun w cZ=>?_) ?_
         focus(subst cZ;go_simp;(try with_reducible rfl);done)
         try simp only[Act.put,List.setIfInBounds_toArray,List.set_cons_zero,List.set_cons_succ]
         refine tp 22 aU ?_;refine tp 23 aU ?_;refine tp 24 aU ?_;refine tp 25 aU ?_;refine tp 26 aU ?_;refine tp 27 aU ?_;refine tp 28 aU ?_;refine tp 29 aU ?_;refine tp 30 aU ?_;refine tp 31 aU ?_;refine tp 32 aU ?_;refine tp 33 aU ?_;refine tp 34 aU ?_;refine tp 35 aU ?_;refine tp 36 aU ?_;refine tp 37 aU ?_;refine tr (v:= .bool true) 38 aU (fun w cZ=>?_) ?_
         focus(subst cZ;go_simp;(try with_reducible rfl);done)
         try simp only[Act.put,List.setIfInBounds_toArray,List.set_cons_zero,List.set_cons_succ]
         refine tr (v:= .bool true) 39 aU (fun w cZ=>?_) ?_
         focus(subst cZ;go_simp;(try with_reducible rfl);done)
         try simp only[Act.put,List.setIfInBounds_toArray,List.set_cons_zero,List.set_cons_succ]
         refine tp 40 aU ?_;refine tp 41 aU ?_;refine tr (v:= .bool (decide ((i:Int)<row))) 42 aU (fun w cZ=>?_) ?_
         focus(subst cZ;go_simp;(try with_reducible rfl);done)
         try simp only[Act.put,List.setIfInBounds_toArray,List.set_cons_zero,List.set_cons_succ]
         refine tr (v:= .bool (decide ((i:Int)<row))) 43 aU (fun w cZ=>?_) ?_
         focus(subst cZ;go_simp;(try with_reducible rfl);done)
         try simp only[Act.put,List.setIfInBounds_toArray,List.set_cons_zero,List.set_cons_succ]
         refine tr (v:= .bool (decide ((i:Int)<row))) 44 aU (fun w cZ=>?_) ?_
         focus(subst cZ;go_simp;(try with_reducible rfl);done)
         try simp only[Act.put,List.setIfInBounds_toArray,List.set_cons_zero,List.set_cons_succ]
         refine td ?_ _;go_wp2_with fail
         go_meet;exact⟨_,rfl,fun h=>absurd h (by omega),HB5.out,HX5.out⟩
        ·have QJ:¬((la:Int)=lb):=by omega
         refine wp_region_held_drew (S:=(fun w'=>w'=w5.drew)) (by kernel_rfl) (rfl) (fun aU=>?_);refine tp 0 aU ?_;refine tr (v:= .bool false) 1 aU (fun w cZ=>?_) ?_
         focus(subst cZ;go_simp;(try with_reducible rfl);done)
         try simp only[Act.put,List.setIfInBounds_toArray,List.set_cons_zero,List.set_cons_succ]
         refine tr (v:= .bool false) 2 aU (fun w cZ=>?_) ?_
         focus(subst cZ;go_simp;(try with_reducible rfl);done)
         try simp only[Act.put,List.setIfInBounds_toArray,List.set_cons_zero,List.set_cons_succ]
         refine tp 3 aU ?_;refine tp 4 aU ?_;refine tp 5 aU ?_;refine tp 6 aU ?_;refine tp 7 aU ?_;refine tp 8 aU ?_;refine tp 9 aU ?_;refine tp 10 aU ?_;refine tp 11 aU ?_;refine tp 12 aU ?_;refine tp 13 aU ?_;refine tp 14 aU ?_;refine tp 15 aU ?_;refine tp 16 aU ?_;refine tp 17 aU ?_;refine tp 18 aU ?_;refine tr (v:= .bool false) 19 aU (fun w cZ=>?_) ?_
         focus(subst cZ;go_simp;(try with_reducible rfl);done)
         try simp only[Act.put,List.setIfInBounds_toArray,List.set_cons_zero,List.set_cons_succ]
         refine tr (v:= .bool false) 20 aU (fun w cZ=>?_) ?_
         focus(subst cZ;go_simp;(try with_reducible rfl);done)
         try simp only[Act.put,List.setIfInBounds_toArray,List.set_cons_zero,List.set_cons_succ]
         refine tr (v:= .bool false) 21 aU (fun w cZ=>?_) ?_
         focus(subst cZ;go_simp;(try with_reducible rfl);done)
         try simp only[Act.put,List.setIfInBounds_toArray,List.set_cons_zero,List.set_cons_succ]
         refine tp 22 aU ?_;refine tp 23 aU ?_;refine tp 24 aU ?_;refine tp 25 aU ?_;refine tp 26 aU ?_;refine tp 27 aU ?_;refine tp 28 aU ?_;refine tp 29 aU ?_;refine tp 30 aU ?_;refine tp 31 aU ?_;refine tp 32 aU ?_;refine tp 33 aU ?_;refine tp 34 aU ?_;refine tp 35 aU ?_;refine tp 36 aU ?_;refine tp 37 aU ?_;refine tr (v:= .bool false) 38 aU (fun w cZ=>?_) ?_
         focus(subst cZ;go_simp;(try with_reducible rfl);done)
         try simp only[Act.put,List.setIfInBounds_toArray,List.set_cons_zero,List.set_cons_succ]
         refine tr (v:= .bool false) 39 aU (fun w cZ=>?_) ?_
         focus(subst cZ;go_simp;(try with_reducible rfl);done)
         try simp only[Act.put,List.setIfInBounds_toArray,List.set_cons_zero,List.set_cons_succ]
         refine tn 40 aU ?_;refine tn 41 aU ?_;refine tn 42 aU ?_;refine tr (v:= .bool false) 43 aU (fun w cZ=>?_) ?_
         focus(subst cZ;go_simp;(try with_reducible rfl);done)
         try simp only[Act.put,List.setIfInBounds_toArray,List.set_cons_zero,List.set_cons_succ]
         refine tr (v:= .bool false) 44 aU (fun w cZ=>?_) ?_
         focus(subst cZ;go_simp;(try with_reducible rfl);done)
         try simp only[Act.put,List.setIfInBounds_toArray,List.set_cons_zero,List.set_cons_succ]
         refine td ?_ _;go_wp2_with fail
         go_meet;exact⟨_,rfl,fun h=>absurd h (by omega),HB5.out,HX5.out⟩
     case rest=>
      obtain⟨bv,rfl,Uv,kY,hx5⟩:=hcut;have HX:=ah hx5;clear hx5;have aap:=aoi.out.bJ (bw.of (P:=fun _=>False) HX.out) (fun h=>h) (fun h=>h);clear ri e0 i5 LZ hnext gj Nj v0 v1;have Iz:=ah kY;have Qa:=ah aap;clear aap kY
      cases bv
      ·obtain⟨row,rfl,hqr⟩:=hz.resolve_left (fun h=>by simpa using Uv h.1);clear Uv hz;go_wp2_with fail
       go_roundw
       case rel=>exact⟨⟨_,_,rfl,Qa.out, .inr ⟨row,rfl,hqr⟩⟩,Iz.out⟩
       case measure=>rw[Qa.out.seen,HM.out.1,List.length_append];have:=HM.out.2;simp only[List.length_cons,List.length_nil];omega
      ·clear Uv hz;go_wp2_with fail
       go_roundw
       case rel=>exact⟨⟨_,_,rfl,Qa.out, .inr ⟨i,rfl,aek⟩⟩,Iz.out⟩
       case measure=>rw[Qa.out.seen,HM.out.1,List.length_append];have:=HM.out.2;simp only[List.length_cons,List.length_nil];omega
/-- row i leaves the columns of a row -/
theorem Gw{w:World}{e:ju}{n i p q c:Nat}{D:Option Addr}{row:List (Nat×Rat)}{Vr Vl:Nat->Value}{L:Nat->List Value}{A Ls:Nat->List (Nat×Rat)}{Q:Nat->Nat->Prop}{lf:List Nat}{K Kr:Nat}(h:EST w e n Vr Vl L A Ls Q lf K)(hn:n<=12)(hp:w.cell? ⟨p,0,none⟩=some (.slice D row.length c))(hq:w.cell? ⟨q,0,none⟩=some (.pointer (some ⟨e.eb,0,none⟩)))(Vb:¬e.all n Vl q)(hD:RW w (e.all n Vl) D row Kr)(hrow:Can n row):
 Calls Tryz.prog 116 #[.int .i64 (i:Int), .pointer (some ⟨p,0,none⟩), .pointer (some ⟨q,0,none⟩)] w (fun r w'=>r= .returned (.tuple #[])/\EST w' e n Vr Vl L A Ls (fun j x=>Q j x/\¬(x=i/\gv row j≠0)) lf K/\bw (e.mu n) w w'):=by
 obtain⟨la,kL⟩:=xeq row.length;have SJ:la<=12:=by have:=hrow.len;omega
 rw[kL]at hp;have LU:=ah kL;have pM:=ah hrow;have HD:=ah hD;have HST:=ah (h.jv (Q':=fun j x=>Q j x/\¬(x=i/\∃a,a<0/\∃p,row[a]?=some p/\p.1=j)) (fun j _ x=>⟨fun h=>⟨h,fun⟨_,a,ha,_⟩=>absurd ha (by omega)⟩,fun h=>h.1⟩));have lq:q<w.heap.size:=aG w _ hq;obtain⟨lo,eb,gr,gl,gi,gf,mj⟩:=e;dsimp only at hq;have HQA:=ah Vb;have HQ:=ah hq;clear hD hrow kL h hq Vb;go_enter Tryz.func116,Tryz.ntmps116
 go_wp2_with fail
 go_loopw [8] (fun t wr=>∃k:Nat,k<=la/\t= .int .i64 (k:Int)/\EST wr ⟨lo,eb,gr,gl,gi,gf,mj⟩ n Vr Vl L A Ls (fun j x=>Q j x/\¬(x=i/\∃a,a<k/\∃p,row[a]?=some p/\p.1=j)) lf K/\bw (ju.mu ⟨lo,eb,gr,gl,gi,gf,mj⟩ n) w wr) (fun t _=>la- (intOf t).toNat)
 case atStart=>exact⟨0,aF _,rfl,HST.out,bw.refl _ _⟩
 case round=>
  clear HST hp;obtain⟨k,hk,rfl,hes,hc⟩:=hrel
  by_cases hlk:k<la
  ·have hel:=(HD.out.bJ hc (fun k hk=> .inr hk)).el;obtain⟨p,hpq⟩:∃p,row[k]?=some p:=⟨row[k]'(by have:=LU.out;omega),aB _⟩;obtain⟨xb,xo,rfl,hxl,hxc⟩:=hel (by have:=LU.out;omega);obtain⟨e0,y1,y2,y3,e1,e2,e3,tD⟩:=hxc k p hpq;obtain⟨s0,s1,s2⟩:=tD.st;have jB:=pM.out.lt p (aD hpq);obtain⟨pi,pR⟩:=xeq p.1;rw[pR]at e0 jB;have v2:(0:Int)<=(k:Int):=by omega
   have v3:(k:Int)<la:=by omega
   have v4:(0:Int)<=(pi:Int):=by omega
   have v5:(pi:Int)<n:=by omega
   have bo:=bI wr (.cells #[.int .i64 (pi:Int),y1,y2,y3] 92);have i5:=Cr.new wr (.int .i64 (pi:Int)) y1 y2 y3;obtain⟨wb,gh⟩:=xeq (wr.alloc (.cells #[.int .i64 (pi:Int),y1,y2,y3] 92));obtain⟨Ne,fG⟩:=xeq wr.heap.size;rw[gh]at bo i5;rw[fG]at i5;have bz:=bo.trans ((aq wb.heap.size wb).drew.mono bo.size);have gZ:=hes.below bz;have zq:wb.drew.cell? ⟨q,0,none⟩=some (.pointer (some ⟨eb,0,none⟩)):=(bz.cell (p:=⟨q,0,none⟩) (ak lq hc.size)).trans (hc.cell (fun h=>HQA.out (.inr h)) HQ.out);have z0:wb.drew.cell? ⟨eb,2,none⟩=some (.slice (some ⟨gi,0,none⟩) n n):=(aT wb.drew eb 2 _ _ (0,0) gZ.st).trans rfl;have z1:wb.drew.cell? ⟨Ne,0,none⟩=some (.int .i64 (pi:Int)):=i5.c0;have z2:=gZ.maps.cell jB;dsimp only at z2;obtain⟨w7,hrun,wV,C4⟩:=(gZ.sm pi jB).del (T':=0) (i:=i);dsimp only at hrun wV C4;have Cu:=gZ.Ed jB C4 wV;have m1:¬eb=mj pi:=(gZ.sm pi jB).nt gZ.kC;have m2:¬gi=mj pi:=(gZ.sm pi jB).nt gZ.maps.tb;have m3:¬Ne=mj pi:=fun e=>by have:=(hes.sm pi jB).lt;dsimp only at this;omega
   have m4:¬q=mj pi:=fun e=>HQA.out (.inr (.inr (.inr (.inr (.inr ⟨pi,jB,e.symm⟩)))))
   have Cv:=Cu.jv (Q':=fun j x=>Q j x/\¬(x=i/\∃a,a<k+1/\∃p,row[a]?=some p/\p.1=j)) (fun j _ x=>by
    by_cases e:j=pi
    ·subst e;rw[aW];constructor
     ·rintro⟨⟨h1,h2⟩,h3⟩;exact⟨h1,fun h=>h3 h.1⟩
     ·rintro⟨h1,h2⟩;exact⟨⟨h1,fun⟨h3,a,ha,h4⟩=>h2 ⟨h3,a,by omega,h4⟩⟩,fun h3=>h2 ⟨h3,k,by omega,p,hpq,pR⟩⟩
    ·rw[bk _ _ e];constructor
     ·rintro⟨h1,h2⟩;refine⟨h1,fun⟨h3,a,ha,p2,h4,h5⟩=>h2 ⟨h3,a,?_,p2,h4,h5⟩⟩;rcases aN a k with h6|h6
      ·exact h6
      ·obtain rfl:a=k:=by omega
       rw[hpq]at h4;injection h4 with h4
       exact absurd (by rw[<-h5,<-h4];exact pR) e
     ·rintro⟨h1,h2⟩;exact⟨h1,fun⟨h3,a,ha,h4⟩=>h2 ⟨h3,a,by omega,h4⟩⟩)
   have HR8:=ah (ai Cv (hc.trans (((bw.of (P:=fun _=>False) bz).mono (fun _ _ h=>h.elim)).trans (C4.mono (fun x _ (hx:x=mj pi)=> .inr (.inr (.inr (.inr ⟨pi,jB,hx.symm⟩))))))));have lC:=ah gh;have ny:=ah fG;have ye:=ah C4;clear hel hxc tD hes hc bo bz gZ C4 wV Cu Cv i5 gh fG pR hpq;go_upto_region 3 with fail
   rw[lC.out]
   try rw[ny.out]
   clear e0 e1 e2 e3;refine wp_region_held_drew (S:=(fun w'=>w'.cell? ⟨q,0,none⟩=some (.pointer (some ⟨eb,0,none⟩))/\w'.cell? ⟨eb,2,none⟩=some (.slice (some ⟨gi,0,none⟩) n n)/\w'.cell? ⟨Ne,0,none⟩=some (.int .i64 (pi:Int))/\w'.cell? ⟨gi,pi,none⟩=some (.map (some (mj pi))))) (by kernel_rfl) (⟨zq,z0,z1,z2⟩) (fun aU=>?_);refine tq 0 aU ?_;refine tq 1 aU ?_;refine tq 2 aU ?_;refine tq 3 aU ?_;refine tq 4 aU ?_;refine tq 5 aU ?_;refine tq 6 aU ?_;refine tq 7 aU ?_;refine tq 8 aU ?_;refine tv 9 (fun κ hκ=>?_);go_simp;refine hκ.out _ _ ?_ (fun aU=>?_)
   ·exact⟨ye.out.cell m4 zq,ye.out.cell m1 z0,ye.out.cell m3 z1,ye.out.cell m2 z2⟩
   clear hκ κ;refine tu ?_;refine td ?_ _;clear aU z0 z1 z2 zq hrun ye;go_wp2_with fail
   go_roundw
   case rel=>exact⟨k+1,by omega,by go_num,HR8.out⟩
   case measure=>simp[intOf];omega
  ·obtain rfl:la=k:=by omega
   have HX:=ah (ai (hes.jv (Q':=fun j x=>Q j x/\¬(x=i/\gv row j≠0)) (fun j _ x=>by
    have h9:gv row j≠0↔∃a,a<la/\∃p,row[a]?=some p/\p.1=j:=by
     rw[pM.out.gv];constructor
     ·rintro⟨p,hp,h4⟩;obtain⟨a,ha⟩:=aJ hp;exact⟨a,by have:=(aC.1 ha).1;have:=LU.out;omega,p,ha,h4⟩
     ·rintro⟨a,ha,p,hp,h4⟩;exact⟨p,aD hp,h4⟩
    rw[h9])) hc)
   clear hes hc;go_wp2_with fail
   exact bodyPost_end (v:= .tuple #[]) (by simp[results,Tryz.results116,go_sem]) rfl ⟨rfl,HX.out.1,HX.out.2⟩
end Go.Proofs.YtkmpoleajjgfaaaGreat
