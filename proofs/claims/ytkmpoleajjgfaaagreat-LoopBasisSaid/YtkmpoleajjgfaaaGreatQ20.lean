/- Parts of the proof, in order. -/
import Derived.Test.YtkmpoleajjgfaaaGreatQ19
namespace Go.Proofs.YtkmpoleajjgfaaaGreat
open Go.RowKit Gm Go.Sort Go.Shelf
set_option maxRecDepth 100000
set_option maxHeartbeats 16000000
theorem gG.ml{w:World}{lo g n:Nat}{V:Nat->Value}{M:Nat->Prop}{A:Nat->List (Nat×Rat)}{K:Nat}{L:Nat->List Value}(h:gG w lo g n V M A K L):ML w (some ⟨g,0,none⟩) n A K:=fun _=>
 ⟨g,0,rfl,h.fF.row.lt,fun i hi=>by
   obtain⟨D,c,h1,h2,h3⟩:=h.eo hi;have h4:=h.fF.row.cell hi;rw[h1]at h4;exact⟨D,c,by rw[Nat.zero_add];exact h4,h2,h3⟩⟩
theorem MH{w:World}{Z N c:Nat}{D:Option Addr}{s:Nat->Nat}(how:w.ownsRow Z 3 1 (.slice D (fR s N).length c) (fR s N).length (cH (fR s N))):IL w D (fR s N).length (vk s N):=fun h0=>by
 obtain⟨gg,cc,h1,_,_⟩:=how.form h0;injection h1 with h1 _ _
 subst h1;have hlt:=how.lt gg rfl;refine⟨gg,0,rfl,hlt.2,fun i hi=>?_⟩
 have h2:=how.cells (g:=gg) rfl i (.int .i64 (vk s N i:Int)) (by
  unfold cH vk;rw[List.getElem?_map,aB hi];rfl)
 rw[qq]at h2;exact h2
theorem Ch{w:World}{D:Option Addr}{N m c g1 gs:Nat}{l:List Bq}{s:Nat->Nat}{A1:Nat->List (Nat×Rat)}(hN:N<=6)(hm:m<=9)(hl:BL w D l 1)(hlm:l.length=m)(hv:NV N l)(hs0:s 0=0)(hs:Gd.J2 N (pO l) s)(hml:ML w (some ⟨g1,0,none⟩) N A1 37)(Ri:∀i,i<N->Can N (A1 i)/\∀j,gv (A1 i) j=Gd.vM (pO l) i j)(hrow:cC w gs N (fun i=>(s i:Int))):
 Calls Tryz.prog 25 #[.agg #[.int .i64 (N:Int), .slice D m c], .agg #[.int .i64 (N:Int), .int .i64 (N:Int), .slice (some ⟨g1,0,none⟩) N N], .slice (some ⟨gs,0,none⟩) N N] w (fun e w'=>∃g A,e= .returned (.tuple #[.slice (some ⟨g,0,none⟩) m m, .int .i64 0])/\ML w' (some ⟨g,0,none⟩) m A 136518844624/\(∀k,k<m->Can N (A k))/\Gd.Transfer N (pO l) s (fun k j=>gv (A k) j)/\Below w.heap.size w w'):=by
 obtain⟨W,hW,bC,h0,i1⟩:∃W,(w.alloc (.cells #[.int .i64 (N:Int), .slice D m c] 25)).alloc (.cells #[.int .i64 (N:Int), .int .i64 (N:Int), .slice (some ⟨g1,0,none⟩) N N] 34)=W/\Below w.heap.size w W/\W.heap[w.heap.size]?=some (.cells #[.int .i64 (N:Int), .slice D m c] 25 (0,0))/\cK W (w.heap.size+1) (.int .i64 (N:Int)) (.int .i64 (N:Int)) (.slice (some ⟨g1,0,none⟩) N N):=⟨_,rfl,((aq _ _).alloc (by simp) _).alloc (by simp) _,by
  have h1:=aS w (.cells #[.int .i64 (N:Int), .slice D m c] 25);have h2:=bI (w.alloc (.cells #[.int .i64 (N:Int), .slice D m c] 25)) (.cells #[.int .i64 (N:Int), .int .i64 (N:Int), .slice (some ⟨g1,0,none⟩) N N] 34);exact(h2.block _ (au.1 h1).1).trans h1,by refine⟨?_,?_,?_,?_,?_,?_⟩<;>go_simp⟩
 obtain⟨Z0,iC⟩:=xeq w.heap.size;rw[iC]at h0 i1;have Ag:Z0<W.heap.size:=(au.1 h0).1;have hZ1:Z0+1<W.heap.size:=i1.lt;have x0:W.cell? ⟨Z0,0,none⟩=some (.int .i64 (N:Int)):=aT W Z0 0 _ _ (0,0) h0;have x1:W.cell? ⟨Z0,1,none⟩=some (.slice D m c):=aT W Z0 1 _ _ (0,0) h0;have hmk:=tT (N:Int) N rfl (by omega) W;have HX:=ah (fun w' (hb:Below W.heap.size W w')=>bn hb Ag x1);have HM1:=ah (ai (hml.below bC) Ri);have HI1:=ah i1;have L4:=ah (ai (hrow.below bC hrow.lt) (ak hrow.lt bC.size));have HL:=ah hl;have HM:=ah hlm;have HV:=ah hv;have HIS:=ah (ai hs0 hs);have HB:=ah bC;have HW:=ah hW;have EZ:=ah iC;obtain⟨gP,eP⟩:=xeq W.heap.size
 obtain⟨W2,Ki,hg2,hp2,hc2⟩:∃W2,((W.alloc (.cells (cQ N (fun _=>0)) 3)).alloc (.cells #[.slice (some ⟨W.heap.size,0,none⟩) N N] 22))=W2/\Below W.heap.size W W2/\cC W2 gP N (fun _=>0)/\W2.heap[gP+1]?=some (.cells #[.slice (some ⟨gP,0,none⟩) N N] 22 (0,0)):=⟨_,rfl,((aq _ _).alloc (by simp) _).alloc (by simp) _,by
  rw[<-eP];exact(cC.new W N (fun _=>0)).alloc _,by
  have h1:=aS (W.alloc (.cells (cQ N (fun _=>0)) 3)) (.cells #[.slice (some ⟨W.heap.size,0,none⟩) N N] 22);have e:(W.alloc (.cells (cQ N (fun _=>0)) 3)).heap.size=W.heap.size+1:=by show(W.heap.push _).size=_;simp
  rw[e]at h1;rw[<-eP];exact h1⟩
 have HW2:=ah (ai Ki eP);clear hl hml hrow hlm hv hs0 hs bC hW h0 i1 iC Ri Ki eP;go_enter Tryz.func25,Tryz.ntmps25
 go_upto_region 1 with fail
 rw[HW.out];(try rw[EZ.out]);go_upto_region 3 with fail
 clear hmk x0 x1;rw[HW2.out.1];(try rw[HW2.out.2]);have hgs:gs<gP:=by rw[<-HW2.out.2];exact L4.out.2
 rw[HW2.out.2]at hg2;obtain⟨P,eP⟩:=xeq (gP+1);rw[eP]at hc2;rw[eP];have hPg:¬P=gP:=by omega
 have Sk:¬gP=P:=by omega
 obtain⟨Z2,NI⟩:=xeq W2.heap.size;have hPZ:P<Z2:=by rw[<-NI];exact(au.1 hc2).1
 have XW:gP<Z2:=by omega
 have H0:=ah (ai hp2 (ai hc2 (ai hg2 (Nat.le_of_eq NI.symm))));have HP:=ah eP;clear hp2 hc2 hg2 eP NI;go_wp2_with fail
 go_loopw [8,29] (fun u t wr=>∃k:Nat,k<=N/\t= .int .i64 (k:Int)/\wr.ownsRow Z2 3 1 u (fR s k).length (cH (fR s k))/\cC wr gP N (fun b=>if b<k then oZ s b else 0)/\wr.heap[P]?=some (.cells #[.slice (some ⟨gP,0,none⟩) N N] 22 (0,0))/\Below gP W wr/\Z2<=wr.heap.size) (fun _ t _=>N- (intOf t).toNat)
 case atStart=>exact⟨0,aF _,rfl,World.ownsRow_nil _ _ _ _,H0.out.1.congr (fun i hi=>(if_neg (Nat.not_lt_zero i)).symm),H0.out.2.1,H0.out.2.2.1,H0.out.2.2.2⟩
 case round=>
  obtain⟨k,hk,rfl,how,hpl,qE,hb,hZ⟩:=hrel;have hrow:cC wr gs N (fun i=>(s i:Int)):=L4.out.1.below hb hgs;have X3:(fR s k).length<=k:=ay (List.length_filter_le _ _) (by rw[List.length_range];exact aj _)
  by_cases hlk:k<N
  ·have x0:=hrow.cell hlk;have x1:wr.cell? ⟨P,0,none⟩=some (.slice (some ⟨gP,0,none⟩) N N):=aT wr P 0 _ _ (0,0) qE;have x2:=hpl.cell hlk;have x3:=hpl.frozen k;obtain⟨VA,IV⟩:=xeq (s k);rw[IV]at x0;have u0:(0:Int)<=(k:Int):=by omega
   have u1:(k:Int)<N:=by omega
   have c1:bw (·=gP) wr (wr.setCell ⟨gP,k,none⟩ (.int .i64 (-1))):=bw.set (P:=(·=gP)) (p:=⟨gP,k,none⟩) rfl _ _;have Fw:=hpl.set k (-1);have Fx:=(c1.block P (au.1 qE).1 hPg).trans qE;have CN:=bL how c1 (fun x hx e=>by have:=(how.lt x hx).1;omega);have hb1:=hb.trans (c1.below (show gP<=wr.heap.size by omega) (fun x hx e=>by omega));have MJ:=ay hZ c1.size;obtain⟨w1,hw1⟩:=xeq (wr.setCell ⟨gP,k,none⟩ (.int .i64 (-1)));rw[hw1]at Fw Fx CN hb1 MJ;have HW1:=ah hw1;clear how hpl qE hb hZ hrow c1 hw1;go_upto_region 7 with fail
   rw[HW1.out];clear x0 x1 x2 x3
   by_cases hks:k=VA
   ·have hpk:oZ s k= -1:=by unfold oZ;rw[if_pos (by rw[IV];exact hks)]
    have hos:fR s (k+1)=fR s k:=by rw[kN,if_neg (by rw[IV];exact fun h=>h hks)]
    have HR:=ah (show w1.ownsRow Z2 3 1 u8 (fR s (k+1)).length (cH (fR s (k+1)))/\cC w1 gP N (fun b=>if b<k+1 then oZ s b else 0)/\w1.heap[P]?=some (.cells #[.slice (some ⟨gP,0,none⟩) N N] 22 (0,0))/\Below gP W w1/\Z2<=w1.heap.size from⟨by rw[hos];exact CN,Fw.congr (fun i hi=>by
     by_cases e:i=k
     ·subst e;rw[aW];exact(hpk.symm.trans (if_pos (Nat.lt_succ_self _)).symm)
     ·rw[bk _ _ e]
      by_cases h2:i<k
      ·rw[if_pos h2,if_pos (by omega)]
      ·rw[if_neg h2,if_neg (by omega)]),Fx,hb1,MJ⟩)
    have ao7:(k:Int)=(VA:Int):=by omega
    clear CN Fw Fx hb1 MJ hos hpk IV;go_wp2_with fail
    go_roundw
    case rel=>exact⟨k+1,by omega,by go_num,HR.out⟩
    case measure=>simp[intOf];omega
   ·have hpk:oZ s k=((fR s k).length:Int):=by unfold oZ;rw[if_neg (by rw[IV];exact hks)]
    have hos:fR s (k+1)=fR s k++ [k]:=by rw[kN,if_pos (by rw[IV];exact hks)]
    have ao7:¬(k:Int)=(VA:Int):=by omega
    obtain⟨D8,c8,rfl⟩:=lH CN;obtain⟨lo',sF⟩:=xeq ((fR s k).length);rw[sF]at hpk CN X3
    try rw[sF]
    have x1:w1.cell? ⟨P,0,none⟩=some (.slice (some ⟨gP,0,none⟩) N N):=aT w1 P 0 _ _ (0,0) Fx;have x2:=Fw.cell hlk;have x3:=Fw.frozen k;have c2:bw (·=gP) w1 (w1.setCell ⟨gP,k,none⟩ (.int .i64 (lo':Int))):=bw.set (P:=(·=gP)) (p:=⟨gP,k,none⟩) rfl _ _;have Rj:=Fw.set k (lo':Int);have Rk:=(c2.block P (au.1 Fx).1 hPg).trans Fx;have Xd:=bL CN c2 (fun x hx e=>by have:=(CN.lt x hx).1;omega);have hb2:=hb1.trans (c2.below (show gP<=w1.heap.size by omega) (fun x hx e=>by omega));have VK:=ay MJ c2.size;obtain⟨w2,hw2⟩:=xeq (w1.setCell ⟨gP,k,none⟩ (.int .i64 (lo':Int)));rw[hw2]at Rj Rk Xd hb2 VK;have amm:=ah hw2;clear CN Fw Fx hb1 MJ c2 hw2;go_upto_region 9 with fail
    rw[amm.out];clear x1 x2 x3;have ba:=bI w2 (.cells #[.int .i64 (k:Int)] 3);have h6:(w2.alloc (.cells #[.int .i64 (k:Int)] 3)).heap[w2.heap.size]?=some (.cells #[.int .i64 (k:Int)] 3 (0,0)):=aS w2 _;obtain⟨wa,iP⟩:=xeq (w2.alloc (.cells #[.int .i64 (k:Int)] 3));rw[iP]at ba h6;have jQ:=bL Xd (bw.of (P:=fun _=>False) ba) (fun _ _ h=>h);have xX:Z2<=wa.heap.size:=ay VK ba.size;have HOL:=ah jQ.lt;have HS:=ah (ai (Rj.below ba Rj.lt) (ai ((ba.block P (au.1 Rk).1).trans Rk) (hb2.trans (ba.mono (show gP<=w2.heap.size by omega)))));have VB:=ah (ai hos (ai hpk sF));clear Xd Rj Rk hb2 VK ba hos hpk IV sF
    go_wp2_with (first
     |(at_builtin;(try rw[iP]);refine mP rfl (.tmp 45) (.tmp 47) rfl rfl jQ rfl h6 (by omega) xX ?_;intro g7 bR w7 ew dR eO kR))
    have c7:=bw.grown dR
    have HR:=ah (show w7.ownsRow Z2 3 1 (.slice (some ⟨g7,0,none⟩) (lo'+1) bR) (fR s (k+1)).length (cH (fR s (k+1)))/\cC w7 gP N (fun b=>if b<k+1 then oZ s b else 0)/\w7.heap[P]?=some (.cells #[.slice (some ⟨gP,0,none⟩) N N] 22 (0,0))/\Below gP W w7/\Z2<=w7.heap.size from by
     obtain⟨hpl,qE,hb⟩:=HS.out;obtain⟨hos,hpk,sF⟩:=VB.out;refine⟨?_,(hpl.bJ c7 (fun h=>by have:=(HOL.out _ h.symm).1;omega)).congr (fun i hi=>?_),(c7.block P (au.1 qE).1 (fun h=>by have:=(HOL.out _ h.symm).1;omega)).trans qE,hb.trans (c7.below (show gP<=wa.heap.size by omega) (fun x hx h=>by have:=(HOL.out _ h.symm).1;omega)),ay xX c7.size⟩
     ·rw[hos,show cH (fR s k++ [k])=cH (fR s k)++ [.int .i64 (k:Int)] by simp[cH],List.length_append,sF];exact ew
     ·by_cases e:i=k
      ·subst e;rw[aW];exact(hpk.symm.trans (if_pos (Nat.lt_succ_self _)).symm)
      ·rw[bk _ _ e,bk _ _ e]
       by_cases h2:i<k
       ·rw[if_pos h2,if_pos (by omega)]
       ·rw[if_neg h2,if_neg (by omega)])
    clear ew dR eO kR c7 h6 jQ HS VB HOL iP;go_wp2_with fail
    go_roundw
    case rel=>exact⟨k+1,by omega,by go_num,HR.out⟩
    case measure=>simp[intOf];omega
  ·obtain rfl:N=k:=by omega
   have bC:Below W.heap.size W wr:=by rw[HW2.out.2];exact hb
   obtain⟨D8,c8,rfl⟩:=lH how;have hil:=MH how;have hio:∀w',w'.ownsRow Z2 3 1 (.slice D8 (fR s N).length c8) (fR s N).length (cH (fR s N))->IL w' D8 (fR s N).length (vk s N):=fun w' h=>MH h;obtain⟨ln,Z5⟩:=xeq (cH (fR s N));rw[Z5]at how hio;have S5:(fR s N).length<=5:=by have:=GN s N HIS.out.1;omega
   have hO:=zH s N;have hinc:∀a b,a<b->b< (fR s N).length->vk s N a<vk s N b:=fun a b h1 h2=>Qu s N h1 h2;have hpc:∀b,b<N->oZ s b= -1∨∃j,j< (fR s N).length/\oZ s b=((j:Nat):Int):=fun b hb=>IY hb;have hap:∀(f:Nat->Qc) b,b<N->vN (oZ s b) f=om (fR s N).length (vk s N) (fun j=>(f j).r) b:=fun f b hb=>Qv f hb;obtain⟨n,en⟩:=xeq ((fR s N).length);obtain⟨x,ex⟩:=xeq (vk s N);have UD:=ah en;rw[en]at hil S5 hO hinc hpc hap how hio;rw[ex]at hil hO hinc hap hio;have hi1:=HI1.out.keep bC;have hsel:=BH (w:=wr) (cD:=N) (cx:=c8) (cy:=c8) (ix:=oix n x) (by omega) (by omega) (HM1.out.1.below bC) (fun i hi=>(HM1.out.2 i hi).1) (by decide) hil hO.lt hO.ix;have y0:=hi1.c0;have y1:=hi1.c1;have y2:=hi1.c2;have I6:cC wr gP N (oZ s):=hpl.congr (fun i hi=>if_pos hi);have HK:=ah (ai how (ai I6 (ai qE (ai hi1 bC))));have HO:=ah (ai hO (ai hinc (ai hpc (ai hap hio))));have GF:gP<wr.heap.size:=hpl.lt
   try rw[en]
   clear how hpl qE hb hrow X3 hil hO hinc hpc hap hi1 bC I6 en ex Z5 hio;go_wp2_with fail
   refine hsel.mono ?_;rintro e w3 ⟨D2,c2,A2,rfl,hc2,RU,Kl,NG⟩;clear hsel y0 y1 y2;obtain⟨how,I6,qE,hi1,bC⟩:=HK.out;have i3:=hi1.keep NG;obtain⟨y0,y1,y2,y3,y4,y5⟩:=id i3;have hcs:=bw.jc (Z0+1) 0 w3 (.int .i64 (n:Int)) (.int .i64 (n:Int)) (.slice D2 n c2);have i4:=i3.put (.int .i64 (n:Int)) (.int .i64 (n:Int)) (.slice D2 n c2);have fq:=bC.trans (NG.mono bC.size);have hww:w.heap.size<=W.heap.size:=HB.out.size;obtain⟨w4,iG⟩:=xeq (((w3.setCell ⟨Z0+1,0,none⟩ (.int .i64 (n:Int))).setCell ⟨Z0+1,1,none⟩ (.int .i64 (n:Int))).setCell ⟨Z0+1,2,none⟩ (.slice D2 n c2));have lX:bw (·=Z0+1) w3 w4:=by rw[<-iG];exact hcs
   rw[iG]at i4;have hZg:Z0+1<gP:=by have:=HW2.out.2;omega
   have hZw:Z0+1<wr.heap.size:=by omega
   have CJ:=(RU.bJ lX (fun k hk=>by rw[hk];exact hZw)).ml;have VN:=HB.out.trans (fq.mono hww);have hb4:=VN.trans (lX.below VN.size (fun q hq e=>by have:=EZ.out;omega));have QU:=HX.out _ fq;have Yw:w4.cell? ⟨Z0,1,none⟩=some (.slice D m c):=lX.cell (by omega) QU;have afs:=bL (bL how (bw.of (P:=fun _=>False) NG) (fun _ _ h=>h)) lX (fun x hx e=>by have:=(how.lt x hx).1;omega);have NJ:=HO.out.2.2.2.2 _ afs;have JI:=(I6.below NG I6.lt).bJ lX (by omega);have hPl:=(au.1 qE).1;have JJ:=(lX.block P (ak hPl NG.size) (by have:=HP.out;omega)).trans ((NG.block P hPl).trans qE);have Vz:∀i,i<n->∀j,j<n->gv (A2 i) j=Gd.vM (pO l) (x i) (x j):=fun i hi j hj=>((Kl i hi).2 j hj).trans ((HM1.out.2 _ (HO.out.1.lt i hi)).2 (x j))
   have Mz:=B0 (c:=c2) (M:=37) (M2:=1735607) (by omega) CJ (fun i hi=>(Kl i hi).1) (by decide) (aj 37) (ay (sk5 S5) (by decide)) (abn S5) (by decide) (fun y hy=>HO.out.1.reg (zF HV.out) HIS.out.2 y (fun i hi=>by
    rw[<-hy i hi];exact Gd.cT fun j hj=>by rw[Vz i hi j hj]))
   have Yt:=ah Vz;have H4:=ah (ai NJ (ai JI (ai JJ (ai Yw hb4))));have pU:=ah iG;have WW:=ah i4;clear RU NG i3 hcs lX fq CJ hb4 iG i4 Kl Vz hc2 how I6 qE hi1 bC VN QU Yw afs NJ JI hPl JJ hww HK;go_upto_region 14 with fail
   rw[pU.out];clear y0 y1 y2 y3 y4 y5;have y0:=WW.out.c0;have y1:=WW.out.c1;have y2:=WW.out.c2;go_wp2_with fail
   refine Mz.mono ?_;rintro e w5 ⟨v,rs,cs,lo,up,rfl,vZ,hup,Km⟩;clear Mz y0 y1 y2;obtain⟨NJ,JI,JJ,Yw,hb4⟩:=H4.out;have gj:=hb4.trans (Km.mono hb4.size);obtain⟨gA,gC,DL,DU,cL,cU,ev,-⟩:=id vZ.ex;have b6:=bI w5 (.cells #[.slice (some ⟨gA,0,none⟩) n n, .slice (some ⟨gC,0,none⟩) n n, .int .i64 (n:Int), .int .i64 (n:Int), .slice DL n cL, .int .i64 (n:Int), .int .i64 (n:Int), .slice DU n cU] 96);have i6:=Fp.new w5 n gA gC cL cU DL DU;obtain⟨w6,iB⟩:=xeq (w5.alloc (.cells #[.slice (some ⟨gA,0,none⟩) n n, .slice (some ⟨gC,0,none⟩) n n, .int .i64 (n:Int), .int .i64 (n:Int), .slice DL n cL, .int .i64 (n:Int), .int .i64 (n:Int), .slice DU n cU] 96));obtain⟨N6,WX⟩:=xeq w5.heap.size;rw[iB]at b6 i6;rw[WX]at i6;have eC:=gj.trans (b6.mono gj.size);have g46:=Km.trans (b6.mono Km.size);have aft:=NJ.below g46;have Xe:=JI.below g46 JI.lt;have JK:=(g46.block P (au.1 JJ).1).trans JJ;have hx6:=(g46.cell (p:=⟨Z0,1,none⟩) (aG w4 _ Yw)).trans Yw;have afu:=vZ.below b6;have MK:=mD (m:Int) m rfl (by omega) w6;obtain⟨gR,egR⟩:=xeq w6.heap.size
   obtain⟨w7,hw7,hf7,b7⟩:∃w7,w6.alloc (.cells ((List.range m).map fun _=>Value.slice none 0 0).toArray 40)=w7/\gG w7 gR gR m (fun _=> .slice none 0 0) (fun _=>False) (fun _=>[]) 136518844624 (fun _=>[])/\Below w6.heap.size w6 w7:=⟨_,rfl,by
    have h:=gG.new w6 w6.heap.size m 136518844624 (fun _=>False) (aj _);rw[egR]at h;exact h,bI _ _⟩
   rw[egR]at MK;have Xf:=ah (ai hf7 (ai b7 egR));have H6:=ah (ai aft (ai Xe (ai JK (ai hx6 (ai i6 (ai afu eC))))));have Fb:=ah (ai iB (ai WX hw7));have Si:=ah hup;have hgw6:gP<w6.heap.size:=Xe.lt;have HE:=ah ev;clear vZ hup Km gj hb4 NJ JI JJ Yw b6 i6 iB WX eC g46 aft Xe JK afu hw7 hf7 b7 egR ev H4
   try rw[HE.out]
   go_upto_region 17 with fail
   rw[Fb.out.1];(try rw[Fb.out.2.1]);go_upto_region 19 with fail
   rw[Fb.out.2.2];clear hx6 MK
   go_loopw [74] (fun t wr=>∃(i:Nat) (y:Nat->Nat->Rat) (V:Nat->Value) (L:Nat->List Value),i<=n/\t= .int .i64 (i:Int)/\gG wr gR gR m V (fun _=>False) (tab l n x y i) 136518844624 L/\(∀a,a<i->∀r,r<n->Gd.S n (fun j=>Gd.vM (pO l) (x r) (x j)*y a j)=Gd.dl r a)/\Below gR w6 wr) (fun t _=>n- (intOf t).toNat)
   case atStart=>exact⟨0,fun _ _=>0,_,_,aF _,rfl,Xf.out.1,fun a ha=>absurd ha (Nat.not_lt_zero a),by rw[<-Xf.out.2.2];exact Xf.out.2.1⟩
   case round=>
    clear hZ hk hlk;obtain⟨i,y,V,L,hi,rfl,vm,hy,hb⟩:=hrel;have eC:Below w6.heap.size w6 wr:=by rw[Xf.out.2.2];exact hb
    obtain⟨hil,hpl,qE,hx,i6,vZ,cF⟩:=H6.out;have cF:=cF.trans (eC.mono cF.size)
    by_cases hlk:i<n
    ·have hil:=hil.below eC;have hpl:=hpl.below eC hpl.lt;have qE:=(eC.block P (au.1 qE).1).trans qE;have hx:=bn eC (aG w6 _ hx) hx;have i6:=i6.below eC i6.lt;have vZ:=vZ.below eC;obtain⟨ob,oo,rfl,ab0,X4⟩:=hil (by omega);have e0:=X4 i hlk;obtain⟨xi,exi⟩:=xeq (x i);rw[exi]at e0;have u0:(0:Int)<=(i:Int):=by omega
     have u1:(i:Int)<n:=by omega
     have ab1:=mY (n:Int) n rfl (by omega) wr;obtain⟨gz,Oc⟩:=xeq wr.heap.size
     obtain⟨w8,Af,GX,b8⟩:∃w8,wr.alloc (.cells (dF n fun _=>Qc.z) 45)=w8/\dL w8 gz n (fun _=>Qc.z)/\Below wr.heap.size wr w8:=⟨_,rfl,by
      rw[<-Oc];unfold dL;exact aS wr _,bI _ _⟩
     rw[Af,Oc]at ab1;have hfi:=fO (w:=w8) (na:=1) (by omega) (by omega) (show mkRat (1:Int) 1=(1:Rat)from by decide);have HY:=ah (ai vm (ai hy (ai hb cF)));have HZ:=ah (ai hpl (ai qE (ai hx (ai i6 vZ))));have HXI:=ah exi;have H8:=ah (ai GX (ai b8 Oc));have HXB:=ah (ai eC (ai ab0 X4));clear vm hy hb cF hpl qE hx i6 vZ exi GX b8 Oc eC hil ab0 X4 Af;go_upto_region 22 with fail
     clear ab1 e0;go_wp2_with fail
     refine hfi.mono ?_;rintro ret w9 ⟨b9,s9,t9,rfl,o9,g9⟩;clear hfi;obtain⟨vm,hy,hb,cF⟩:=HY.out;obtain⟨hpl,qE,hx,i6,vZ⟩:=HZ.out;obtain⟨GX,b8,Oc⟩:=H8.out;have g89:=b8.trans (g9.mono b8.size);have Yx:=GX.below g9;obtain⟨z0,z1,z2⟩:=Yx.cell hlk;have z3:=Yx.frozen (i*3);have z4:=Yx.frozen (i*3+1);have z5:=Yx.frozen (i*3+2);obtain⟨Ns,Nt,Nu⟩:=o9.st;have hcs:=bw.jc gz i w9 b9 s9 t9;have Xg:=Yx.set hlk ⟨b9,s9,t9,1⟩;have hnF:∀k,iq gR m V k->k<gz:=fun k hk=>by rw[<-Oc];exact(vm.fF.ge hk).2
     have afv:gz<w8.heap.size:=GX.lt;have pP:RO w9 (fun k=>k=gz∨iq gR m V k) b9 s9 t9 1 1:=o9.ro (nW (aj 1)) (fun k hk=>hk.elim (fun e=>by rw[e];exact afv) (fun h=>Nat.lt_trans (hnF k h) afv));obtain⟨w10,wX⟩:=xeq (((w9.setCell ⟨gz,i*3,none⟩ b9).setCell ⟨gz,i*3+1,none⟩ s9).setCell ⟨gz,i*3+2,none⟩ t9);rw[wX]at Xg hcs;have Ta:=(pP.bJ hcs (fun k hk=> .inl hk)).wide (M':=iq gR m V) (fun k hk=> .inl (.inr hk))
     have Tb:∀j,j<n->(bE (fun _=>Qc.z) i ⟨b9,s9,t9,1⟩ j).ok w10 (iq gR m V) 1:=fun j hj=>by
      by_cases e:j=i
      ·subst e;rw[aW];exact Ta
      ·rw[bk _ _ e];exact Qc.okz (aj 1)
     have g10:Below wr.heap.size wr w10:=g89.trans (hcs.below g89.size (fun k hk e=>by omega))
     have hdl:∀r,r<n->((rZ n (bE (fun _=>Qc.z) i ⟨b9,s9,t9,1⟩))[r]?).getD 0=Gd.dl r i:=fun r hr=>by
      rw[oM hr]
      show(bE (fun _=>Qc.z) i ⟨b9,s9,t9,1⟩ r).r=_
      by_cases e:r=i
      ·subst e;rw[aW,Gd.gQ]
      ·rw[bk _ _ e,Gd.je e];rfl
     have i10:=i6.below g10 i6.lt;have EJ:=GI (D:=some ⟨gz,0,none⟩) (c:=n) (Kb:=1) (B:=1) (vZ.below g10) Si.out (by omega) (by decide) (by decide) (iq gR m V) (fun k hk=>ak (vm.fF.ge hk).2 g10.size) (Xg.qlm Tb) oL (aj 1) (aj 1) (ay (bs5 S5) (by decide));obtain⟨c0,c1,c2',c3,c4,c5,c6,c7⟩:=i10.c;rw[HE.out]at EJ;have H10:=ah (ai g10 hdl);have Xh:=ah wX;have hxP:=aG wr _ hx;clear vm hy hb cF hpl qE hx i6 vZ GX b8 Oc g89 Yx o9 g9 hcs Xg pP Ta Tb g10 hdl i10 wX hnF;go_upto_region 23 with fail
     rw[Xh.out];clear z0 z1 z2 z3 z4 z5 Ns Nt Nu;go_wp2_with fail
     refine EJ.mono ?_;rintro e w11 ⟨gF,f,rfl,hge,SA,ab2,uh,afw⟩;clear EJ c0 c1 c2' c3 c4 c5 c6 c7;obtain⟨g10,hdl⟩:=H10.out;have g11:=g10.trans (afw.mono g10.size);have b12:=bI w11 (.cells #[.slice (some ⟨gF,0,none⟩) n n] 49);obtain⟨Q,eQ⟩:=xeq w11.heap.size;obtain⟨w12,Xi,afx⟩:∃w12,w11.alloc (.cells #[.slice (some ⟨gF,0,none⟩) n n] 49)=w12/\w12.heap[Q]?=some (.cells #[.slice (some ⟨gF,0,none⟩) n n] 49 (0,0)):=⟨_,rfl,by rw[<-eQ];exact aS w11 _⟩;rw[Xi]at b12;have g12:=g11.trans (b12.mono g11.size);obtain⟨vm,hy,hb,cF⟩:=HY.out;obtain⟨hpl,qE,hx,i6,vZ⟩:=HZ.out;have hts:TS w12 gR gR m n V (tab l n x y i) L gF Q f 68259422311 136518844624:=⟨vm.below g12,SA.below b12,fun j hj=>(((ab2 j hj).wide (M':=iq gR m V) (fun k hk=> .inl (.inr hk))).mono (bs5 S5)).bJ (P:=fun _=>False) (bw.of b12) (fun _ h=>h.elim),afx⟩;have ab3:gR<=wr.heap.size:=by have:=hb.size;have:=Xf.out.2.2;omega
     have kx:=hb.trans (g12.mono ab3);have ao8:=bn g12 (aG wr _ hx) hx
     have G5:∀r,r<n->Gd.S n (fun j=>Gd.vM (pO l) (x r) (x j)* (f j).r)=Gd.dl r i:=fun r hr=>by
      rw[<-hdl r hr,<-uh r hr];exact Gd.cT fun j hj=>by rw[Yt.out r hr j hj]
     have vV:=ah (ai hts (ai kx G5));have afy:=ah (ai Xi eQ);clear hge SA ab2 uh afw hdl g10 g11 b12 Xi afx g12 vm hy hb cF hpl qE hx i6 vZ hts ab3 kx G5 eQ;go_upto_region 24 with fail
     rw[afy.out.1];(try rw[afy.out.2]);have hmf:∀(fn:Fn) (first cap:Array Value) (w:World),(Instr.makeFunc fn first cap).run Tryz.prog w= .ok (.func fn first cap) w:=fun _ _ _ _=>rfl;go_upto_region 28 with fail
     clear hmf ao8;obtain⟨Tv,eT⟩:=xeq (Sy l (om n x (fun j=>(f j).r)));obtain⟨A0,Yy⟩:=xeq (tab l n x y i);have SH:∀j,(A0 j).length<=5:=fun j=>by rw[<-Yy];exact ay (Qx i j) (by omega)
     have HT0:=ah (show TS w12 gR gR m n V (iZ Tv xi A0 0) L gF Q f 68259422311 136518844624/\Below gR w6 w12 from by
      rw[IZ,<-Yy];exact⟨vV.out.1,vV.out.2.1⟩)
     have ab4:=ah (ai vV.out.2.2 (ai eT Yy));have HA0:=ah SH;clear vV eT Yy SH;have ao9:=hlk
     go_loopw [99] (fun t wx=>∃(k:Nat) (V':Nat->Value) (L':Nat->List Value),k<=m/\t= .int .i64 (k:Int)/\TS wx gR gR m n V' (iZ Tv xi A0 k) L' gF Q f 68259422311 136518844624/\Below gR w6 wx) (fun t _=>m- (intOf t).toNat)
     case atStart=>exact⟨0,_,_,aF _,rfl,HT0.out⟩
     case round=>
      clear HT0 u0 u1 hlk;obtain⟨k,V',L',hk,rfl,hts,hb⟩:=hrel;have eC:Below w6.heap.size w6 wr:=by rw[Xf.out.2.2];exact hb
      obtain⟨-,hpl,qE,-,-,-,cF⟩:=H6.out;have cF:=cF.trans (eC.mono cF.size)
      by_cases hlk:k<m
      ·obtain⟨q,hq⟩:∃q,l[k]?=some q:=⟨l[k]'(by rw[HM.out];exact hlk),aB _⟩;obtain⟨bb,bo,rfl,hbl,⟨e0,e1⟩,p1,p2,p3,y1,y2,y3,⟨e2,e3,e4⟩,⟨e5,e6,e7⟩,hr1,iW⟩:=(HL.out.below cF).nth hq;obtain⟨s0,s1,s2⟩:=hr1.st;obtain⟨s3,s4,s5⟩:=iW.st;obtain⟨vO,vP,-,-⟩:=HV.out q (aD hq);obtain⟨qf,lE⟩:=xeq q.f;obtain⟨qt,lF⟩:=xeq q.t;rw[lE]at e0 vO;rw[lF]at e1 vP;have u0:(0:Int)<=(k:Int):=by omega
       have u1:(k:Int)<m:=by omega
       have gm:=bI wr (.cells #[.int .i64 (qf:Int), .int .i64 (qt:Int),p1,p2,p3,y1,y2,y3] 47);have h5:=aS wr (.cells #[.int .i64 (qf:Int), .int .i64 (qt:Int),p1,p2,p3,y1,y2,y3] 47);obtain⟨wb,gh⟩:=xeq (wr.alloc (.cells #[.int .i64 (qf:Int), .int .i64 (qt:Int),p1,p2,p3,y1,y2,y3] 47));obtain⟨Ne,fG⟩:=xeq wr.heap.size;rw[gh]at gm h5;rw[fG]at h5;obtain⟨⟨z0,z1,z2,z3,z4,z5,z6,z7⟩,-⟩:=fQ h5;have lC:=ah gh;have ny:=ah fG;have VO:=(hpl.below eC hpl.lt).below gm (ak hpl.lt eC.size);have JK:=(eC.block P (au.1 qE).1).trans qE;have VP:=(gm.block P (au.1 JK).1).trans JK;have EK:=hts.below gm;have hgR:gR<=wr.heap.size:=by have:=eC.size;have:=Xf.out.2.2;omega
       have jd:=hb.trans (gm.mono hgR);have MN:gR<=wb.heap.size:=ay hgR gm.size;have kO:Ne<wb.heap.size:=(au.1 h5).1
       have HAN:=ah (show∀w',Below wb.heap.size wb w'->∀b,b<N->Calls Tryz.prog 49 #[.int .i64 (b:Int), .pointer (some ⟨P,0,none⟩), .pointer (some ⟨Q,0,none⟩)] w' (fun e w''=>∃x y z,e= .returned (.agg #[x,y,z])/\bG w'' x y z (vN (oZ s b) f) 68259422311/\Below w'.heap.size w' w'')from fun w' hb b hbN=>by
        have h1:=VO.below hb VO.lt;have h2:=(hb.block P (au.1 VP).1).trans VP;have h3:=EK.below hb;exact Qn hbN (aT w' P 0 _ _ (0,0) h2) (h1.cell hbN) (aT w' Q 0 _ _ (0,0) h3.q) (au.1 h2).1 h1.lt (au.1 h3.q).1 h3.row h3.ok (by decide) (HO.out.2.2.1 b hbN))
       have X5:=ah (fun w' (hb:Below wb.heap.size wb w')=>HAN.out w' hb qf vO);have VG:=ah (fun w' (hb:Below wb.heap.size wb w')=>HAN.out w' hb qt vP);have dH:=ah (show∀w',Below wb.heap.size wb w'->w'.cell? ⟨Ne,0,none⟩=some (.int .i64 (qf:Int))/\w'.cell? ⟨Ne,1,none⟩=some (.int .i64 (qt:Int))/\w'.cell? ⟨Ne,2,none⟩=some p1/\w'.cell? ⟨Ne,3,none⟩=some p2/\w'.cell? ⟨Ne,4,none⟩=some p3 from fun w' hb=>⟨bn hb kO z0,bn hb kO z1,bn hb kO z2,bn hb kO z3,bn hb kO z4⟩);have OD:=hr1.keep gm;have X6:=ah (fun w' (hb:Below wb.heap.size wb w')=>OD.keep hb);have VH:=ah (show Sz q.s 1 from hr1.sz)
       have Qr:q.s* (vN (oZ s qf) f-vN (oZ s qt) f)=Tv k:=by
        rw[HO.out.2.2.2.1 f qf vO,HO.out.2.2.2.1 f qt vP,<-ab4.out.2.1];unfold Sy;rw[hq]
        show _=q.s* (om n x _ q.f-om n x _ q.t)
        rw[lE,lF]
       have HSV:=ah Qr;have HTB:=ah (ai EK (ai jd MN));clear hr1 iW hq lE lF gm h5 gh fG cF hb eC hpl qE hts VO JK VP EK hgR jd OD Qr;go_upto_region 30 with fail
       (try rw[lC.out]);(try rw[ny.out]);clear e0 e1 e2 e3 e4 e5 e6 e7 s0 s1 s2 s3 s4 s5 z0 z1 z2 z3 z4 z5 z6 z7
       go_cut [23] (fun u wx=>∃N9 b s' t,u= .pointer (some ⟨N9,0,none⟩)/\cK wx N9 b s' t/\RO wx (fun x=>x=N9∨x<wb.heap.size) b s' t (q.s* (vN (oZ s qf) f-vN (oZ s qt) f)) 136518844624/\wb.heap.size<=N9/\Below wb.heap.size wb wx)
       case first=>
        refine wp_region_held_drew (S:=(fun w'=>Below wb.heap.size wb w'/\w'.cell? ⟨Ne,0,none⟩=some (.int .i64 (qf:Int))/\w'.cell? ⟨Ne,1,none⟩=some (.int .i64 (qt:Int))/\w'.cell? ⟨Ne,2,none⟩=some p1/\w'.cell? ⟨Ne,3,none⟩=some p2/\w'.cell? ⟨Ne,4,none⟩=some p3)) (by kernel_rfl) (⟨(aq _ _).drew,dH.out _ (aq _ _).drew⟩) (fun aU=>?_);refine tq 0 aU ?_;refine tq 1 aU ?_;refine tq 2 aU ?_;refine tq 3 aU ?_;refine tq 4 aU ?_;refine tq 6 aU ?_;refine tq 7 aU ?_;refine tq 8 aU ?_;refine wpAnyH_ready (rs:=[5,12]) (by kernel_rfl) (by simp) ?_;refine nC 5 rfl (fun κ hκ=>?_) ?_
        focus
         go_simp;go_at_call 49;refine(X5.out _ aU.1).mono ?_;rintro ret w5 ⟨b5,s5,t5,rfl,o5,g5⟩;have gj:=aU.1.trans (g5.mono aU.1.size);have pV:=o5;clear o5 g5;go_wp2_with fail
         refine hκ.out _ _ ?_ (fun aU=>?_)
         ·exact⟨gj,dH.out _ gj⟩
         clear hκ κ;refine tu ?_;refine wpAnyH_ready (rs:=[9,12]) (by kernel_rfl) (by simp) ?_;refine nC 9 rfl (fun κ hκ=>?_) ?_
         focus
          go_simp;go_at_call 49;refine(VG.out _ aU.1).mono ?_;rintro ret w9 ⟨b9,s9,t9,rfl,o9,g9⟩;have kS:=aU.1.trans (g9.mono aU.1.size);have qF:=pV.keep g9;clear pV;have pV:=qF;clear qF;have Ah:=o9;clear o9 g9;go_wp2_with fail
          refine hκ.out _ _ ?_ (fun aU=>?_)
          ·exact⟨kS,dH.out _ kS⟩
          clear hκ κ;refine tu ?_;refine wpAnyH_ready (rs:=[10,12]) (by kernel_rfl) (by simp) ?_;refine nC 10 rfl (fun κ hκ=>?_) ?_
          focus
           go_simp;go_at_call 30;refine(jm pV Ah (by decide) rfl).mono ?_;rintro ret w10 ⟨b10,s10,t10,rfl,o10,g10⟩;have kU:=aU.1.trans (g10.mono aU.1.size);have gW:=o10.is (pV.sz.yX Ah.sz rfl (aj _));clear o10 g10 pV Ah;go_wp2_with fail
           refine hκ.out _ _ ?_ (fun aU=>?_)
           ·exact⟨kU,dH.out _ kU⟩
           clear hκ κ;refine tu ?_;refine wpAnyH_ready (rs:=[11,12]) (by kernel_rfl) (by simp) ?_;refine nC 11 rfl (fun κ hκ=>?_) ?_
           focus
            go_simp;go_at_call 31;refine(iT (q:=q.s* (vN (oZ s qf) f-vN (oZ s qt) f)) ((X6.out _ aU.1).mono (by decide)) gW (by decide) rfl).mono ?_;rintro ret w11 ⟨b11,s11,t11,rfl,o11,g11⟩;have jL:=aU.1.trans (g11.mono aU.1.size);have jT:=o11.is (VH.out.mul' gW.sz rfl (show 1+ (68259422311+68259422311+1)<=136518844624 by decide));have afz:Av (fun x=>x<wb.heap.size) s11/\Av (fun x=>x<wb.heap.size) t11:=⟨o11.av.1.mono (fun x h=>ak h aU.1.size),o11.av.2.mono (fun x h=>ak h aU.1.size)⟩;clear o11 g11 gW;go_wp2_with fail
            refine hκ.out _ _ ?_ (fun aU=>?_)
            ·exact⟨jL,dH.out _ jL⟩
            clear hκ κ;refine tu ?_;refine tv 12 (fun κ hκ=>?_);go_simp;have fS:Below wb.heap.size wb (w11.alloc (.cells #[.bool false, .slice none 0 0, .slice none 0 0] 45)):=aU.1.trans ((bI w11 (.cells #[.bool false, .slice none 0 0, .slice none 0 0] 45)).mono aU.1.size);have i9:cK (w11.alloc (.cells #[.bool false, .slice none 0 0, .slice none 0 0] 45)) w11.heap.size (.bool false) (.slice none 0 0) (.slice none 0 0):=cK.jJ w11 45 (.bool false) (.slice none 0 0) (.slice none 0 0);have eJ:Av (fun x=>x=w11.heap.size∨x<wb.heap.size) s11/\Av (fun x=>x=w11.heap.size∨x<wb.heap.size) t11:=⟨(jT.av.1.or afz.1).mono (fun x hx=>hx.elim (fun e=> .inl (by rw[e];exact aj _)) (fun h=> .inr h)),(jT.av.2.or afz.2).mono (fun x hx=>hx.elim (fun e=> .inl (by rw[e];exact aj _)) (fun h=> .inr h))⟩;have SB:=jT.keep (bI w11 (.cells #[.bool false, .slice none 0 0, .slice none 0 0] 45));clear jT;have jT:=SB;clear SB;have dB:w11.heap.size< (w11.alloc (.cells #[.bool false, .slice none 0 0, .slice none 0 0] 45)).heap.size:=i9.lt;obtain⟨N9,hN⟩:∃N:Nat,N=w11.heap.size:=⟨_,rfl⟩;have oy:wb.heap.size<=N9:=by rw[hN];exact aU.1.size
            rw[<-hN]at i9 dB eJ;obtain⟨J7,gH⟩:=xeq ((w11.alloc (.cells #[.bool false, .slice none 0 0, .slice none 0 0] 45)));rw[gH]at fS i9 dB jT;(try rw[gH]);(try rw[<-hN]);clear hN gH;refine hκ.out _ _ ?_ (fun aU=>?_)
            ·exact⟨fS,dH.out _ fS⟩
            clear hκ κ;refine tu ?_;refine tv 13 (fun κ hκ=>?_);obtain⟨vJ,vK,vL⟩:=jT.st;obtain⟨n0,n1,n2,n3,n4,n5⟩:=id i9;go_simp;clear n0 n1 n2 n3 n4 n5 vJ vK vL;have eW:bw (fun x=>x=N9) J7 (((J7.setCell ⟨N9,0,none⟩ b11).setCell ⟨N9,1,none⟩ s11).setCell ⟨N9,2,none⟩ t11):=(bw.set (P:=(·=N9)) (p:=⟨N9,0,none⟩) rfl _ _).trans ((bw.set (P:=(·=N9)) (p:=⟨N9,1,none⟩) rfl _ _).trans (bw.set (P:=(·=N9)) (p:=⟨N9,2,none⟩) rfl _ _));have gI:=aU.1.trans (eW.below aU.1.size (fun k hk e=>by omega));have HP:=ah (ai (i9.put b11 s11 t11) (ai (show RO _ (fun x=>x=N9∨x<wb.heap.size) b11 s11 t11 _ _ from⟨jT.bJ eW (eJ.1.mono fun x h=> .inl h) (eJ.2.mono fun x h=> .inl h),eJ.1,eJ.2⟩) (ai oy gI)));clear jT eJ i9 eW;refine hκ.out _ _ ?_ (fun aU=>?_)
            ·exact⟨gI,dH.out _ gI⟩
            clear hκ κ;refine tu ?_;refine td ?_ _;go_wp2_with fail
            go_meet;exact⟨N9,b11,s11,t11,rfl,HP.out⟩
           refine nC 12 rfl (fun κ hκ=>?_) ?_
           focus
            go_simp;have fS:Below wb.heap.size wb (w10.alloc (.cells #[.bool false, .slice none 0 0, .slice none 0 0] 45)):=aU.1.trans ((bI w10 (.cells #[.bool false, .slice none 0 0, .slice none 0 0] 45)).mono aU.1.size);have i9:cK (w10.alloc (.cells #[.bool false, .slice none 0 0, .slice none 0 0] 45)) w10.heap.size (.bool false) (.slice none 0 0) (.slice none 0 0):=cK.jJ w10 45 (.bool false) (.slice none 0 0) (.slice none 0 0);have Cg:=gW.keep (bI w10 (.cells #[.bool false, .slice none 0 0, .slice none 0 0] 45));clear gW;have gW:=Cg;clear Cg;have dB:w10.heap.size< (w10.alloc (.cells #[.bool false, .slice none 0 0, .slice none 0 0] 45)).heap.size:=i9.lt;obtain⟨N9,hN⟩:∃N:Nat,N=w10.heap.size:=⟨_,rfl⟩;have oy:wb.heap.size<=N9:=by rw[hN];exact aU.1.size
            rw[<-hN]at i9 dB;obtain⟨J7,gH⟩:=xeq ((w10.alloc (.cells #[.bool false, .slice none 0 0, .slice none 0 0] 45)));rw[gH]at fS i9 dB gW;(try rw[gH]);(try rw[<-hN]);clear hN gH;refine hκ.out _ _ ?_ (fun aU=>?_)
            ·exact⟨fS,dH.out _ fS⟩
            clear hκ κ;refine tu ?_;refine tv 11 (fun κ hκ=>?_);go_simp;go_at_call 31;refine(iT (q:=q.s* (vN (oZ s qf) f-vN (oZ s qt) f)) ((X6.out _ aU.1).mono (by decide)) gW (by decide) rfl).mono ?_;rintro ret w11 ⟨b11,s11,t11,rfl,o11,g11⟩;have jL:=aU.1.trans (g11.mono aU.1.size);have jT:=o11.is (VH.out.mul' gW.sz rfl (show 1+ (68259422311+68259422311+1)<=136518844624 by decide));have eJ:Av (fun x=>x=N9∨x<wb.heap.size) s11/\Av (fun x=>x=N9∨x<wb.heap.size) t11:=⟨o11.av.1.mono (fun x hx=>hx.elim (fun e=>by rw[e];exact dB) (fun h=>ak h aU.1.size)),o11.av.2.mono (fun x hx=>hx.elim (fun e=>by rw[e];exact dB) (fun h=>ak h aU.1.size))⟩;have kP:=i9.keep g11;clear i9;have i9:=kP;clear kP;have dQ:=ak dB g11.size;clear dB;have dB:=dQ;clear dQ;clear o11 g11 gW;go_wp2_with fail
            refine hκ.out _ _ ?_ (fun aU=>?_)
            ·exact⟨jL,dH.out _ jL⟩
            clear hκ κ;refine tu ?_;refine tv 13 (fun κ hκ=>?_);obtain⟨vJ,vK,vL⟩:=jT.st;obtain⟨n0,n1,n2,n3,n4,n5⟩:=id i9;go_simp;clear n0 n1 n2 n3 n4 n5 vJ vK vL;have eW:bw (fun x=>x=N9) w11 (((w11.setCell ⟨N9,0,none⟩ b11).setCell ⟨N9,1,none⟩ s11).setCell ⟨N9,2,none⟩ t11):=(bw.set (P:=(·=N9)) (p:=⟨N9,0,none⟩) rfl _ _).trans ((bw.set (P:=(·=N9)) (p:=⟨N9,1,none⟩) rfl _ _).trans (bw.set (P:=(·=N9)) (p:=⟨N9,2,none⟩) rfl _ _));have gI:=aU.1.trans (eW.below aU.1.size (fun k hk e=>by omega));have HP:=ah (ai (i9.put b11 s11 t11) (ai (show RO _ (fun x=>x=N9∨x<wb.heap.size) b11 s11 t11 _ _ from⟨jT.bJ eW (eJ.1.mono fun x h=> .inl h) (eJ.2.mono fun x h=> .inl h),eJ.1,eJ.2⟩) (ai oy gI)));clear jT eJ i9 eW;refine hκ.out _ _ ?_ (fun aU=>?_)
            ·exact⟨gI,dH.out _ gI⟩
            clear hκ κ;refine tu ?_;refine td ?_ _;go_wp2_with fail
            go_meet;exact⟨N9,b11,s11,t11,rfl,HP.out⟩
           exact AllReadyH.nil
          refine nC 12 rfl (fun κ hκ=>?_) ?_
          focus
           go_simp;have fS:Below wb.heap.size wb (w9.alloc (.cells #[.bool false, .slice none 0 0, .slice none 0 0] 45)):=aU.1.trans ((bI w9 (.cells #[.bool false, .slice none 0 0, .slice none 0 0] 45)).mono aU.1.size);have i9:cK (w9.alloc (.cells #[.bool false, .slice none 0 0, .slice none 0 0] 45)) w9.heap.size (.bool false) (.slice none 0 0) (.slice none 0 0):=cK.jJ w9 45 (.bool false) (.slice none 0 0) (.slice none 0 0);have qF:=pV.keep (bI w9 (.cells #[.bool false, .slice none 0 0, .slice none 0 0] 45));clear pV;have pV:=qF;clear qF;have ab5:=Ah.keep (bI w9 (.cells #[.bool false, .slice none 0 0, .slice none 0 0] 45));clear Ah;have Ah:=ab5;clear ab5;have dB:w9.heap.size< (w9.alloc (.cells #[.bool false, .slice none 0 0, .slice none 0 0] 45)).heap.size:=i9.lt;obtain⟨N9,hN⟩:∃N:Nat,N=w9.heap.size:=⟨_,rfl⟩;have oy:wb.heap.size<=N9:=by rw[hN];exact aU.1.size
           rw[<-hN]at i9 dB;obtain⟨J7,gH⟩:=xeq ((w9.alloc (.cells #[.bool false, .slice none 0 0, .slice none 0 0] 45)));rw[gH]at fS i9 dB pV Ah;(try rw[gH]);(try rw[<-hN]);clear hN gH;refine hκ.out _ _ ?_ (fun aU=>?_)
           ·exact⟨fS,dH.out _ fS⟩
           clear hκ κ;refine tu ?_;refine tv 10 (fun κ hκ=>?_);go_simp;go_at_call 30;refine(jm pV Ah (by decide) rfl).mono ?_;rintro ret w10 ⟨b10,s10,t10,rfl,o10,g10⟩;have kU:=aU.1.trans (g10.mono aU.1.size);have gW:=o10.is (pV.sz.yX Ah.sz rfl (aj _));have kP:=i9.keep g10;clear i9;have i9:=kP;clear kP;have dQ:=ak dB g10.size;clear dB;have dB:=dQ;clear dQ;clear o10 g10 pV Ah;go_wp2_with fail
           refine hκ.out _ _ ?_ (fun aU=>?_)
           ·exact⟨kU,dH.out _ kU⟩
           clear hκ κ;refine tu ?_;refine tv 11 (fun κ hκ=>?_);go_simp;go_at_call 31;refine(iT (q:=q.s* (vN (oZ s qf) f-vN (oZ s qt) f)) ((X6.out _ aU.1).mono (by decide)) gW (by decide) rfl).mono ?_;rintro ret w11 ⟨b11,s11,t11,rfl,o11,g11⟩;have jL:=aU.1.trans (g11.mono aU.1.size);have jT:=o11.is (VH.out.mul' gW.sz rfl (show 1+ (68259422311+68259422311+1)<=136518844624 by decide));have eJ:Av (fun x=>x=N9∨x<wb.heap.size) s11/\Av (fun x=>x=N9∨x<wb.heap.size) t11:=⟨o11.av.1.mono (fun x hx=>hx.elim (fun e=>by rw[e];exact dB) (fun h=>ak h aU.1.size)),o11.av.2.mono (fun x hx=>hx.elim (fun e=>by rw[e];exact dB) (fun h=>ak h aU.1.size))⟩;have kP:=i9.keep g11;clear i9;have i9:=kP;clear kP;have dQ:=ak dB g11.size;clear dB;have dB:=dQ;clear dQ;clear o11 g11 gW;go_wp2_with fail
           refine hκ.out _ _ ?_ (fun aU=>?_)
           ·exact⟨jL,dH.out _ jL⟩
           clear hκ κ;refine tu ?_;refine tv 13 (fun κ hκ=>?_);obtain⟨vJ,vK,vL⟩:=jT.st;obtain⟨n0,n1,n2,n3,n4,n5⟩:=id i9;go_simp;clear n0 n1 n2 n3 n4 n5 vJ vK vL;have eW:bw (fun x=>x=N9) w11 (((w11.setCell ⟨N9,0,none⟩ b11).setCell ⟨N9,1,none⟩ s11).setCell ⟨N9,2,none⟩ t11):=(bw.set (P:=(·=N9)) (p:=⟨N9,0,none⟩) rfl _ _).trans ((bw.set (P:=(·=N9)) (p:=⟨N9,1,none⟩) rfl _ _).trans (bw.set (P:=(·=N9)) (p:=⟨N9,2,none⟩) rfl _ _));have gI:=aU.1.trans (eW.below aU.1.size (fun k hk e=>by omega));have HP:=ah (ai (i9.put b11 s11 t11) (ai (show RO _ (fun x=>x=N9∨x<wb.heap.size) b11 s11 t11 _ _ from⟨jT.bJ eW (eJ.1.mono fun x h=> .inl h) (eJ.2.mono fun x h=> .inl h),eJ.1,eJ.2⟩) (ai oy gI)));clear jT eJ i9 eW;refine hκ.out _ _ ?_ (fun aU=>?_)
           ·exact⟨gI,dH.out _ gI⟩
           clear hκ κ;refine tu ?_;refine td ?_ _;go_wp2_with fail
           go_meet;exact⟨N9,b11,s11,t11,rfl,HP.out⟩
          exact AllReadyH.nil
         refine nC 12 rfl (fun κ hκ=>?_) ?_
         focus
          go_simp;have fS:Below wb.heap.size wb (w5.alloc (.cells #[.bool false, .slice none 0 0, .slice none 0 0] 45)):=aU.1.trans ((bI w5 (.cells #[.bool false, .slice none 0 0, .slice none 0 0] 45)).mono aU.1.size);have i9:cK (w5.alloc (.cells #[.bool false, .slice none 0 0, .slice none 0 0] 45)) w5.heap.size (.bool false) (.slice none 0 0) (.slice none 0 0):=cK.jJ w5 45 (.bool false) (.slice none 0 0) (.slice none 0 0);have qF:=pV.keep (bI w5 (.cells #[.bool false, .slice none 0 0, .slice none 0 0] 45));clear pV;have pV:=qF;clear qF;have dB:w5.heap.size< (w5.alloc (.cells #[.bool false, .slice none 0 0, .slice none 0 0] 45)).heap.size:=i9.lt;obtain⟨N9,hN⟩:∃N:Nat,N=w5.heap.size:=⟨_,rfl⟩;have oy:wb.heap.size<=N9:=by rw[hN];exact aU.1.size
          rw[<-hN]at i9 dB;obtain⟨J7,gH⟩:=xeq ((w5.alloc (.cells #[.bool false, .slice none 0 0, .slice none 0 0] 45)));rw[gH]at fS i9 dB pV;(try rw[gH]);(try rw[<-hN]);clear hN gH;refine hκ.out _ _ ?_ (fun aU=>?_)
          ·exact⟨fS,dH.out _ fS⟩
          clear hκ κ;refine tu ?_;refine tv 9 (fun κ hκ=>?_);go_simp;go_at_call 49;refine(VG.out _ aU.1).mono ?_;rintro ret w9 ⟨b9,s9,t9,rfl,o9,g9⟩;have kS:=aU.1.trans (g9.mono aU.1.size);have qF:=pV.keep g9;clear pV;have pV:=qF;clear qF;have Ah:=o9;have kP:=i9.keep g9;clear i9;have i9:=kP;clear kP;have dQ:=ak dB g9.size;clear dB;have dB:=dQ;clear dQ;clear o9 g9;go_wp2_with fail
          refine hκ.out _ _ ?_ (fun aU=>?_)
          ·exact⟨kS,dH.out _ kS⟩
          clear hκ κ;refine tu ?_;refine tv 10 (fun κ hκ=>?_);go_simp;go_at_call 30;refine(jm pV Ah (by decide) rfl).mono ?_;rintro ret w10 ⟨b10,s10,t10,rfl,o10,g10⟩;have kU:=aU.1.trans (g10.mono aU.1.size);have gW:=o10.is (pV.sz.yX Ah.sz rfl (aj _));have kP:=i9.keep g10;clear i9;have i9:=kP;clear kP;have dQ:=ak dB g10.size;clear dB;have dB:=dQ;clear dQ;clear o10 g10 pV Ah;go_wp2_with fail
          refine hκ.out _ _ ?_ (fun aU=>?_)
          ·exact⟨kU,dH.out _ kU⟩
          clear hκ κ;refine tu ?_;refine tv 11 (fun κ hκ=>?_);go_simp;go_at_call 31;refine(iT (q:=q.s* (vN (oZ s qf) f-vN (oZ s qt) f)) ((X6.out _ aU.1).mono (by decide)) gW (by decide) rfl).mono ?_;rintro ret w11 ⟨b11,s11,t11,rfl,o11,g11⟩;have jL:=aU.1.trans (g11.mono aU.1.size);have jT:=o11.is (VH.out.mul' gW.sz rfl (show 1+ (68259422311+68259422311+1)<=136518844624 by decide));have eJ:Av (fun x=>x=N9∨x<wb.heap.size) s11/\Av (fun x=>x=N9∨x<wb.heap.size) t11:=⟨o11.av.1.mono (fun x hx=>hx.elim (fun e=>by rw[e];exact dB) (fun h=>ak h aU.1.size)),o11.av.2.mono (fun x hx=>hx.elim (fun e=>by rw[e];exact dB) (fun h=>ak h aU.1.size))⟩;have kP:=i9.keep g11;clear i9;have i9:=kP;clear kP;have dQ:=ak dB g11.size;clear dB;have dB:=dQ;clear dQ;clear o11 g11 gW;go_wp2_with fail
          refine hκ.out _ _ ?_ (fun aU=>?_)
          ·exact⟨jL,dH.out _ jL⟩
          clear hκ κ;refine tu ?_;refine tv 13 (fun κ hκ=>?_);obtain⟨vJ,vK,vL⟩:=jT.st;obtain⟨n0,n1,n2,n3,n4,n5⟩:=id i9;go_simp;clear n0 n1 n2 n3 n4 n5 vJ vK vL;have eW:bw (fun x=>x=N9) w11 (((w11.setCell ⟨N9,0,none⟩ b11).setCell ⟨N9,1,none⟩ s11).setCell ⟨N9,2,none⟩ t11):=(bw.set (P:=(·=N9)) (p:=⟨N9,0,none⟩) rfl _ _).trans ((bw.set (P:=(·=N9)) (p:=⟨N9,1,none⟩) rfl _ _).trans (bw.set (P:=(·=N9)) (p:=⟨N9,2,none⟩) rfl _ _));have gI:=aU.1.trans (eW.below aU.1.size (fun k hk e=>by omega));have HP:=ah (ai (i9.put b11 s11 t11) (ai (show RO _ (fun x=>x=N9∨x<wb.heap.size) b11 s11 t11 _ _ from⟨jT.bJ eW (eJ.1.mono fun x h=> .inl h) (eJ.2.mono fun x h=> .inl h),eJ.1,eJ.2⟩) (ai oy gI)));clear jT eJ i9 eW;refine hκ.out _ _ ?_ (fun aU=>?_)
          ·exact⟨gI,dH.out _ gI⟩
          clear hκ κ;refine tu ?_;refine td ?_ _;go_wp2_with fail
          go_meet;exact⟨N9,b11,s11,t11,rfl,HP.out⟩
         exact AllReadyH.nil
        refine nC 12 rfl (fun κ hκ=>?_) ?_
        focus
         go_simp;have fS:Below wb.heap.size wb (wb.alloc (.cells #[.bool false, .slice none 0 0, .slice none 0 0] 45)).drew:=aU.1.trans ((bI wb.drew (.cells #[.bool false, .slice none 0 0, .slice none 0 0] 45)).mono aU.1.size);have i9:cK (wb.alloc (.cells #[.bool false, .slice none 0 0, .slice none 0 0] 45)).drew wb.heap.size (.bool false) (.slice none 0 0) (.slice none 0 0):=cK.jJ wb.drew 45 (.bool false) (.slice none 0 0) (.slice none 0 0);have dB:wb.heap.size< (wb.alloc (.cells #[.bool false, .slice none 0 0, .slice none 0 0] 45)).drew.heap.size:=i9.lt;obtain⟨N9,hN⟩:∃N:Nat,N=wb.heap.size:=⟨_,rfl⟩;have oy:wb.heap.size<=N9:=by rw[hN];exact aU.1.size
         rw[<-hN]at i9 dB;obtain⟨J7,gH⟩:=xeq ((wb.alloc (.cells #[.bool false, .slice none 0 0, .slice none 0 0] 45)).drew);rw[gH]at fS i9 dB;(try rw[gH]);(try rw[<-hN]);clear hN gH;refine hκ.out _ _ ?_ (fun aU=>?_)
         ·exact⟨fS,dH.out _ fS⟩
         clear hκ κ;refine tu ?_;refine tv 5 (fun κ hκ=>?_);go_simp;go_at_call 49;refine(X5.out _ aU.1).mono ?_;rintro ret w5 ⟨b5,s5,t5,rfl,o5,g5⟩;have gj:=aU.1.trans (g5.mono aU.1.size);have pV:=o5;have kP:=i9.keep g5;clear i9;have i9:=kP;clear kP;have dQ:=ak dB g5.size;clear dB;have dB:=dQ;clear dQ;clear o5 g5;go_wp2_with fail
         refine hκ.out _ _ ?_ (fun aU=>?_)
         ·exact⟨gj,dH.out _ gj⟩
         clear hκ κ;refine tu ?_;refine tv 9 (fun κ hκ=>?_);go_simp;go_at_call 49;refine(VG.out _ aU.1).mono ?_;rintro ret w9 ⟨b9,s9,t9,rfl,o9,g9⟩;have kS:=aU.1.trans (g9.mono aU.1.size);have qF:=pV.keep g9;clear pV;have pV:=qF;clear qF;have Ah:=o9;have kP:=i9.keep g9;clear i9;have i9:=kP;clear kP;have dQ:=ak dB g9.size;clear dB;have dB:=dQ;clear dQ;clear o9 g9;go_wp2_with fail
         refine hκ.out _ _ ?_ (fun aU=>?_)
         ·exact⟨kS,dH.out _ kS⟩
         clear hκ κ;refine tu ?_;refine tv 10 (fun κ hκ=>?_);go_simp;go_at_call 30;refine(jm pV Ah (by decide) rfl).mono ?_;rintro ret w10 ⟨b10,s10,t10,rfl,o10,g10⟩;have kU:=aU.1.trans (g10.mono aU.1.size);have gW:=o10.is (pV.sz.yX Ah.sz rfl (aj _));have kP:=i9.keep g10;clear i9;have i9:=kP;clear kP;have dQ:=ak dB g10.size;clear dB;have dB:=dQ;clear dQ;clear o10 g10 pV Ah;go_wp2_with fail
         refine hκ.out _ _ ?_ (fun aU=>?_)
         ·exact⟨kU,dH.out _ kU⟩
         clear hκ κ;refine tu ?_;refine tv 11 (fun κ hκ=>?_);go_simp;go_at_call 31;refine(iT (q:=q.s* (vN (oZ s qf) f-vN (oZ s qt) f)) ((X6.out _ aU.1).mono (by decide)) gW (by decide) rfl).mono ?_;rintro ret w11 ⟨b11,s11,t11,rfl,o11,g11⟩;have jL:=aU.1.trans (g11.mono aU.1.size);have jT:=o11.is (VH.out.mul' gW.sz rfl (show 1+ (68259422311+68259422311+1)<=136518844624 by decide));have eJ:Av (fun x=>x=N9∨x<wb.heap.size) s11/\Av (fun x=>x=N9∨x<wb.heap.size) t11:=⟨o11.av.1.mono (fun x hx=>hx.elim (fun e=>by rw[e];exact dB) (fun h=>ak h aU.1.size)),o11.av.2.mono (fun x hx=>hx.elim (fun e=>by rw[e];exact dB) (fun h=>ak h aU.1.size))⟩;have kP:=i9.keep g11;clear i9;have i9:=kP;clear kP;have dQ:=ak dB g11.size;clear dB;have dB:=dQ;clear dQ;clear o11 g11 gW;go_wp2_with fail
         refine hκ.out _ _ ?_ (fun aU=>?_)
         ·exact⟨jL,dH.out _ jL⟩
         clear hκ κ;refine tu ?_;refine tv 13 (fun κ hκ=>?_);obtain⟨vJ,vK,vL⟩:=jT.st;obtain⟨n0,n1,n2,n3,n4,n5⟩:=id i9;go_simp;clear n0 n1 n2 n3 n4 n5 vJ vK vL;have eW:bw (fun x=>x=N9) w11 (((w11.setCell ⟨N9,0,none⟩ b11).setCell ⟨N9,1,none⟩ s11).setCell ⟨N9,2,none⟩ t11):=(bw.set (P:=(·=N9)) (p:=⟨N9,0,none⟩) rfl _ _).trans ((bw.set (P:=(·=N9)) (p:=⟨N9,1,none⟩) rfl _ _).trans (bw.set (P:=(·=N9)) (p:=⟨N9,2,none⟩) rfl _ _));have gI:=aU.1.trans (eW.below aU.1.size (fun k hk e=>by omega));have HP:=ah (ai (i9.put b11 s11 t11) (ai (show RO _ (fun x=>x=N9∨x<wb.heap.size) b11 s11 t11 _ _ from⟨jT.bJ eW (eJ.1.mono fun x h=> .inl h) (eJ.2.mono fun x h=> .inl h),eJ.1,eJ.2⟩) (ai oy gI)));clear jT eJ i9 eW;refine hκ.out _ _ ?_ (fun aU=>?_)
         ·exact⟨gI,dH.out _ gI⟩
         clear hκ κ;refine tu ?_;refine td ?_ _;go_wp2_with fail
         go_meet;exact⟨N9,b11,s11,t11,rfl,HP.out⟩
        exact AllReadyH.nil
       case rest=>
        obtain⟨N9,b4,s4,t4,rfl,i4,oT,hN9,hb4⟩:=hcut;rw[HSV.out]at oT;clear HAN X5 VG dH X6;obtain⟨EK,jd,MN⟩:=HTB.out;have JL:=EK.below hb4;have I7:=jd.trans (hb4.mono MN);have hVb:∀x,iq gR m V' x->x<wb.heap.size:=fun x hx=>(EK.fF.fF.ge hx).2;have zW:RO wc (fun x=>x=N9∨iq gR m V' x) b4 s4 t4 (Tv k) 136518844624:=oT.wide (fun x hx=> .inl (hx.imp id (hVb x)));obtain⟨sg,kZ⟩:=xeq (fZ (Tv k).num);have wk:=fN (oT.1) (by decide) kZ;have n0:=i4.c0;have n1:=i4.c1;have n2:=i4.c2;have z11:=oT.1.rN;have hNV:¬iq gR m V' N9:=fun h=>by have:=hVb _ h;omega
        have H4:=ah (ai i4 (ai zW (ai JL (ai I7 hNV))));have Qt:=ah kZ;have ab7:gR<=wc.heap.size:=ay MN hb4.size;clear i4 oT zW hN9 hb4 EK jd JL I7 hVb kZ HTB MN kO;go_wp2_with fail
        refine wk.mono ?_;rintro ret w7 ⟨rfl,g7⟩;clear wk n0 n1 n2 z11;obtain⟨i4,zW,JL,I7,hNV⟩:=H4.out;have fW:=I7.trans (g7.mono ab7);have i7:=i4.keep g7;have NK:=JL.below g7;have JH:=zW.bJ (P:=fun _=>False) (bw.of g7) (fun _ h=>h.elim);have af0:=ay ab7 g7.size
        by_cases hz:Tv k=0
        ·have hs0:sg=0:=by rw[<-Qt.out,hz];rfl
         have HR:=ah (show TS w7 gR gR m n V' (iZ Tv xi A0 (k+1)) L' gF Q f 68259422311 136518844624/\Below gR w6 w7 from by
          rw[I3 hz];exact⟨NK,fW⟩)
         clear i4 zW JL I7 i7 NK JH fW g7 hz;go_wp2_with fail
         go_roundw
         case rel=>exact⟨k+1,_,_,by omega,by go_num,HR.out⟩
         case measure=>simp[intOf];omega
        ·have hs0:¬sg=0:=by rw[<-Qt.out];exact lU hz
         obtain⟨Wc,hWc⟩:=xeq ((w7.alloc (.cells #[.int .i64 (xi:Int),b4,s4,t4] 92)).drew);have hbc:Below w7.heap.size w7 Wc:=by rw[<-hWc];exact(bI w7 _).drew
         obtain⟨nb,hnb⟩:=xeq w7.heap.size;have h6:Wc.heap[nb]?=some (.cells #[.int .i64 (xi:Int),b4,s4,t4] 92 (0,0)):=by rw[<-hWc,<-hnb];exact aS w7 _
         have ET:=NK.below hbc;have ic:=i7.keep hbc;have MO:=JH.bJ (P:=fun _=>False) (bw.of hbc) (fun _ h=>h.elim);have hone:=MO.1.qG (xi:Int);obtain⟨y00,y01,y02⟩:=MO.1.st;obtain⟨y03,y04,y05⟩:=MO.1.cl;have x0:=NK.fF.fF.row.cell hlk;have xb:=ET.fF.fF.row.cell hlk;obtain⟨n0,n1,n2,-,-,-⟩:=id i7;obtain⟨m0,m1,m2,-,-,-⟩:=id ic;have hown:=ET.fF.fF.own k hlk;have jR:gR<=Wc.heap.size:=ay af0 hbc.size;have jS:¬some gR=(V' k).ownBlock:=fun hx=>ET.fF.fF.out k hlk hx.symm;have ni:¬some N9=(V' k).ownBlock:=fun hx=>hNV (.inr ⟨k,hlk,hx.symm⟩);have Oa:¬N9=gR:=fun hx=>hNV (.inl hx);obtain⟨ll,qB⟩:=xeq ((iZ Tv xi A0 k k).length);have hll:ll<=6:=by rw[<-qB,GV];have:=HA0.out k;omega
         have HG:=ah (show∀g7 bR wz,wz.ownsRow gR 92 4 (.slice (some ⟨g7,0,none⟩) (ll+1) bR) (ll+1) (L' k++ [.int .i64 (xi:Int),b4,s4,t4])->Wc.grownBy wz (V' k).ownBlock->((V' k).ownBlock=some g7∨g7=Wc.heap.size)->∃V2 L2,TS (wz.setCell ⟨gR,k,none⟩ (.slice (some ⟨g7,0,none⟩) (ll+1) bR)) gR gR m n V2 (iZ Tv xi A0 (k+1)) L2 gF Q f 68259422311 136518844624/\Below gR w6 (wz.setCell ⟨gR,k,none⟩ (.slice (some ⟨g7,0,none⟩) (ll+1) bR))from fun g7 bR wz ew dR eO=>by
          subst qB;obtain⟨V2,L2,h1,h2⟩:=ET.push hlk (MO.wide (fun x hx=> .inl (.inr hx))) ew dR eO;rw[I4 hz];exact⟨V2,L2,h1,(fW.trans (hbc.mono af0)).trans (h2.below jR (fun x hx h=>by have:=(ET.fF.fF.ge h).1;omega))⟩)
         rw[qB]at hown;have xT:=ah ET.fF.fF.row;have HWc:=ah hWc;have uY:=ah hnb;clear i4 zW JL I7 hNV i7 NK JH fW hbc ET ic MO hWc hnb g7 qB hz H4;go_upto_region 32 with fail
         refine wp_region_held_drew (S:=(fun w'=>w'.cell? ⟨N9,0,none⟩=some b4/\w'.cell? ⟨N9,1,none⟩=some s4/\w'.cell? ⟨N9,2,none⟩=some t4)) (by kernel_rfl) (⟨n0,n1,n2⟩) (fun aU=>?_);refine tq 0 aU ?_;refine tq 1 aU ?_;refine tq 2 aU ?_;refine tq 3 aU ?_;refine tq 4 aU ?_;refine tq 6 aU ?_;refine tq 7 aU ?_;refine tq 8 aU ?_;refine wpAnyH_ready (rs:=[5,9]) (by kernel_rfl) (by simp) ?_;refine nC 5 rfl (fun κ hκ=>?_) ?_
         focus
          go_simp;refine hκ.out _ _ ?_ (fun aU=>?_)
          ·exact aU
          clear hκ κ;refine tu ?_;refine tv 9 (fun κ hκ=>?_);go_simp;(try rw[HWc.out]);(try rw[uY.out]);have k15:(fun w'=>w'.cell? ⟨N9,0,none⟩=some b4/\w'.cell? ⟨N9,1,none⟩=some s4/\w'.cell? ⟨N9,2,none⟩=some t4) Wc:=⟨m0,m1,m2⟩;refine hκ.out _ _ ?_ (fun aU=>?_)
          ·exact k15
          clear hκ κ;refine tu ?_;refine tv 10 (fun κ hκ=>?_);refine step_append_lies _ rfl (.tmp 124) (.tmp 128) 40 rfl gR 92 _ (.agg #[.int .i64 0, .bool false, .slice none 0 0, .slice none 0 0]) 4 64 Tryz.underlying40 bT.1 bT.2.1 bT.2.2.1 bT.2.2.2 rfl (by decide) (V' k) _ _ rfl hown ⟨nb,0,none⟩ 1 1 [.int .i64 (xi:Int),b4,s4,t4] rfl rfl (World.news_of_block h6) hone (by decide) (by simp only[maxLen];omega) (by omega) jR Wc.heap.size rfl ?_;intro g7 bR wz ew dR eO kR;have c7:=bw.grown dR;have mF:=xT.out.bJ c7 jS;have x7:=mF.cell hlk;have Kc:=mF.frozen k;have k16:=ai (c7.cell ni m0) (ai (c7.cell ni m1) (c7.cell ni m2));have sG:=ah (HG.out g7 bR wz ew dR eO);clear ew dR eO c7 mF;refine hκ.out _ _ ?_ (fun aU=>?_)
          ·exact k16
          clear hκ κ;refine tu ?_;refine tq 11 aU ?_;refine tv 12 (fun κ hκ=>?_);go_simp;have c18:bw (fun x=>x=gR) wz (wz.setCell ⟨gR,k,none⟩ (.slice (some ⟨g7,0,none⟩) (ll+1) bR)):=bw.set (P:=(·=gR)) (p:=⟨gR,k,none⟩) rfl _ _;have k18:=ai (c18.cell Oa aU.1) (ai (c18.cell Oa aU.2.1) (c18.cell Oa aU.2.2));clear c18;refine hκ.out _ _ ?_ (fun aU=>?_)
          ·exact k18
          clear hκ κ;refine tu ?_;refine td ?_ _;have oB:=sG.out;obtain⟨wf,hwf⟩:=xeq (wz.setCell ⟨gR,k,none⟩ (.slice (some ⟨g7,0,none⟩) (ll+1) bR));rw[hwf]at oB⊢;clear hwf sG HG xT HWc uY h6 hown jR jS ni Oa x0 xb hone y00 y01 y02 y03 y04 y05 n0 n1 n2 m0 m1 m2 x7 Kc k15 k16 k18 aU;obtain⟨V2,L2,hfin⟩:=oB;have HF:=ah hfin;clear hfin;go_wp2_with fail
          go_roundw
          case rel=>exact⟨k+1,V2,L2,by omega,by go_num,HF.out⟩
          case measure=>simp[intOf];omega
         refine nC 9 rfl (fun κ hκ=>?_) ?_
         focus
          go_simp;(try rw[HWc.out]);(try rw[uY.out]);have k15:(fun w'=>w'.cell? ⟨N9,0,none⟩=some b4/\w'.cell? ⟨N9,1,none⟩=some s4/\w'.cell? ⟨N9,2,none⟩=some t4) Wc:=⟨m0,m1,m2⟩;refine hκ.out _ _ ?_ (fun aU=>?_)
          ·exact k15
          clear hκ κ;refine tu ?_;refine tv 5 (fun κ hκ=>?_);go_simp;refine hκ.out _ _ ?_ (fun aU=>?_)
          ·exact aU
          clear hκ κ;refine tu ?_;refine tv 10 (fun κ hκ=>?_);refine step_append_lies _ rfl (.tmp 124) (.tmp 128) 40 rfl gR 92 _ (.agg #[.int .i64 0, .bool false, .slice none 0 0, .slice none 0 0]) 4 64 Tryz.underlying40 bT.1 bT.2.1 bT.2.2.1 bT.2.2.2 rfl (by decide) (V' k) _ _ rfl hown ⟨nb,0,none⟩ 1 1 [.int .i64 (xi:Int),b4,s4,t4] rfl rfl (World.news_of_block h6) hone (by decide) (by simp only[maxLen];omega) (by omega) jR Wc.heap.size rfl ?_;intro g7 bR wz ew dR eO kR;have c7:=bw.grown dR;have mF:=xT.out.bJ c7 jS;have x7:=mF.cell hlk;have Kc:=mF.frozen k;have k16:=ai (c7.cell ni m0) (ai (c7.cell ni m1) (c7.cell ni m2));have sG:=ah (HG.out g7 bR wz ew dR eO);clear ew dR eO c7 mF;refine hκ.out _ _ ?_ (fun aU=>?_)
          ·exact k16
          clear hκ κ;refine tu ?_;refine tq 11 aU ?_;refine tv 12 (fun κ hκ=>?_);go_simp;have c18:bw (fun x=>x=gR) wz (wz.setCell ⟨gR,k,none⟩ (.slice (some ⟨g7,0,none⟩) (ll+1) bR)):=bw.set (P:=(·=gR)) (p:=⟨gR,k,none⟩) rfl _ _;have k18:=ai (c18.cell Oa aU.1) (ai (c18.cell Oa aU.2.1) (c18.cell Oa aU.2.2));clear c18;refine hκ.out _ _ ?_ (fun aU=>?_)
          ·exact k18
          clear hκ κ;refine tu ?_;refine td ?_ _;have oB:=sG.out;obtain⟨wf,hwf⟩:=xeq (wz.setCell ⟨gR,k,none⟩ (.slice (some ⟨g7,0,none⟩) (ll+1) bR));rw[hwf]at oB⊢;clear hwf sG HG xT HWc uY h6 hown jR jS ni Oa x0 xb hone y00 y01 y02 y03 y04 y05 n0 n1 n2 m0 m1 m2 x7 Kc k15 k16 k18 aU;obtain⟨V2,L2,hfin⟩:=oB;have HF:=ah hfin;clear hfin;go_wp2_with fail
          go_roundw
          case rel=>exact⟨k+1,V2,L2,by omega,by go_num,HF.out⟩
          case measure=>simp[intOf];omega
         exact AllReadyH.nil
      ·obtain rfl:m=k:=by omega
       have HR:=ah (show gG wr gR gR m V' (fun _=>False) (tab l n x (bE y i (fun j=>(f j).r)) (i+1)) 136518844624 L'/\(∀a,a<i+1->∀r,r<n->Gd.S n (fun j=>Gd.vM (pO l) (x r) (x j)*bE y i (fun j=>(f j).r) a j)=Gd.dl r a)/\Below gR w6 wr from by
        obtain⟨G5,eT,Yy⟩:=ab4.out
        have e:tab l n x (bE y i (fun j=>(f j).r)) (i+1)=iZ Tv xi A0 m:=by
         show iZ (Sy l (om n x (bE y i _ i))) (x i) (tab l n x (bE y i _) i) l.length=_
         rw[aW,eT,HXI.out,HM.out,I5 (y':=y) (fun a ha=>bk _ _ (by omega)),Yy]
        rw[e];refine⟨hts.fF,fun a ha r hr=>?_,hb⟩
        by_cases ea:a=i
        ·subst ea;rw[aW];exact G5 r hr
        ·rw[bk _ _ ea];exact HY.out.2.1 a (by omega) r hr)
       have hin:=ao9;clear hts hb eC hpl qE cF;go_wp2_with fail
       go_roundw
       case rel=>exact⟨i+1,_,_,_,by omega,by go_num,HR.out⟩
       case measure=>simp[intOf];omega
    ·obtain rfl:i=n:=by omega
     obtain⟨hcan,htr⟩:=zJ HO.out.1 HO.out.2.1 hy;have HR:=ah (show ML wr (some ⟨gR,0,none⟩) m (tab l i x y i) 136518844624/\(∀k,k<m->Can N (tab l i x y i k))/\Gd.Transfer N (pO l) s (fun k j=>gv (tab l i x y i k) j)/\Below w.heap.size w wr from⟨vm.ml,fun k _=>hcan k,htr,cF⟩);clear vm hy hb eC hil hpl qE hx i6 vZ cF hcan htr;go_wp2_with fail
     go_ret2;exact⟨gR,_,rfl,HR.out⟩
theorem Xj{w:World}{b:Nat}{a0 a1 a2 a3 a4 a5 a6:Value}{T:TypeId}{v0 v1 v2 v3 v4 v5 v6:Value}{v:Array Value}(hv:v=#[v0,v1,v2,v3,v4,v5,v6])(h:w.heap[b]?=some (.cells #[a0,a1,a2,a3,a4,a5,a6] T (0,0))):
 ∃w2,w2=((((((w.setCell ⟨b,0,none⟩ v0).setCell ⟨b,1,none⟩ v1).setCell ⟨b,2,none⟩ v2).setCell ⟨b,3,none⟩ v3).setCell ⟨b,4,none⟩ v4).setCell ⟨b,5,none⟩ v5).setCell ⟨b,6,none⟩ v6/\w2.heap[b]?=some (.cells v T (0,0))/\bw (·=b) w w2:=by
 subst hv;have h8:=cG (i:=6) (v:=v6) (cG (i:=5) (v:=v5) (cG (i:=4) (v:=v4) (cG (i:=3) (v:=v3) (cG (i:=2) (v:=v2) (cG (i:=1) (v:=v1) (cG (i:=0) (v:=v0) h))))));simp only[List.setIfInBounds_toArray,List.set_cons_zero,List.set_cons_succ]at h8;refine⟨_,rfl,h8,?_⟩;have c:∀(W:World) (i:Nat) (u:Value),bw (·=b) W (W.setCell ⟨b,i,none⟩ u):=fun W i u=>bw.set (P:=(·=b)) (p:=⟨b,i,none⟩) rfl _ _;exact(c _ _ _).trans ((c _ _ _).trans ((c _ _ _).trans ((c _ _ _).trans ((c _ _ _).trans ((c _ _ _).trans (c _ _ _))))))
theorem zX{w:World}{b:Nat}{a0 a1 a2 a3 a4 a5 a6:Value}{T:TypeId}(h:w.heap[b]?=some (.cells #[a0,a1,a2,a3,a4,a5,a6] T (0,0))):
 (w.cell? ⟨b,0,none⟩=some a0/\w.cell? ⟨b,1,none⟩=some a1/\w.cell? ⟨b,2,none⟩=some a2/\w.cell? ⟨b,3,none⟩=some a3/\w.cell? ⟨b,4,none⟩=some a4/\w.cell? ⟨b,5,none⟩=some a5/\w.cell? ⟨b,6,none⟩=some a6)/\(w.frozen? ⟨b,0,none⟩=false/\w.frozen? ⟨b,1,none⟩=false/\w.frozen? ⟨b,2,none⟩=false/\w.frozen? ⟨b,3,none⟩=false/\w.frozen? ⟨b,4,none⟩=false/\w.frozen? ⟨b,5,none⟩=false/\w.frozen? ⟨b,6,none⟩=false):=by
 have e:=fun i=>aT w b i _ _ (0,0) h;have f:∀i,w.frozen? ⟨b,i,none⟩=false:=fun i=>by simp[World.frozen?,h]
 exact⟨⟨(e 0).trans rfl,(e 1).trans rfl,(e 2).trans rfl,(e 3).trans rfl,(e 4).trans rfl,(e 5).trans rfl,(e 6).trans rfl⟩,f _,f _,f _,f _,f _,f _,f _⟩
theorem amt{w:World}{D:Option Addr}{N m c:Nat}{l:List Bq}(hN:N<=6)(hm:m<=9)(hl:BL w D l 1)(hlm:l.length=m)(hv:NV N l):
 Calls Tryz.prog 7 #[.agg #[.int .i64 (N:Int), .slice D m c]] w (fun e w'=>∃(gs gT gS:Nat) (Tr Sh:Nat->List (Nat×Rat)),e= .returned (.tuple #[.agg #[.slice (some ⟨gs,0,none⟩) N N, .int .i64 (m:Int), .int .i64 (N:Int), .slice (some ⟨gT,0,none⟩) m m, .int .i64 (m:Int), .int .i64 (m:Int), .slice (some ⟨gS,0,none⟩) m m], .int .i64 0])/\ML w' (some ⟨gS,0,none⟩) m Sh 273037689252/\(∀k,k<m->Can m (Sh k)/\∀j,j<m->gv (Sh k) j=qC l (gv (Tr k)) k j)/\(∃s,Gd.J2 N (pO l) s/\Gd.Transfer N (pO l) s (fun k j=>gv (Tr k) j))/\Below w.heap.size w w'):=by
 obtain⟨W,hW,bC,h0,h1⟩:∃W,(w.alloc (.cells #[.int .i64 (N:Int), .slice D m c] 25)).alloc (.cells #[.slice none 0 0, .int .i64 0, .int .i64 0, .slice none 0 0, .int .i64 0, .int .i64 0, .slice none 0 0] 36)=W/\Below w.heap.size w W/\W.heap[w.heap.size]?=some (.cells #[.int .i64 (N:Int), .slice D m c] 25 (0,0))/\W.heap[w.heap.size+1]?=some (.cells #[.slice none 0 0, .int .i64 0, .int .i64 0, .slice none 0 0, .int .i64 0, .int .i64 0, .slice none 0 0] 36 (0,0)):=⟨_,rfl,((aq _ _).alloc (by simp) _).alloc (by simp) _,by
  have h1:=aS w (.cells #[.int .i64 (N:Int), .slice D m c] 25);have h2:=bI (w.alloc (.cells #[.int .i64 (N:Int), .slice D m c] 25)) (.cells #[.slice none 0 0, .int .i64 0, .int .i64 0, .slice none 0 0, .int .i64 0, .int .i64 0, .slice none 0 0] 36);exact(h2.block _ (au.1 h1).1).trans h1,by
  have h1:=aS (w.alloc (.cells #[.int .i64 (N:Int), .slice D m c] 25)) (.cells #[.slice none 0 0, .int .i64 0, .int .i64 0, .slice none 0 0, .int .i64 0, .int .i64 0, .slice none 0 0] 36);have e:(w.alloc (.cells #[.int .i64 (N:Int), .slice D m c] 25)).heap.size=w.heap.size+1:=by show(w.heap.push _).size=_;simp
  rw[e]at h1;exact h1⟩
 obtain⟨Z0,iC⟩:=xeq w.heap.size;rw[iC]at h0 h1;have Ag:Z0<W.heap.size:=(au.1 h0).1;have hZ1:Z0+1<W.heap.size:=(au.1 h1).1;have x0:W.cell? ⟨Z0,0,none⟩=some (.int .i64 (N:Int)):=aT W Z0 0 _ _ (0,0) h0;have x1:W.cell? ⟨Z0,1,none⟩=some (.slice D m c):=aT W Z0 1 _ _ (0,0) h0;have My:=su (c:=c) (M:=37) (by omega) hm (hl.below bC) hlm hv (aj 1) (by decide) (by decide);have HX:=ah (show∀w',Below W.heap.size W w'->w'.cell? ⟨Z0,0,none⟩=some (.int .i64 (N:Int))/\w'.cell? ⟨Z0,1,none⟩=some (.slice D m c)from fun w' hb=>⟨bn hb Ag x0,bn hb Ag x1⟩);have H1:=ah h1;have HL:=ah hl;have HM:=ah hlm;have HV:=ah hv;have HB:=ah bC;have HW:=ah hW;have EZ:=ah iC;have XZ:=ah (show w.heap.size<=W.heap.size from bC.size);clear hl hlm hv bC hW h0 h1 iC;go_enter Tryz.func7,Tryz.ntmps7
 go_upto_region 1 with fail
 rw[HW.out];(try rw[EZ.out]);go_wp2_with fail
 refine My.mono ?_;rintro e w1 ⟨g1,A1,rfl,NF,Ri,Yu⟩;clear My x0 x1;have b2:=bI w1 (.cells #[.int .i64 (N:Int), .int .i64 (N:Int), .slice (some ⟨g1,0,none⟩) N N] 34);have i2:=cK.jJ w1 34 (.int .i64 (N:Int)) (.int .i64 (N:Int)) (.slice (some ⟨g1,0,none⟩) N N);obtain⟨w2,hw2⟩:=xeq (w1.alloc (.cells #[.int .i64 (N:Int), .int .i64 (N:Int), .slice (some ⟨g1,0,none⟩) N N] 34));obtain⟨Nb,Sr⟩:=xeq w1.heap.size;rw[hw2]at b2 i2;rw[Sr]at i2;have hg2:=Yu.trans (b2.mono Yu.size);obtain⟨x0,x1⟩:=HX.out _ hg2;have hmk:=xY (m:Int) m rfl (by omega) w2;have how:=vh w2 w2.heap.size m (Value.agg #[.int .i64 0, .int .i64 0]) (aj _) (by omega);have b3:=bI w2 (.cells (madeCells (Value.agg #[.int .i64 0, .int .i64 0]).cells (m*2)) 63);obtain⟨w3,hw3⟩:=xeq (w2.alloc (.cells (madeCells (Value.agg #[.int .i64 0, .int .i64 0]).cells (m*2)) 63));rw[hw3]at hmk how b3;obtain⟨Z2,NI⟩:=xeq w2.heap.size;rw[NI]at hmk how;have zU:=hg2.trans (b3.mono hg2.size);obtain⟨x2,x3⟩:=HX.out _ zU;have CJ:=NF.below b2
 have hk2:∀w',Below Z2 w3 w'->ML w' (some ⟨g1,0,none⟩) N A1 37/\cK w' Nb (.int .i64 (N:Int)) (.int .i64 (N:Int)) (.slice (some ⟨g1,0,none⟩) N N):=fun w' hb=>by
  have h:Below w2.heap.size w2 w':=b3.trans (by rw[NI];exact hb);exact⟨CJ.below h,i2.keep h⟩
 have HK2:=ah hk2;have hZZ:Z0+1<Z2:=by rw[<-NI];exact ak hZ1 hg2.size
 have XU:Nb<Z2:=by rw[<-NI];exact i2.lt
 have HW2:=ah (ai hw2 Sr);have H3:=ah (ai how (ai zU (ai True.intro (ai True.intro (show Z2<=w3.heap.size from by rw[<-NI];exact b3.size)))));have HA1:=ah Ri;have wF:=ah (show W.heap.size<=Z2 from by rw[<-NI];exact hg2.size);clear NF Ri Yu b2 i2 hw2 Sr hg2 how b3 hw3 NI zU CJ hk2;go_upto_region 2 with fail
 rw[HW2.out.1];(try rw[HW2.out.2]);go_wp2_with fail
 clear hmk x0 x1 x2 x3
 go_loopw [6,29] (fun u t wr=>∃k:Nat,k<=m/\t= .int .i64 (k:Int)/\wr.ownsRow Z2 63 2 u k (dK (Mn (l.take k)))/\Below Z2 w3 wr) (fun _ t _=>m- (intOf t).toNat)
 case atStart=>exact⟨0,aF _,rfl,H3.out.1,aq _ _⟩
 case round=>
  obtain⟨k,hk,rfl,how,hb⟩:=hrel;have tG:Below W.heap.size W wr:=H3.out.2.1.trans (hb.mono wF.out);have cF:Below w.heap.size w wr:=HB.out.trans (tG.mono XZ.out);have hzs:Z2<=wr.heap.size:=by have:=hb.size;have:=H3.out.2.2.2.2;omega
  by_cases hlk:k<m
  ·obtain⟨q,hq⟩:∃q,l[k]?=some q:=⟨l[k]'(by rw[HM.out];exact hlk),aB _⟩;obtain⟨bb,bo,rfl,hbl,⟨e0,e1⟩,p1,p2,p3,y1,y2,y3,⟨e2,e3,e4⟩,⟨e5,e6,e7⟩,hr1,iW⟩:=(HL.out.below cF).nth hq;obtain⟨s0,s1,s2⟩:=hr1.st;obtain⟨s3,s4,s5⟩:=iW.st;obtain⟨vO,vP,-,-⟩:=HV.out q (aD hq);obtain⟨qf,lE⟩:=xeq q.f;obtain⟨qt,lF⟩:=xeq q.t;rw[lE]at e0 vO;rw[lF]at e1 vP;have jG:=hq;have u0:(0:Int)<=(k:Int):=by omega
   have u1:(k:Int)<m:=by omega
   have gm:=bI wr (.cells #[.int .i64 (qf:Int), .int .i64 (qt:Int),p1,p2,p3,y1,y2,y3] 47);have h5:=aS wr (.cells #[.int .i64 (qf:Int), .int .i64 (qt:Int),p1,p2,p3,y1,y2,y3] 47);obtain⟨wb,gh⟩:=xeq (wr.alloc (.cells #[.int .i64 (qf:Int), .int .i64 (qt:Int),p1,p2,p3,y1,y2,y3] 47));obtain⟨Ne,fG⟩:=xeq wr.heap.size;rw[gh]at gm h5;rw[fG]at h5;obtain⟨⟨z0,z1,z2,z3,z4,z5,z6,z7⟩,-⟩:=fQ h5;have lC:=ah gh;have ny:=ah fG;have hpt:=ve jG;rw[lE,lF]at hpt;have ba:=bI wb (.cells #[.int .i64 (qf:Int), .int .i64 (qt:Int)] 63);have h6:(wb.alloc (.cells #[.int .i64 (qf:Int), .int .i64 (qt:Int)] 63)).heap[wb.heap.size]?=some (.cells #[.int .i64 (qf:Int), .int .i64 (qt:Int)] 63 (0,0)):=aS wb _;obtain⟨wa,iP⟩:=xeq (wb.alloc (.cells #[.int .i64 (qf:Int), .int .i64 (qt:Int)] 63));rw[iP]at ba h6;have bba:=gm.trans (ba.mono gm.size);have jQ:=bL how (bw.of (P:=fun _=>False) bba) (fun _ _ h=>h);have hlo:Z2<=wa.heap.size:=by have:=bba.size;omega
   have Eh:=ah (hb.trans (bba.mono hzs));have HOL:=ah jQ.lt;have HPT:=ah hpt;clear hr1 iW hb cF hq jG lE lF gm h5 gh fG ba bba how hpt hzs tG vO vP;go_upto_region 8 with fail
   (try rw[lC.out]);(try rw[ny.out]);clear e0 e1 e2 e3 e4 e5 e6 e7 s0 s1 s2 s3 s4 s5
   go_wp2_with (first
    |(at_builtin;(try rw[iP]);refine Dh rfl (.tmp 33) (.tmp 39) rfl rfl jQ rfl h6 (by omega) hlo ?_;intro g7 bR w7 ew dR eO kR))
   have c7:=bw.grown dR;have fW:=Eh.out.trans (c7.below hlo (fun x hx h=>by have:=(HOL.out _ h.symm).1;omega));rw[<-HPT.out]at ew;have HZ:=ah (ai ew fW);clear ew dR eO kR c7 fW h6 jQ z0 z1 z2 z3 z4 z5 z6 z7 iP hlo;go_roundw
   case rel=>exact⟨k+1,by omega,by go_num,HZ.out⟩
   case measure=>simp[intOf];omega
  ·obtain rfl:m=k:=by omega
   rw[aI (by rw[HM.out];exact aj _)]at how;obtain⟨D2,c2,rfl,hpl⟩:=Mp how HM.out;obtain⟨x0,x1⟩:=HX.out _ tG;have hI:=wZ (n:=N) (c:=c2) (by omega) (by omega) hpl (HV.out.qQ HM.out);have rB:=ah (ai tG (ai cF hb));clear how hpl hb cF hzs tG;go_wp2_with fail
   refine hI.mono ?_;rintro ret w8 ⟨gs,rfl,hge,hrow,huf,g8⟩;clear hI x0 x1;obtain⟨tG,cF,hb⟩:=rB.out;have Fy:=tG.trans (g8.mono tG.size);have qL:=cF.trans (g8.mono cF.size);have af2:Below Z2 w3 w8:=hb.trans (g8.mono (ay H3.out.2.2.2.2 hb.size));obtain⟨af3,i8⟩:=HK2.out _ af2;obtain⟨x0,x1⟩:=HX.out _ Fy;obtain⟨s,es⟩:=xeq (uf (qQ l) m);have hs0:s 0=0:=by rw[<-es];exact Nat.le_zero.1 (Cf _ _ 0)
   have zI:Gd.J2 N (pO l) s:=by rw[<-es];exact Mw HM.out huf
   rw[es]at hrow;have htr:=Ch (c:=c) (N:=N) (D:=D) hN hm (HL.out.below qL) HM.out HV.out hs0 zI af3 HA1.out hrow;have y0:=i8.c0;have y1:=i8.c1;have y2:=i8.c2;have H8:=ah (ai Fy (ai qL zI));clear tG cF hb Fy qL af2 af3 i8 es hs0 zI hge hrow huf g8;go_wp2_with fail
   refine htr.mono ?_;rintro e w9 ⟨gT,Tr,rfl,ab8,vo,ab9,g9⟩;clear htr x0 x1 y0 y1 y2;obtain⟨Fy,qL,zI⟩:=H8.out;have CM:=Fy.trans (g9.mono Fy.size);have qM:=qL.trans (g9.mono qL.size);obtain⟨x0,x1⟩:=HX.out _ CM;have MK:=mD (m:Int) m rfl (by omega) w9;have b10:=bI w9 (.cells ((List.range m).map fun _=>Value.slice none 0 0).toArray 40);obtain⟨gS,egS⟩:=xeq w9.heap.size
   obtain⟨w10,wX,af4⟩:∃w10,w9.alloc (.cells ((List.range m).map fun _=>Value.slice none 0 0).toArray 40)=w10/\dm w10 gS 40 m (fun _=> .slice none 0 0):=⟨_,rfl,by
    have h:=dm.new w9 40 m (fun _=> .slice none 0 0);rw[egS]at h;exact h⟩
   rw[wX]at b10;rw[egS]at MK;have Tc:=CM.trans (b10.mono CM.size);obtain⟨x2,x3⟩:=HX.out _ Tc;have HR:=ah (ai af4 (ai b10 (ai egS (ai CM qM))));have HT:=ah (ai ab8 (ai vo (ai ab9 zI)));have Xh:=ah wX;clear Fy qL zI CM qM ab8 vo ab9 g9 b10 af4 egS wX Tc;go_upto_region 17 with fail
   rw[Xh.out];go_upto_region 18 with fail
   clear MK x0 x1 x2 x3
   go_loopw [71] (fun t wr=>∃(k:Nat) (V:Nat->Value) (Sh:Nat->List (Nat×Rat)),k<=m/\t= .int .i64 (k:Int)/\dm wr gS 40 m V/\(∀j,j<k->(∃Dj cj,V j= .slice Dj (Sh j).length cj/\((Sh j).length<=cj/\cj<=9223372036854775807)/\RW wr (fun x=>x=gS∨x=Z0+1) Dj (Sh j) 273037689252)/\Can m (Sh j)/\∀i,i<m->gv (Sh j) i=qC l (gv (Tr j)) j i)/\Below gS w9 wr) (fun t _=>m- (intOf t).toNat)
   case atStart=>exact⟨0,_,fun _=>[],aF _,rfl,HR.out.1,fun j hj=>absurd hj (Nat.not_lt_zero j),by rw[<-HR.out.2.2.1];exact HR.out.2.1⟩
   case round=>
    clear hk hlk;obtain⟨k,V,Sh,hk,rfl,hrow,hsh,hb⟩:=hrel;have kS:Below w9.heap.size w9 wr:=by rw[HR.out.2.2.1];exact hb
    have tG:=HR.out.2.2.2.1.trans (kS.mono HR.out.2.2.2.1.size);have cF:=HR.out.2.2.2.2.trans (kS.mono HR.out.2.2.2.2.size)
    by_cases hlk:k<m
    ·obtain⟨tb,tf,et,htl,htc⟩:=HT.out.1 (by omega);injection et with et
     injection et with e1 e2
     subst e1;subst e2;obtain⟨Dt,ct,QI,-,htE⟩:=htc k hlk;rw[Nat.zero_add]at QI;have hgS:gS=w9.heap.size:=HR.out.2.2.1.symm;have hTl:gT<w9.heap.size:=htl;have ht1:=bn kS hTl QI;have af5:=htE.below kS;have vo:=HT.out.2.1 k hlk
     have af6:(Tr k).length<=12:=by
      have:=mX (a:=0) (b:=N) vo.jF (fun p hp=>⟨aF _,vo.lt p hp⟩) (aF N);omega
     have VQ:=MD (w:=wr.drew) (c:=c) (lx:=k) (ct:=ct) hN hm ((HL.out.below cF).below (aq _ _).drew) HM.out HV.out (af5.below (aq _ _).drew) af6 vo.jF (by decide) (by decide);obtain⟨lt,N7⟩:=xeq ((Tr k).length);rw[N7]at ht1 VQ;obtain⟨x0,x1⟩:=HX.out _ tG;have x2:=hrow.cell hlk;have af7:¬Z0=gS:=by have:=HR.out.2.2.2.1.size;omega
     have gV:¬Z0+1=gS:=by have:=HR.out.2.2.2.1.size;omega
     have amu:¬gT=gS:=by omega
     have dH:=ah (show∀w',Below wr.heap.size wr w'->w'.cell? ⟨Z0,0,none⟩=some (.int .i64 (N:Int))/\w'.cell? ⟨Z0,1,none⟩=some (.slice D m c)/\w'.cell? ⟨gT,k,none⟩=some (.slice Dt lt ct)from fun w' hb=>⟨bn hb (aG wr _ x0) x0,bn hb (aG wr _ x1) x1,bn hb (aG wr _ ht1) ht1⟩);have pM:=ah (show∀w',Below wr.heap.size wr w'->dm w' gS 40 m V from fun w' hb=>hrow.bJ (P:=fun _=>False) (bw.of hb) (fun h=>h));have u0:(0:Int)<=(k:Int):=by omega
     have u1:(k:Int)<m:=by omega
     have acd:gS<=wr.heap.size:=aR hrow.lt;have amv:Z0+1<wr.heap.size:=ak hZ1 tG.size;have amw:gS<wr.heap.size:=hrow.lt;have HK:=ah (ai hrow (ai hsh hb));clear hrow hsh hb kS tG cF htc QI htE af5 vo af6 N7 hgS htl hTl;go_upto_region 20 with fail
     refine wp_region_held_drew (S:=(fun w'=>w'.cell? ⟨Z0,0,none⟩=some (.int .i64 (N:Int))/\w'.cell? ⟨Z0,1,none⟩=some (.slice D m c)/\w'.cell? ⟨gT,k,none⟩=some (.slice Dt lt ct))) (by kernel_rfl) (dH.out _ (aq _ _).drew) (fun aU=>?_);refine tq 0 aU ?_;refine tq 1 aU ?_;refine tq 2 aU ?_;refine tq 3 aU ?_;refine tq 4 aU ?_;refine tq 5 aU ?_;refine tq 6 aU ?_;refine tq 7 aU ?_;refine tv 8 (fun κ hκ=>?_);go_simp;go_at_call 26;refine VQ.mono ?_;rintro ret w8 ⟨v8,r8,rfl,dY,Td,af8,g8⟩;have gw:Below wr.heap.size wr w8:=(aq wr.heap.size wr).drew.trans g8;obtain⟨D8,c8,rfl,nD,mC⟩:=dY.sF;have k8:=dH.out _ gw;have G6:=pM.out _ gw;have x8:=G6.cell hlk;have f8:=G6.frozen k;have c10:bw (·=gS) w8 (w8.setCell ⟨gS,k,none⟩ (.slice D8 r8.length c8)):=bw.set (P:=(·=gS)) (p:=⟨gS,k,none⟩) rfl _ _
     have HF:=ah (show∃(V':Nat->Value) (MP:Nat->List (Nat×Rat)),dm (w8.setCell ⟨gS,k,none⟩ (.slice D8 r8.length c8)) gS 40 m V'/\(∀j,j<k+1->(∃Dj cj,V' j= .slice Dj (MP j).length cj/\((MP j).length<=cj/\cj<=9223372036854775807)/\RW (w8.setCell ⟨gS,k,none⟩ (.slice D8 r8.length c8)) (fun x=>x=gS∨x=Z0+1) Dj (MP j) 273037689252)/\Can m (MP j)/\∀i,i<m->gv (MP j) i=qC l (gv (Tr j)) j i)/\Below gS w9 (w8.setCell ⟨gS,k,none⟩ (.slice D8 r8.length c8))from by
      obtain⟨hrow,hsh,hb⟩:=HK.out;refine⟨bE V k (.slice D8 r8.length c8),bE Sh k r8,G6.set k _,fun j hj=>?_,(hb.trans (gw.mono acd)).trans (c10.below (ay acd gw.size) (fun x hx e=>by omega))⟩
      by_cases e:j=k
      ·subst e;rw[aW,aW];exact⟨⟨D8,c8,rfl,nD,(mC.rw (M:=fun x=>x=gS∨x=Z0+1) (fun x hx=>hx.elim (fun h=>by rw[h];exact amw) (fun h=>by rw[h];exact amv))).bJ c10 (fun x h=> .inl h)⟩,Td,af8⟩
      ·rw[bk _ _ e,bk _ _ e];obtain⟨⟨Dj,cj,e1,e2,e3⟩,e4⟩:=hsh j (by omega);exact⟨⟨Dj,cj,e1,e2,(e3.below gw).bJ c10 (fun x h=> .inl h)⟩,e4⟩)
     have NM:=ah c10;clear dY mC Td af8 g8 gw VQ G6 c10 nD;obtain⟨l8',el8⟩:=xeq r8.length;rw[el8]at HF NM
     try rw[el8]
     go_wp2_with fail
     refine hκ.out _ _ ?_ (fun aU=>?_)
     ·exact k8
     clear hκ κ;refine tu ?_;refine tq 9 aU ?_;refine tv 10 (fun κ hκ=>?_);go_simp;have k10:=ai (NM.out.cell af7 aU.1) (ai (NM.out.cell af7 aU.2.1) (NM.out.cell amu aU.2.2));refine hκ.out _ _ ?_ (fun aU=>?_)
     ·exact k10
     clear hκ κ;refine tu ?_;refine td ?_ _;clear aU k10 k8 x8 f8 x0 x1 x2 ht1 dH pM;obtain⟨wf,hwf⟩:=xeq (w8.setCell ⟨gS,k,none⟩ (.slice D8 l8' c8));rw[hwf]at HF⊢;clear hwf NM;obtain⟨V',MP,hfin⟩:=HF.out;have QN:=ah hfin;clear hfin HF;go_wp2_with fail
     go_roundw
     case rel=>exact⟨k+1,V',MP,by omega,by go_num,QN.out⟩
     case measure=>simp[intOf];omega
    ·obtain rfl:m=k:=by omega
     have hB:=(tG.block (Z0+1) hZ1).trans H1.out;obtain⟨⟨y0,y1,y2,y3,y4,y5,y6⟩,z0,z1,z2,z3,z4,z5,z6⟩:=zX hB;obtain⟨x0,x1⟩:=HX.out _ tG;obtain⟨wf,hs1,oN,Cn⟩:=Xj (v:=#[.slice (some ⟨gs,0,none⟩) N N, .int .i64 (m:Int), .int .i64 (N:Int), .slice (some ⟨gT,0,none⟩) m m, .int .i64 (m:Int), .int .i64 (m:Int), .slice (some ⟨gS,0,none⟩) m m]) rfl hB
     have hR:(∃(ga gb gd:Nat) (Tr' MP:Nat->List (Nat×Rat)),Ending.returned (.tuple #[.agg #[.slice (some ⟨gs,0,none⟩) N N, .int .i64 (m:Int), .int .i64 (N:Int), .slice (some ⟨gT,0,none⟩) m m, .int .i64 (m:Int), .int .i64 (m:Int), .slice (some ⟨gS,0,none⟩) m m], .int .i64 0])= .returned (.tuple #[.agg #[.slice (some ⟨ga,0,none⟩) N N, .int .i64 (m:Int), .int .i64 (N:Int), .slice (some ⟨gb,0,none⟩) m m, .int .i64 (m:Int), .int .i64 (m:Int), .slice (some ⟨gd,0,none⟩) m m], .int .i64 0])/\ML wf (some ⟨gd,0,none⟩) m MP 273037689252/\(∀k,k<m->Can m (MP k)/\∀j,j<m->gv (MP k) j=qC l (gv (Tr' k)) k j)/\(∃s,Gd.J2 N (pO l) s/\Gd.Transfer N (pO l) s (fun k j=>gv (Tr' k) j))/\Below w.heap.size w wf):=by
      have gV:¬gS=Z0+1:=by have:=HR.out.2.2.2.1.size;have:=HR.out.2.2.1;omega
      have hrf:=hrow.bJ Cn gV;refine⟨gs,gT,gS,Tr,Sh,rfl,fun h0=>⟨gS,0,rfl,hrf.lt,fun i hi=>?_⟩,fun j hj=>(hsh j hj).2,⟨s,HT.out.2.2.2,HT.out.2.2.1⟩,cF.trans (Cn.below cF.size (fun x hx e=>by have:=EZ.out;omega))⟩;obtain⟨⟨Dj,cj,e1,e2,e3⟩,-⟩:=hsh i hi;have h:=hrf.cell hi;rw[e1]at h;exact⟨Dj,cj,by rw[Nat.zero_add];exact h,e2,(e3.bJ Cn (fun x h=> .inr h)).el⟩
     rw[hs1]at hR;have HRR:=ah hR;clear hrow hsh hb kS tG cF hB hs1 oN Cn hR;go_wp2_with fail
     exact bodyPost_ret (v:= .tuple #[.agg #[.slice (some ⟨gs,0,none⟩) N N, .int .i64 (m:Int), .int .i64 (N:Int), .slice (some ⟨gT,0,none⟩) m m, .int .i64 (m:Int), .int .i64 (m:Int), .slice (some ⟨gS,0,none⟩) m m], .int .i64 0]) (by simp[results,Tryz.results7,go_sem,y0,y1,y2,y3,y4,y5,y6]) rfl HRR.out
theorem VR{v m:Int}(h:1<=m)(h2:m<=4611686018427387904):0<=IntKind.i64.wrap ((IntKind.u64.wrap v).tmod (IntKind.u64.wrap m))/\IntKind.i64.wrap ((IntKind.u64.wrap v).tmod (IntKind.u64.wrap m))<m:=by
 have e:∀x:Int,IntKind.u64.wrap x=x % 18446744073709551616:=fun x=>IntKind.wrap_u64 x;rw[e,e,Int.emod_eq_of_lt (a:=m) (by omega) (by omega),Int.tmod_eq_emod_of_nonneg (Int.emod_nonneg _ (by omega))];have h0:=Int.emod_nonneg (v % 18446744073709551616) (show m≠0 by omega);have h1:=Int.emod_lt_of_pos (v % 18446744073709551616) (show 0<m by omega);rw[IntWalk.i64_in _ (by omega)];exact⟨h0,h1⟩
theorem ace{w:World}{v m:Int}(h:1<=m)(h2:m<=4611686018427387904):
 Calls Tryz.prog 34 #[.int .i64 v, .int .i64 m] w (fun e w'=>∃r:Int,e= .returned (.int .i64 r)/\(0<=r/\r<m)/\w'=w):=by
 have hb:=VR (v:=v) h h2;have hne:¬IntKind.u64.wrap m=0:=by rw[show IntKind.u64.wrap m=m % 18446744073709551616 from IntKind.wrap_u64 m];omega
 have iw:(IntKind.u64.wrap m==0)=false:=by simp[hne]
 have HB:=ah hb;have HWM:=ah (show IntKind.u64.wrap m=m from by rw[show IntKind.u64.wrap m=m % 18446744073709551616 from IntKind.wrap_u64 m];omega);clear hb;go_enter Tryz.func34,Tryz.ntmps34
 go_wp2_with fail
 go_ret;refine⟨_,rfl,?_,rfl⟩;have h:=HB.out;rw[HWM.out,IntWalk.i64_left]at h;exact h
def TP(w:World)(p:Nat)(D:Option Addr)(n c:Nat)(F:Nat->Int):Prop:=
 (∃i:Nat,i<=n/\w.heap[p]?=some (.cells #[.slice D n c, .int .i64 (i:Int)] 80 (0,0)))/\(0<n->∃b off,D=some ⟨b,off,none⟩/\b<p/\∀k,k<n->w.cell? ⟨b,off+k,none⟩=some (.int .i64 (F k)))
theorem TP.below{w w':World}{p n c:Nat}{D:Option Addr}{F:Nat->Int}(h:TP w p D n c F)(hb:Below w.heap.size w w'):TP w' p D n c F:=by
 obtain⟨⟨i,hi,h1⟩,h2⟩:=h;have hp:=(au.1 h1).1;refine⟨⟨i,hi,(hb.block p hp).trans h1⟩,fun h0=>?_⟩;obtain⟨b,off,e,hlt,hc⟩:=h2 h0;exact⟨b,off,e,hlt,fun k hk=>(hb.cell (p:=⟨b,off+k,none⟩) (Nat.lt_trans hlt hp)).trans (hc k hk)⟩
theorem TP.bJ{w w':World}{P:Nat->Prop}{p n c:Nat}{D:Option Addr}{F:Nat->Int}(h:TP w p D n c F)(hc':bw P w w')(hP:∀k,P k->p<k):TP w' p D n c F:=by
 obtain⟨⟨i,hi,h1⟩,h2⟩:=h;have hp:=(au.1 h1).1;refine⟨⟨i,hi,(hc'.block p hp (fun h=>by have:=hP _ h;omega)).trans h1⟩,fun h0=>?_⟩;obtain⟨b,off,e,hlt,hc⟩:=h2 h0;exact⟨b,off,e,hlt,fun k hk=>hc'.cell (fun h=>by have:=hP _ h;omega) (hc k hk)⟩
theorem mZ{w:World}{p n c:Nat}{D:Option Addr}{F:Nat->Int}{m:Int}(h:TP w p D n c F)(hn:n<=140737488355328)(hm:1<=m)(hm2:m<=4611686018427387904):
 Calls Tryz.prog 13 #[.pointer (some ⟨p,0,none⟩), .int .i64 m] w (fun e w'=>∃r:Int,e= .returned (.int .i64 r)/\(0<=r/\r<m)/\TP w' p D n c F/\bw (·=p) w w'):=by
 have h0:=h;obtain⟨⟨i,hi,h1⟩,h2⟩:=h;have x0:w.cell? ⟨p,0,none⟩=some (.slice D n c):=aT w p 0 _ _ (0,0) h1;have x1:w.cell? ⟨p,1,none⟩=some (.int .i64 (i:Int)):=aT w p 1 _ _ (0,0) h1;have x2:w.frozen? ⟨p,1,none⟩=false:=by simp[World.frozen?,h1]
 go_enter Tryz.func13,Tryz.ntmps13
 by_cases hin:i<n
 ·obtain⟨b,off,rfl,hlt,hc⟩:=h2 (by omega);have u0:¬(n:Int)<=(i:Int):=by omega
  have hni:(i:Int)+1<=n:=by omega
  have u2:IntKind.i64.wrap (i:Int)=(i:Int):=IntWalk.i64_in _ (by omega);have u3:(0:Int)<=(i:Int):=by omega
  have u4:(i:Int)<n:=by omega
  have hrow:=cG (i:=1) (v:= .int .i64 ((i:Int)+1)) h1;simp only[List.setIfInBounds_toArray,List.set_cons_zero,List.set_cons_succ]at hrow;have hcs:bw (·=p) w (w.setCell ⟨p,1,none⟩ (.int .i64 ((i:Int)+1))):=bw.set (P:=(·=p)) (p:=⟨p,1,none⟩) rfl _ _;have hc2:∀k,k<n->(w.setCell ⟨p,1,none⟩ (.int .i64 ((i:Int)+1))).cell? ⟨b,off+k,none⟩=some (.int .i64 (F k)):=fun k hk=>hcs.cell (by omega) (hc k hk);obtain⟨w1,hw1⟩:=xeq ((w.setCell ⟨p,1,none⟩ (.int .i64 ((i:Int)+1))));rw[hw1]at hrow hcs hc2;have HW1:=ah hw1;have z0:w1.cell? ⟨p,0,none⟩=some (.slice (some ⟨b,off,none⟩) n c):=aT w1 p 0 _ _ (0,0) hrow;have z1:w1.cell? ⟨p,1,none⟩=some (.int .i64 ((i:Int)+1)):=aT w1 p 1 _ _ (0,0) hrow;have z2:=hc2 i hin;have hmod:=ace (w:=w1.drew.drew) (v:=F i) hm hm2;have HT:=ah (show TP w1.drew.drew p (some ⟨b,off,none⟩) n c F/\bw (·=p) w w1.drew.drew from⟨TP.below ⟨⟨i+1,by omega,hrow⟩,fun _=>⟨b,off,rfl,hlt,hc2⟩⟩ (aq _ _).drew.drew,hcs.drew.drew⟩);clear h0 h1 h2 hc hrow hcs hc2 hw1;go_upto_region 1 with fail
  refine wp_region_held_drew (S:=(fun w'=>w'.cell? ⟨p,0,none⟩=some (.slice (some ⟨b,off,none⟩) n c)/\w'.cell? ⟨p,1,none⟩=some (.int .i64 (i:Int)))) (by kernel_rfl) (⟨x0,x1⟩) (fun aU=>?_);refine tq 0 aU ?_;refine tq 1 aU ?_;refine tq 2 aU ?_;refine tq 3 aU ?_;refine tq 4 aU ?_;refine tq 5 aU ?_;refine tq 6 aU ?_;refine tq 7 aU ?_;refine tq 8 aU ?_;refine tq 9 aU ?_;refine td ?_ _;clear aU;go_upto_region 4 with fail
  rw[HW1.out];clear x0 x1 x2;refine wp_region_held_drew (S:=(fun w'=>w'.cell? ⟨p,0,none⟩=some (.slice (some ⟨b,off,none⟩) n c)/\w'.cell? ⟨p,1,none⟩=some (.int .i64 ((i:Int)+1))/\w'.cell? ⟨b,off+i,none⟩=some (.int .i64 (F i)))) (by kernel_rfl) (⟨z0,z1,z2⟩) (fun aU=>?_);refine tq 0 aU ?_;refine tq 1 aU ?_;refine tq 2 aU ?_;refine tq 3 aU ?_;refine tq 4 aU ?_;refine tq 5 aU ?_;refine tq 6 aU ?_;refine tq 7 aU ?_;refine tq 8 aU ?_;refine tq 9 aU ?_;refine tq 10 aU ?_;refine tq 11 aU ?_;refine tv 12 (fun κ hκ=>?_);go_simp;go_at_call 34;refine hmod.mono ?_;rintro ret w9 ⟨r9,rfl,hr9,rfl⟩;go_wp2_with fail
  refine hκ.out _ _ ?_ (fun aU=>?_)
  ·exact aU
  clear hκ κ;refine tu ?_;refine tq 13 aU ?_;refine td ?_ _;clear aU z0 z1 z2;go_wp2_with fail
  go_ret;exact⟨r9,rfl,hr9,HT.out⟩
 ·have HT:=ah (show TP w.drew p D n c F/\bw (·=p) w w.drew from⟨h0.below (aq _ _).drew,(bw.refl _ _).drew⟩);have u0:(n:Int)<=(i:Int):=by omega
  clear h0 h1 h2;go_upto_region 1 with fail
  refine wp_region_held_drew (S:=(fun w'=>w'.cell? ⟨p,0,none⟩=some (.slice D n c)/\w'.cell? ⟨p,1,none⟩=some (.int .i64 (i:Int)))) (by kernel_rfl) (⟨x0,x1⟩) (fun aU=>?_);refine tq 0 aU ?_;refine tq 1 aU ?_;refine tq 2 aU ?_;refine tq 3 aU ?_;refine tq 4 aU ?_;refine tq 5 aU ?_;refine tq 6 aU ?_;refine tq 7 aU ?_;refine tq 8 aU ?_;refine tq 9 aU ?_;refine td ?_ _;clear aU x0 x1;go_wp2_with fail
  go_ret;exact⟨0,rfl,⟨by omega,by omega⟩,HT.out⟩
theorem Ci{n d:Int}{q:Rat}(h1: -4294967296<n/\n<4294967296)(h2:1<=d/\d<4294967296)(e:mkRat n d.toNat=q):Sz q 1:=by
 subst e;have hB:Ba ^ 1=4294967296:=by decide
 exact⟨fw (aP (gN _ _) (by rw[hB];omega)),fw (aP (gO _ (by omega)) (by rw[hB];omega))⟩
theorem I8{n d:Int}{q:Rat}(h1:0<n)(h2:1<=d)(e:mkRat n d.toNat=q):0<q:=by
 subst e;exact(mk_pos (by omega)).2 h1
theorem EW{w:World}{p n c:Nat}{D:Option Addr}{F:Nat->Int}(h:TP w p D n c F)(hn:n<=140737488355328):
 Calls Tryz.prog 14 #[.pointer (some ⟨p,0,none⟩)] w (fun e w'=>∃b s t r,e= .returned (.agg #[b,s,t])/\0<r/\RO w' (fun k=>k<w.heap.size) b s t r 1/\TP w' p D n c F/\bw (·=p) w w'):=by
 obtain⟨W,hW,bC,i0⟩:∃W,w.alloc (.cells #[.bool false, .slice none 0 0, .slice none 0 0] 45)=W/\Below w.heap.size w W/\cK W w.heap.size (.bool false) (.slice none 0 0) (.slice none 0 0):=⟨_,rfl,bI _ _,cK.new _ _ _ _⟩;have hpl:p<w.heap.size:=(au.1 h.1.choose_spec.2).1;have hx1:=mZ (m:=9) (h.below bC) hn (by decide) (by decide);obtain⟨Z,eZ⟩:=xeq w.heap.size;rw[eZ]at i0 hpl;have HB:=ah bC;have HW:=ah hW;have EZ:=ah eZ;clear h hW bC eZ;go_enter Tryz.func14,Tryz.ntmps14
 go_wp2_with fail
 rw[HW.out];(try rw[EZ.out]);refine hx1.mono ?_;rintro e w1 ⟨r1,rfl,⟨a1,a2⟩,hp1,c1⟩;have i1:=i0.bJ c1 (fun h=>by omega);have hx2:=mZ (m:=4) hp1 hn (by decide) (by decide);have H1:=ah (ai i1 c1);have hZW:Z<W.heap.size:=i0.lt;clear hx1 hp1 c1 i0 i1;go_wp2_with fail
 refine hx2.mono ?_;rintro e w2 ⟨r2,rfl,⟨b1,b2⟩,hp2,c2⟩;obtain⟨i1,c1⟩:=H1.out;have i2:=i1.bJ c2 (fun h=>by omega);obtain⟨q,eq⟩:=xeq (mkRat (1+r1) (1+r2).toNat);have F3:=Ly (w:=w2) (n:=1+r1) (d:=1+r2) (by omega) (by omega) (by omega) (by omega) eq;have hsz:Sz q 1:=Ci (by omega) (by omega) eq;have hq:0<q:=I8 (by omega) (by omega) eq;have c12:=c1.trans c2;have H2:=ah (ai i2 (ai hp2 (ai c12 (ai hsz hq))));clear hx2 i1 c1 i2 hp2 c2 c12 hsz hq eq;go_wp2_with fail
 refine F3.mono ?_;rintro ret w3 ⟨b3,s3,t3,rfl,o3,g3⟩;clear F3;obtain⟨i2,hp2,c12,hsz,hq⟩:=H2.out;have i3:=i2.keep g3;obtain⟨n0,n1,n2,n3,n4,n5⟩:=id i3;obtain⟨Ns,Nt,Nu⟩:=o3.st;have hcs:=bw.jc Z 0 w3 b3 s3 t3;have hZ2:Z<w2.heap.size:=i2.lt;have hro:RO w3 (fun k=>k<Z∨k=Z) b3 s3 t3 q 1:=o3.ro hsz (fun k hk=>by omega);have i4:=i3.put b3 s3 t3;obtain⟨w4,iG⟩:=xeq (((w3.setCell ⟨Z,0,none⟩ b3).setCell ⟨Z,1,none⟩ s3).setCell ⟨Z,2,none⟩ t3);have lX:bw (·=Z) w3 w4:=by rw[<-iG];exact hcs
 rw[iG]at i4;have oT:=(hro.bJ lX (fun k hk=> .inr hk)).wide (M':=fun k=>k<Z) (fun k hk=> .inl (.inl hk));have Te:=(hp2.below g3).bJ lX (fun k hk=>by omega);have hall:bw (fun k=>k=p∨Z<=k) w w4:=((bw.of HB.out).trans (c12.mono (fun k _ hk=> .inl hk))).trans ((bw.of g3).trans (lX.mono (fun k _ hk=> .inr (by omega))));have hfin:bw (·=p) w w4:=hall.mono (fun k hk h=>by have:=EZ.out;omega);have HR:=ah (show 0<q/\RO w4 (fun k=>k<Z) b3 s3 t3 q 1/\TP w4 p D n c F/\bw (·=p) w w4 from⟨hq,oT,Te,hfin⟩);have pU:=ah iG;have HC:=ah (ai i4.c0 (ai i4.c1 i4.c2));clear i2 hp2 c12 hsz hq o3 g3 i3 hcs hro i4 iG lX oT Te hall hfin;go_wp2_with fail
 rw[pU.out];exact bodyPost_ret (v:= .agg #[b3,s3,t3]) (by simp[results,Tryz.results14,go_sem,HC.out]) rfl ⟨b3,s3,t3,q,rfl,by rw[EZ.out];exact HR.out⟩
theorem acf{w:World}{p n c:Nat}{D:Option Addr}{F:Nat->Int}(h:TP w p D n c F)(hn:n<=140737488355328):
 Calls Tryz.prog 15 #[.pointer (some ⟨p,0,none⟩)] w (fun e w'=>∃b s t r,e= .returned (.agg #[b,s,t])/\True/\RO w' (fun k=>k<w.heap.size) b s t r 1/\TP w' p D n c F/\bw (·=p) w w'):=by
 obtain⟨W,hW,bC,i0⟩:∃W,w.alloc (.cells #[.bool false, .slice none 0 0, .slice none 0 0] 45)=W/\Below w.heap.size w W/\cK W w.heap.size (.bool false) (.slice none 0 0) (.slice none 0 0):=⟨_,rfl,bI _ _,cK.new _ _ _ _⟩;have hpl:p<w.heap.size:=(au.1 h.1.choose_spec.2).1;have hx1:=mZ (m:=13) (h.below bC) hn (by decide) (by decide);obtain⟨Z,eZ⟩:=xeq w.heap.size;rw[eZ]at i0 hpl;have HB:=ah bC;have HW:=ah hW;have EZ:=ah eZ;clear h hW bC eZ;go_enter Tryz.func15,Tryz.ntmps15
 go_wp2_with fail
 rw[HW.out];(try rw[EZ.out]);refine hx1.mono ?_;rintro e w1 ⟨r1,rfl,⟨a1,a2⟩,hp1,c1⟩;have i1:=i0.bJ c1 (fun h=>by omega);have hx2:=mZ (m:=4) hp1 hn (by decide) (by decide);have H1:=ah (ai i1 c1);have hZW:Z<W.heap.size:=i0.lt;clear hx1 hp1 c1 i0 i1;go_wp2_with fail
 refine hx2.mono ?_;rintro e w2 ⟨r2,rfl,⟨b1,b2⟩,hp2,c2⟩;obtain⟨i1,c1⟩:=H1.out;have i2:=i1.bJ c2 (fun h=>by omega);obtain⟨q,eq⟩:=xeq (mkRat (r1-6) (1+r2).toNat);have F3:=Ly (w:=w2) (n:=r1-6) (d:=1+r2) (by omega) (by omega) (by omega) (by omega) eq;have hsz:Sz q 1:=Ci (by omega) (by omega) eq;have hq:True:=True.intro;have c12:=c1.trans c2;have H2:=ah (ai i2 (ai hp2 (ai c12 (ai hsz hq))));clear hx2 i1 c1 i2 hp2 c2 c12 hsz hq eq;go_wp2_with fail
 refine F3.mono ?_;rintro ret w3 ⟨b3,s3,t3,rfl,o3,g3⟩;clear F3;obtain⟨i2,hp2,c12,hsz,hq⟩:=H2.out;have i3:=i2.keep g3;obtain⟨n0,n1,n2,n3,n4,n5⟩:=id i3;obtain⟨Ns,Nt,Nu⟩:=o3.st;have hcs:=bw.jc Z 0 w3 b3 s3 t3;have hZ2:Z<w2.heap.size:=i2.lt;have hro:RO w3 (fun k=>k<Z∨k=Z) b3 s3 t3 q 1:=o3.ro hsz (fun k hk=>by omega);have i4:=i3.put b3 s3 t3;obtain⟨w4,iG⟩:=xeq (((w3.setCell ⟨Z,0,none⟩ b3).setCell ⟨Z,1,none⟩ s3).setCell ⟨Z,2,none⟩ t3);have lX:bw (·=Z) w3 w4:=by rw[<-iG];exact hcs
 rw[iG]at i4;have oT:=(hro.bJ lX (fun k hk=> .inr hk)).wide (M':=fun k=>k<Z) (fun k hk=> .inl (.inl hk));have Te:=(hp2.below g3).bJ lX (fun k hk=>by omega);have hall:bw (fun k=>k=p∨Z<=k) w w4:=((bw.of HB.out).trans (c12.mono (fun k _ hk=> .inl hk))).trans ((bw.of g3).trans (lX.mono (fun k _ hk=> .inr (by omega))));have hfin:bw (·=p) w w4:=hall.mono (fun k hk h=>by have:=EZ.out;omega);have HR:=ah (show True/\RO w4 (fun k=>k<Z) b3 s3 t3 q 1/\TP w4 p D n c F/\bw (·=p) w w4 from⟨hq,oT,Te,hfin⟩);have pU:=ah iG;have HC:=ah (ai i4.c0 (ai i4.c1 i4.c2));clear i2 hp2 c12 hsz hq o3 g3 i3 hcs hro i4 iG lX oT Te hall hfin;go_wp2_with fail
 rw[pU.out];exact bodyPost_ret (v:= .agg #[b3,s3,t3]) (by simp[results,Tryz.results15,go_sem,HC.out]) rfl ⟨b3,s3,t3,q,rfl,by rw[EZ.out];exact HR.out⟩
def b8(q:Bq)(x1 x2 x3 y1 y2 y3:Value):List Value:=[.int .i64 (q.f:Int), .int .i64 (q.t:Int),x1,x2,x3,y1,y2,y3]
def I9(w:World)(P:Nat->Prop)(l:List Bq)(xs:List Value)(K:Nat):Prop:=
 ∀(i:Nat) (q:Bq),l[i]?=some q->∃x1 x2 x3 y1 y2 y3,(∀j,j<8->xs[i*8+j]?=(b8 q x1 x2 x3 y1 y2 y3)[j]?)/\RO w P x1 x2 x3 q.s K/\RO w P y1 y2 y3 q.h K
def BO(w:World)(lo:Nat)(v:Value)(l:List Bq)(K:Nat):Prop:=
 ∃xs,w.ownsRow lo 47 8 v l.length xs/\I9 w (fun k=>k<lo∨v.ownBlock=some k) l xs K
section
variable {w w':World}{P Q M:Nat->Prop}{l:List Bq}{xs:List Value}{K lo:Nat}{v:Value}
theorem I9.step{M':Nat->Prop}(h:I9 w M l xs K)(hm:∀k,M' k->M k∨w.heap.size<=k)(hc:bw P w w')(hp:∀k,P k->M k):I9 w' M' l xs K:=fun i q hq=>by
 obtain⟨x1,x2,x3,y1,y2,y3,h1,h2,h3⟩:=h i q hq;exact⟨x1,x2,x3,y1,y2,y3,h1,h2.step hm hc hp,h3.step hm hc hp⟩
theorem I9.below(h:I9 w M l xs K)(hb:Below w.heap.size w w'):I9 w' M l xs K:=h.step (P:=fun _=>False) (fun _ h=> .inl h) (bw.of hb) (fun _ h=>h.elim)
theorem BO.below(h:BO w lo v l K)(hb:Below w.heap.size w w'):BO w' lo v l K:=by
 obtain⟨xs,h1,h2⟩:=h;exact⟨xs,bL h1 (bw.of (P:=fun _=>False) hb) (fun _ _ h=>h),h2.below hb⟩
theorem BO.bJ(h:BO w lo v l K)(hc:bw P w w')(hp:∀k,P k->k<lo):BO w' lo v l K:=by
 obtain⟨xs,h1,h2⟩:=h;exact⟨xs,bL h1 hc (fun k hk hpk=>by have:=(h1.lt k hk).1;have:=hp k hpk;omega),h2.step (fun _ h=> .inl h) hc (fun k hk=> .inl (hp k hk))⟩
theorem BO.nil(w:World)(lo K:Nat):BO w lo (.slice none 0 0) [] K:=⟨[],World.ownsRow_nil _ _ _ _,fun i p hp=>by simp at hp⟩
theorem BO.bl(h:BO w lo v l K):∃D c,v= .slice D l.length c/\BL w D l K:=by
 obtain⟨xs,h,hx⟩:=h;have hcl:=fun g=> @World.ownsRow.cells _ _ _ _ _ _ _ h g;obtain⟨h1,⟨rfl,h0⟩|⟨g,cap,cur,rfl,hb,hh,hc,hm,_⟩⟩:=h
 ·exact⟨none,0,by rw[h0],fun h=>by omega⟩
 ·have hlt:=(au.1 hh).1;refine⟨some ⟨g,0,none⟩,cap,rfl,fun _=>⟨g,0,rfl,hlt,fun i q hq=>?_⟩⟩;obtain⟨x1,x2,x3,y1,y2,y3,k1,k2,k3⟩:=hx i q hq;have a:=fun j (hj:j<8) v (e:(b8 q x1 x2 x3 y1 y2 y3)[j]?=some v)=>hcl g rfl (i*8+j) v ((k1 j hj).trans e);simp only[ow]at a;rw[Nat.zero_add];exact⟨⟨a 0 (by decide) _ rfl,a 1 (by decide) _ rfl⟩,x1,x2,x3,y1,y2,y3,⟨a 2 (by decide) _ rfl,a 3 (by decide) _ rfl,a 4 (by decide) _ rfl⟩,⟨a 5 (by decide) _ rfl,a 6 (by decide) _ rfl,a 7 (by decide) _ rfl⟩,k2.1,k3.1⟩
theorem BO.blk(h:BO w lo v l K):∀k,v.ownBlock=some k->lo<=k/\k<w.heap.size:=fun k hk=>by
 obtain⟨xs,h1,_⟩:=h;exact h1.lt k hk
theorem I9.snoc{q:Bq}{x1 x2 x3 y1 y2 y3:Value}(h:I9 w P l xs K)(hx:xs.length=l.length*8)(h1:RO w P x1 x2 x3 q.s K)(h2:RO w P y1 y2 y3 q.h K):I9 w P (l++ [q]) (xs++b8 q x1 x2 x3 y1 y2 y3) K:=fun k p hp=>by
 have hk:=(aC.1 hp).1;simp at hk
 by_cases e:k<l.length
 ·rw[aL e]at hp;obtain⟨a1,a2,a3,a4,a5,a6,h3,h4,h5⟩:=h k p hp;exact⟨a1,a2,a3,a4,a5,a6,fun j hj=>by rw[aL (by omega)];exact h3 j hj,h4,h5⟩
 ·obtain rfl:k=l.length:=by omega
  rw[aK (aj _)]at hp;simp at hp;subst hp;exact⟨x1,x2,x3,y1,y2,y3,fun j hj=>by rw[aK (by omega),hx,Nat.add_sub_cancel_left],h1,h2⟩
theorem BO.push{g cap:Nat}{q:Bq}{x1 x2 x3 y1 y2 y3:Value}(h:I9 w (fun k=>k<lo∨v.ownBlock=some k) l xs K)(hx:xs.length=l.length*8)(h1:RO w (fun k=>k<lo∨v.ownBlock=some k) x1 x2 x3 q.s K)(h2:RO w (fun k=>k<lo∨v.ownBlock=some k) y1 y2 y3 q.h K)
 (ho:w'.ownsRow lo 47 8 (.slice (some ⟨g,0,none⟩) (l.length+1) cap) (l.length+1) (xs++b8 q x1 x2 x3 y1 y2 y3)) (hg:w.grownBy w' v.ownBlock) (iX:v.ownBlock=some g∨g=w.heap.size):BO w' lo (.slice (some ⟨g,0,none⟩) (l.length+1) cap) (l++ [q]) K:=by
 refine⟨_,by rw[List.length_append];exact ho,(h.snoc hx h1 h2).step (fun k hk=>?_) (bw.grown hg) (fun k hk=> .inr hk.symm)⟩;rcases hk with hk|hk
 ·exact .inl (.inl hk)
 ·injection hk with hk
  subst hk;rcases iX with e|e
  ·exact .inl (.inr e)
  ·exact .inr (Nat.le_of_eq e.symm)
theorem tI:Tryz.prog.info? 47=some (((Tryz.prog.info? 47).getD default))/\(((Tryz.prog.info? 47).getD default)).zero=some (.agg #[.int .i64 0, .int .i64 0, .bool false, .slice none 0 0, .slice none 0 0, .bool false, .slice none 0 0, .slice none 0 0])/\(((Tryz.prog.info? 47).getD default)).size=8/\(((Tryz.prog.info? 47).getD default)).bytes=128:=by
 refine⟨?_,?_,?_,?_⟩<;>kernel_rfl
theorem SC{w:World}{ops:Array Oper}{rest:List Oper}{o:Oper}{a:Act}{Q:Exit->Act->World->Prop}(hgd:o.guard=none)(s x:Operand)(ho:o.op= .call {callee:= .builtin .append,args:=#[s,x],argTypes:=#[23,23]}){lo n:Nat}{v:Value}{xs:List Value}(hs:a.eval s=v)(hown:w.ownsRow lo 47 8 v n xs){B:Nat}{q:Bq}{x1 x2 x3 y1 y2 y3:Value}(hx:a.eval x= .slice (some ⟨B,0,none⟩) 1 1)(hb:w.heap[B]?=some (.cells #[.int .i64 (q.f:Int), .int .i64 (q.t:Int),x1,x2,x3,y1,y2,y3] 47 (0,0)))(h1:∀u∈b8 q x1 x2 x3 y1 y2 y3,u.oneCell'=true)(hn:n<=1048576)(hlo:lo<=w.heap.size)
 (h:∀g cap w',w'.ownsRow lo 47 8 (.slice (some ⟨g,0,none⟩) (n+1) cap) (n+1) (xs++b8 q x1 x2 x3 y1 y2 y3)->w.grownBy w' v.ownBlock->(v.ownBlock=some g∨g=w.heap.size)->g<w'.heap.size->wpList Tryz.prog ops Q rest (a.put o.dst (.slice (some ⟨g,0,none⟩) (n+1) cap)) w'):wpList Tryz.prog ops Q (o::rest) a w:=
 wpList_append_lies w hgd s x 23 ho lo 47 _ (.agg #[.int .i64 0, .int .i64 0, .bool false, .slice none 0 0, .slice none 0 0, .bool false, .slice none 0 0, .slice none 0 0]) 8 128 Tryz.underlying23 tI.1 tI.2.1 tI.2.2.1 tI.2.2.2 rfl (by decide) v n xs hs hown ⟨B,0,none⟩ 1 1 (b8 q x1 x2 x3 y1 y2 y3) hx rfl (World.news_of_block hb) h1 (by decide) (by simp only[maxLen];omega) (by omega) hlo w.heap.size rfl h
end
theorem MQ{w w':World}{q:Bq}{x1 x2 x3 y1 y2 y3:Value}{r s:Rat}{K L:Nat}(h1:bG w x1 x2 x3 r K)(h2:bG w' y1 y2 y3 s L):∀u∈b8 q x1 x2 x3 y1 y2 y3,u.oneCell'=true:=fun u hu=>by
 rcases List.mem_append.1 (show u∈[Value.int .i64 (q.f:Int), .int .i64 (q.t:Int)]++ ([x1,x2,x3]++ [y1,y2,y3])from hu)with h|h
 ·simp at h;rcases h with rfl|rfl<;>simp[Value.oneCell']
 ·rcases List.mem_append.1 h with h|h
  ·exact h1.rN u h
  ·exact h2.rN u h
def CL(w:World)(D:Option Addr)(n:Nat)(F:Nat->Int):Prop:=0<n->∃b off,D=some ⟨b,off,none⟩/\b<w.heap.size/\∀k,k<n->w.cell? ⟨b,off+k,none⟩=some (.int .i64 (F k))
theorem acg{w:World}{D:Option Addr}{n c:Nat}{F:Nat->Int}(h:CL w D n F):
 Calls Tryz.prog 12 #[.slice D n c] w (fun e w'=>e= .returned (.pointer (some ⟨w.heap.size,0,none⟩))/\TP w' w.heap.size D n c F/\Below w.heap.size w w'):=by
 obtain⟨W,hW,bC,h0⟩:∃W,w.alloc (.cells #[.slice D n c, .int .i64 0] 80)=W/\Below w.heap.size w W/\W.heap[w.heap.size]?=some (.cells #[.slice D n c, .int .i64 0] 80 (0,0)):=⟨_,rfl,bI _ _,aS w _⟩
 have HR:=ah (show TP W w.heap.size D n c F/\Below w.heap.size w W from⟨⟨⟨0,aF _,h0⟩,fun hn=>by
  obtain⟨b,off,e,hlt,hc⟩:=h hn;exact⟨b,off,e,hlt,fun k hk=>(bC.cell (p:=⟨b,off+k,none⟩) hlt).trans (hc k hk)⟩⟩,bC⟩)
 have HW:=ah hW;clear h bC h0 hW;go_enter Tryz.func12,Tryz.ntmps12
 go_wp2_with fail
 rw[HW.out];go_ret;exact⟨rfl,HR.out⟩
end Go.Proofs.YtkmpoleajjgfaaaGreat
