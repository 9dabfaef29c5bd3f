/- Parts of the proof, in order. -/
import Derived.Test.YtkmpoleajjgfaaaGreatQ20
namespace Go.Proofs.YtkmpoleajjgfaaaGreat
open Go.RowKit Gm Go.Sort Go.Shelf
set_option maxRecDepth 100000
set_option maxHeartbeats 16000000
theorem bw.acc{p:Nat}{P:Nat->Prop}{w w1 w2:World}(h:bw (·=p) w w1)(h2:bw P w1 w2)(hP:∀k,P k->k=p∨w.heap.size<=k):bw (·=p) w w2:=
 ((h.mono (Q:=fun k=>k=p∨w.heap.size<=k) (fun k _ hk=> .inl hk)).trans (h2.mono (fun k _ hk=>hP k hk))).mono (fun k hk h=>h.elim id (fun h=>by omega))
structure NS(w0 w:World)(p Nv lo N:Nat)(D:Option Addr)(n c:Nat)(F:Nat->Int)(v:Value)(l:List Bq):Prop where
 tp:TP w p D n c F
 nv:w.heap[Nv]?=some (.cells #[.int .i64 (N:Int),v] 25 (0,0))
 bo:BO w lo v l 1
 mH:Below p w0 w
 sz:lo<=w.heap.size
theorem NS.step{w0 w w':World}{p Nv lo N n c:Nat}{D:Option Addr}{F:Nat->Int}{v:Value}{l:List Bq}(h:NS w0 w p Nv lo N D n c F v l)(hc:bw (·=p) w w')(ht:TP w' p D n c F)(h1:p<Nv)(h2:Nv<lo):NS w0 w' p Nv lo N D n c F v l where
 tp:=ht
 nv:=(hc.block Nv (au.1 h.nv).1 (by omega)).trans h.nv
 bo:=h.bo.bJ hc (fun k hk=>by omega)
 mH:=h.mH.trans (hc.below (aR (au.1 h.tp.1.choose_spec.2).1) (fun k hk e=>by omega))
 sz:=ay h.sz hc.size
theorem VS{N f:Nat}{r:Int}(hN:1<N)(hf:f<N)(h0:0<=r)(h1:r< (N:Int) -1):∃t:Nat,((f:Int)+1+r).tmod (N:Int)=(t:Int)/\t<N/\f≠t:=by
 rw[Int.tmod_eq_emod_of_nonneg (by omega)];refine⟨(((f:Int)+1+r) % (N:Int)).toNat,?_,?_,?_⟩
 ·have:=Int.emod_nonneg ((f:Int)+1+r) (show(N:Int)≠0 by omega);omega
 ·have:=Int.emod_lt_of_pos ((f:Int)+1+r) (show(0:Int)<N by omega);omega
 ·by_cases h:(f:Int)+1+r<N
  ·rw[Int.emod_eq_of_lt (by omega) h];omega
  ·have e:((f:Int)+1+r) % (N:Int)=(f:Int)+1+r-N:=by
    rw[<-Int.sub_emod_right,Int.emod_eq_of_lt (by omega) (by omega)]
   rw[e];omega
theorem Ja{w:World}{D:Option Addr}{n c:Nat}{F:Nat->Int}(hcl:CL w D n F)(hn:n<=140737488355328):
 Calls Tryz.prog 4 #[.slice D n c] w (fun e w'=>∃(N:Nat) (Dn:Option Addr) (cn:Nat) (l:List Bq),e= .returned (.agg #[.int .i64 (N:Int), .slice Dn l.length cn])/\(1<=N/\N<=6)/\l.length<=9/\BL w' Dn l 1/\NV N l/\Below w.heap.size w w'):=by
 obtain⟨W,hW,bC,h0⟩:∃W,w.alloc (.cells #[.int .i64 0, .slice none 0 0] 25)=W/\Below w.heap.size w W/\W.heap[w.heap.size]?=some (.cells #[.int .i64 0, .slice none 0 0] 25 (0,0)):=⟨_,rfl,bI _ _,aS w _⟩
 have ach:CL W D n F:=fun hn=>by
  obtain⟨b,off,e,hlt,hc⟩:=hcl hn;exact⟨b,off,e,ak hlt bC.size,fun k hk=>(bC.cell (p:=⟨b,off+k,none⟩) hlt).trans (hc k hk)⟩
 have hnew:=acg (c:=c) ach;obtain⟨Z0,iC⟩:=xeq w.heap.size;obtain⟨p,ep⟩:=xeq W.heap.size;rw[iC]at h0;have hZp:Z0<p:=by rw[<-ep];exact(au.1 h0).1
 rw[ep]at hnew;have HB:=ah (ai bC (ai h0 ep));have HW:=ah hW;have EZ:=ah iC;clear hcl ach hW bC h0 iC ep;go_enter Tryz.func4,Tryz.ntmps4
 go_wp2_with fail
 rw[HW.out];(try rw[EZ.out]);refine hnew.mono ?_;rintro e w1 ⟨rfl,hp1,g1⟩;clear hnew;have hx:=mZ (m:=6) hp1 hn (by decide) (by decide);have ZY:p<w1.heap.size:=(au.1 hp1.1.choose_spec.2).1;have H1:=ah g1;clear hp1 g1;go_wp2_with fail
 refine hx.mono ?_;rintro e w2 ⟨r2,rfl,⟨a2,b2⟩,hp2,c2⟩;clear hx;obtain⟨N,eN⟩:∃N:Nat,1+r2=(N:Int):=⟨(1+r2).toNat,by omega⟩;obtain⟨Nv,eNv⟩:=xeq w2.heap.size;obtain⟨w3,hw3,b3,Ke⟩:∃w3,w2.alloc (.cells #[.int .i64 (1+r2), .slice none 0 0] 25)=w3/\Below w2.heap.size w2 w3/\w3.heap[Nv]?=some (.cells #[.int .i64 (N:Int), .slice none 0 0] 25 (0,0)):=⟨_,rfl,bI _ _,by rw[<-eNv,<-eN];exact aS w2 _⟩;have oy:1<=N/\N<=6:=by omega
 have hp3:=hp2.below b3;have hpN:p<Nv:=by rw[<-eNv];exact(au.1 hp2.1.choose_spec.2).1
 obtain⟨lo,sF⟩:=xeq w3.heap.size;have Jb:Nv<lo:=by rw[<-sF];exact(au.1 Ke).1
 have aci:Below p W w3:=(H1.out.trans (c2.below (aR ZY) (fun k hk e=>by omega))).trans (b3.mono (by omega));have hns:NS W w3 p Nv lo N D n c F (.slice none 0 0) []:=⟨hp3,Ke,BO.nil _ _ _,aci,Nat.le_of_eq sF.symm⟩;have hx:=mZ (m:=10) hp3 hn (by decide) (by decide);have HNS:=ah hns;have HW3:=ah (ai hw3 eNv);clear hp2 c2 hw3 b3 Ke hp3 eNv sF aci hns eN;go_upto_region 3 with fail
 rw[HW3.out.1];(try rw[HW3.out.2]);go_wp2_with fail
 refine hx.mono ?_;rintro e w4 ⟨r4,rfl,⟨a4,b4⟩,Te,c4⟩;clear hx;have HN4:=ah (HNS.out.step c4 Te hpN Jb);obtain⟨j4,rfl⟩:∃j:Nat,r4=(j:Int):=⟨r4.toNat,by omega⟩;have hj4:j4<=9:=by omega
 clear Te c4 a4 b4 a2 b2 ZY;go_wp2_with fail
 go_loopw [5] (fun t wr=>∃(j:Nat) (v:Value) (l:List Bq),t= .int .i64 (j:Int)/\j+l.length<=9/\NS W wr p Nv lo N D n c F v l/\NV N l) (fun t _=>(intOf t).toNat)
 case atStart=>exact⟨j4,_,[],rfl,by simp;omega,HN4.out,fun q hq=>by simp at hq⟩
 case round=>
  obtain⟨j,v,l,rfl,hj,hns,yc⟩:=hrel;have x0:wr.cell? ⟨Nv,0,none⟩=some (.int .i64 (N:Int)):=aT wr Nv 0 _ _ (0,0) hns.nv
  by_cases hjj:0<j
  ·by_cases hNN:1<N
   ·have u0:(0:Int)< (j:Int):=by omega
    have u1:(1:Int)< (N:Int):=by omega
    have hx:=mZ (m:=(N:Int)) hns.tp hn (by omega) (by omega);have HN:=ah (ai hns yc);have PF:p<wr.heap.size:=(au.1 hns.tp.1.choose_spec.2).1;have amy:Nv<wr.heap.size:=(au.1 hns.nv).1;clear hns yc HN4;go_wp2_with fail
    refine hx.mono ?_;rintro e wA ⟨rA,rfl,⟨aA,bA⟩,hpA,cA⟩;clear hx;obtain⟨f,rfl⟩:∃f:Nat,rA=(f:Int):=⟨rA.toNat,by omega⟩;have hf:f<N:=by omega
    have hx:=EW hpA hn;have HA:=ah cA;clear hpA aA bA;go_wp2_with fail
    refine hx.mono ?_;rintro e wB ⟨b2,s2,t2,q2,rfl,CY,MS,hpB,cB⟩;clear hx;have hx:=Ga (w:=wB);have X7:=HA.out.trans cB;have HBb:=ah (ai MS (ai hpB X7));have amz:wr.heap.size<=wA.heap.size:=cA.size;clear MS hpB cB X7 cA;go_wp2_with fail
    refine hx.mono ?_;rintro e wC ⟨b3,s3,t3,rfl,oC,gC⟩;clear hx;obtain⟨MS,hpB,X7⟩:=HBb.out;obtain⟨Ne,fG⟩:=xeq wC.heap.size;have VT:=(MS.bJ (P:=fun _=>False) (bw.of gC) (fun _ h=>h.elim)).wide (M':=fun k=>k<wr.heap.size∨k=Ne) (fun k hk=>hk.elim (fun h=> .inl (ak h amz)) (fun h=> .inr (by omega)));have E3:=((oC.ro (M:=fun k=>k<wr.heap.size) (fk (aj 1)) (fun k hk=>ak hk X7.size))).wide (M':=fun k=>k<wr.heap.size∨k=Ne) (fun k hk=>hk.elim (fun h=> .inl h) (fun h=> .inr (by omega)));have hcC:=X7.trans (bw.of gC);obtain⟨wD,RD,bD,E4⟩:∃wD,wC.alloc (.cells #[.int .i64 (f:Int), .int .i64 0,b2,s2,t2,b3,s3,t3] 47)=wD/\Below wC.heap.size wC wD/\wD.heap[Ne]?=some (.cells #[.int .i64 (f:Int), .int .i64 0,b2,s2,t2,b3,s3,t3] 47 (0,0)):=⟨_,rfl,bI _ _,by rw[<-fG];exact aS wC _⟩;have hpD:=(hpB.below gC).below bD;have X8:=hcC.trans (bw.of bD);have ack:wr.heap.size<=Ne:=by rw[<-fG];exact hcC.size
    have acn:=(X8.block Nv amy (by omega)).trans HN.out.1.nv;have z0:wD.cell? ⟨Ne,0,none⟩=some (.int .i64 (f:Int)):=aT wD Ne 0 _ _ (0,0) E4;have z1:wD.cell? ⟨Ne,1,none⟩=some (.int .i64 0):=aT wD Ne 1 _ _ (0,0) E4;have z8:wD.cell? ⟨Nv,0,none⟩=some (.int .i64 (N:Int)):=aT wD Nv 0 _ _ (0,0) acn;have HN7:=ah (mZ (w:=wD.drew) (m:=(N:Int) -1) (hpD.below (aq _ _).drew) hn (by omega) (by omega));obtain⟨g0,g1',g2⟩:=VT.1.st;obtain⟨g3,g4,g5⟩:=E3.1.st;have H7:=ah (ai (VT.bJ (P:=fun _=>False) (bw.of bD) (fun _ h=>h.elim)) (ai (E3.bJ (P:=fun _=>False) (bw.of bD) (fun _ h=>h.elim)) (ai X8 E4)))
    have dH:=ah (show∀w',bw (·=p) wD.drew w'->(w'.cell? ⟨Ne,0,none⟩=some (.int .i64 (f:Int))/\w'.cell? ⟨Nv,0,none⟩=some (.int .i64 (N:Int)))/\w'.cell? ⟨Ne,1,none⟩=some (.int .i64 0)/\w'.frozen? ⟨Ne,1,none⟩=false from fun w' hc=>⟨⟨hc.cell (by omega) z0,hc.cell (by omega) z8⟩,hc.cell (by omega) z1,by
     have h:=(hc.block Ne (au.1 E4).1 (by omega)).trans E4;simp[World.frozen?,h]⟩)
    have HWD:=ah (ai RD fG);have hEl:Ne<wD.heap.size:=(au.1 E4).1;clear MS hpB X7 VT E3 hcC oC gC bD E4 hpD X8 acn RD fG z1;have hN6:N<=6:=oy.2;have v1:IntKind.i64.wrap ((N:Int) -1)=(N:Int) -1:=IntWalk.i64_in _ (by omega);have v2:IntKind.i64.wrap ((f:Int)+1)=(f:Int)+1:=IntWalk.i64_in _ (by omega);have v3:¬(N:Int)=0:=by omega
    have v6:¬N=0:=by omega
    go_upto_region 7 with fail
    rw[HWD.out.1];(try rw[HWD.out.2]);clear g0 g1' g2 g3 g4 g5;refine wp_region_held_drew (S:=(fun w'=>w'.cell? ⟨Ne,0,none⟩=some (.int .i64 (f:Int))/\w'.cell? ⟨Nv,0,none⟩=some (.int .i64 (N:Int)))) (by kernel_rfl) (⟨z0,z8⟩) (fun aU=>?_);refine tq 0 aU ?_;refine tq 1 aU ?_;refine tq 2 aU ?_;refine tq 3 aU ?_;refine tq 4 aU ?_;refine tq 5 aU ?_;refine tq 6 aU ?_;refine tq 9 aU ?_;refine tq 10 aU ?_;refine tv 7 (fun κ hκ=>?_);go_simp;go_at_call 13;refine(HN7.out).mono ?_;rintro ret w5 ⟨r5,rfl,Fa,hp5,c5⟩;obtain⟨k5,k6,k7⟩:=dH.out _ c5;obtain⟨t,et,ht,hft⟩:=VS hNN hf Fa.1 Fa.2;have v4:IntKind.i64.wrap ((f:Int)+1+r5)=(f:Int)+1+r5:=IntWalk.i64_in _ (by omega);have v5:IntKind.i64.wrap (t:Int)=(t:Int):=IntWalk.i64_in _ (by omega);have H5:=ah (ai hp5 (ai Fa (ai c5 (ai ht hft))));clear hp5 c5 Fa ht hft;go_wp2_with fail
    refine hκ.out _ _ ?_ (fun aU=>?_)
    ·exact k5
    clear hκ κ;refine tu ?_;refine tq 8 aU ?_;refine tq 11 aU ?_;refine tq 12 aU ?_;refine tv 13 (fun κ hκ=>?_);go_simp;refine hκ.out _ _ ?_ (fun aU=>?_)
    ·obtain⟨j1,j2⟩:=k5;have nn1:¬Nv=Ne:=by omega
     have nn2:¬Ne=Nv:=by omega
     exact⟨by go_simp,(bw.set (P:=(·=Ne)) (p:=⟨Ne,1,none⟩) rfl _ _).cell nn1 j2⟩
    clear hκ κ;refine tu ?_;refine td ?_ _;obtain⟨hp5,Fa,c5,ht,hft⟩:=H5.out;obtain⟨aco,acp,X8,E4⟩:=H7.out;have Nj:=(c5.block Ne hEl (by omega)).trans (show wD.drew.heap[Ne]?=_ from E4);have hrow:=cG (i:=1) (v:= .int .i64 (t:Int)) Nj;simp only[List.setIfInBounds_toArray,List.set_cons_zero,List.set_cons_succ]at hrow;have c6:bw (·=Ne) w5 (w5.setCell ⟨Ne,1,none⟩ (.int .i64 (t:Int))):=bw.set (P:=(·=Ne)) (p:=⟨Ne,1,none⟩) rfl _ _;have hp6:=hp5.bJ c6 (fun k hk=>by omega);have qO:=((aco.bJ (P:=fun _=>False) (bw.of (aq _ _).drew) (fun _ h=>h.elim)).bJ c5 (fun k hk=> .inl (by omega))).bJ c6 (fun k hk=> .inr hk);have JM:=((acp.bJ (P:=fun _=>False) (bw.of (aq _ _).drew) (fun _ h=>h.elim)).bJ c5 (fun k hk=> .inl (by omega))).bJ c6 (fun k hk=> .inr hk);have Oj:=((X8.trans (bw.of (aq _ _).drew)).trans c5).acc c6 (fun k hk=> .inr (by omega));obtain⟨wE,hwE⟩:=xeq (w5.setCell ⟨Ne,1,none⟩ (.int .i64 (t:Int)));rw[hwE]at hrow hp6 qO JM Oj;have hx:=mZ (m:=4) hp6 hn (by decide) (by decide);have H6:=ah (ai qO (ai JM (ai Oj (ai hrow (ai ht hft)))));have HWE:=ah hwE;clear hp5 Fa c5 aco acp X8 E4 Nj hrow c6 hp6 qO JM Oj hwE H5 H7 dH HN7 k5 k6 k7 z0 z8 aU ht hft et v1 v2 v4 v5;go_upto_region 8 with fail
    rw[HWE.out]
    go_cut [47] (fun u wx=>∃b:Bool,u= .bool b/\TP wx p D n c F/\bw (·=p) wE wx)
    case first=>
     go_wp2_with fail
     refine hx.mono ?_;rintro e w8 ⟨r8,rfl,hr8,G0,c8⟩;have H8:=ah (ai G0 c8);clear hx G0 c8;go_wp2_with fail
     go_meet;exact⟨_,rfl,H8.out⟩
    case rest=>
     obtain⟨b,hu,G0,c8⟩:=hcut;subst hu;clear hx;rename_i hK
     refine hK _ _ ?_;obtain⟨qO,JM,Oj,hrow,ht,hft⟩:=H6.out;have Rl:=(c8.block Ne (au.1 hrow).1 (by omega)).trans hrow;have CO:=qO.bJ c8 (fun k hk=> .inl (by omega));have Fz:=JM.bJ c8 (fun k hk=> .inl (by omega));have nD:=Oj.trans c8;have HF:=ah (ai ht hft);clear qO JM Oj hrow ht hft H6 HWE c8
     go_cut [] (fun wx=>∃y1 y2 y3 h,wx.heap[Ne]?=some (.cells #[.int .i64 (f:Int), .int .i64 (t:Int),b2,s2,t2,y1,y2,y3] 47 (0,0))/\RO wx (fun k=>k<wr.heap.size∨k=Ne) b2 s2 t2 q2 1/\RO wx (fun k=>k<wr.heap.size∨k=Ne) y1 y2 y3 h 1/\TP wx p D n c F/\bw (·=p) wr wx)
     case first=>
      cases b with
      |false=>
       have HR:=ah (ai Rl (ai CO (ai Fz (ai G0 nD))));clear Rl CO Fz G0 nD;go_wp2_with fail
       go_meet;exact⟨_,_,_,_,HR.out⟩
      |true=>
       have hx:=acf G0 hn;have H8:=ah (ai Rl (ai CO (ai Fz nD)));have apc:Ne<wc.heap.size:=(au.1 Rl).1;clear Rl CO Fz G0 nD;go_wp2_with fail
       refine hx.mono ?_;rintro e w9 ⟨b9,s9,t9,q9,rfl,-,pP,Q6,c9⟩;clear hx;obtain⟨Rl,CO,Fz,nD⟩:=H8.out;have Yz:=(c9.block Ne apc (by omega)).trans Rl;obtain⟨⟨x9,x10,x11,x12,x13,x5,x6,x7⟩,f0,f1,f2,f3,f4,f5,f6,f7⟩:=fQ Yz;have Fa:=cG (i:=7) (v:=t9) (cG (i:=6) (v:=s9) (cG (i:=5) (v:=b9) Yz));simp only[List.setIfInBounds_toArray,List.set_cons_zero,List.set_cons_succ]at Fa;have c10:bw (·=Ne) w9 (((w9.setCell ⟨Ne,5,none⟩ b9).setCell ⟨Ne,6,none⟩ s9).setCell ⟨Ne,7,none⟩ t9):=((bw.set (P:=(·=Ne)) (p:=⟨Ne,5,none⟩) rfl _ _).trans (bw.set (P:=(·=Ne)) (p:=⟨Ne,6,none⟩) rfl _ _)).trans (bw.set (P:=(·=Ne)) (p:=⟨Ne,7,none⟩) rfl _ _);obtain⟨Ns,Nt,Nu⟩:=pP.1.st;have hszc:wr.heap.size<=wc.heap.size:=nD.size;have HR:=ah (ai Fa (ai ((CO.bJ c9 (fun k hk=> .inl (by omega))).bJ c10 (fun k hk=> .inr hk)) (ai ((pP.wide (M':=fun k=>k<wr.heap.size∨k=Ne) (fun k hk=> .inl (by omega))).bJ c10 (fun k hk=> .inr hk)) (ai (Q6.bJ c10 (fun k hk=>by omega)) ((nD.trans c9).acc c10 (fun k hk=> .inr (by omega)))))));clear Rl CO Fz nD Yz Fa c10 pP Q6 c9 x9 x10 x11 x12 x13 f0 f1 f2 f3 f4;go_wp2_with fail
       go_meet;exact⟨_,_,_,_,HR.out⟩
     case rest=>
      obtain⟨y1,y2,y3,h,Yz,pP,aga,Q6,WT⟩:=hcut;clear Rl CO Fz G0 nD;obtain⟨ht,hft⟩:=HF.out;obtain⟨hns,yc⟩:=HN.out;have Rm:=hns.step WT Q6 hpN Jb;obtain⟨D5,c5,rfl,-⟩:=Rm.bo.bl;obtain⟨⟨x1,x2,x3,x4,x5,x6,x7,x8⟩,-⟩:=fQ Yz;have e1:wc.cell? ⟨Nv,1,none⟩=some (.slice D5 l.length c5):=aT wc Nv 1 _ _ (0,0) Rm.nv;have ba:=bI wc (.cells #[.int .i64 (f:Int), .int .i64 (t:Int),b2,s2,t2,y1,y2,y3] 47);have h6:(wc.alloc (.cells #[.int .i64 (f:Int), .int .i64 (t:Int),b2,s2,t2,y1,y2,y3] 47)).heap[wc.heap.size]?=some (.cells #[.int .i64 (f:Int), .int .i64 (t:Int),b2,s2,t2,y1,y2,y3] 47 (0,0)):=aS wc _;obtain⟨wa,iP⟩:=xeq (wc.alloc (.cells #[.int .i64 (f:Int), .int .i64 (t:Int),b2,s2,t2,y1,y2,y3] 47));rw[iP]at ba h6;have E5:=Rm.step (bw.of ba) (Q6.below ba) hpN Jb;have hsub:∀k,(k<lo∨(Value.slice D5 l.length c5).ownBlock=some k)->(k<wr.heap.size∨k=Ne)∨wa.heap.size<=k:=fun k hk=> .inl (.inl (hk.elim (fun h=>ak h hns.sz) (fun h=>(hns.bo.blk k h).2)));have wS:=(pP.bJ (P:=fun _=>False) (bw.of ba) (fun _ h=>h.elim)).wide hsub;have MT:=(aga.bJ (P:=fun _=>False) (bw.of ba) (fun _ h=>h.elim)).wide hsub;have hone:=MQ (q:=⟨f,t,q2,h⟩) wS.1 MT.1;obtain⟨xs,hown,MV⟩:=E5.bo;obtain⟨g0,g1',g2⟩:=wS.1.st;obtain⟨g3,g4,g5⟩:=MT.1.st;obtain⟨g6,g7',g8⟩:=wS.1.cl;obtain⟨g9,g10,g11⟩:=MT.1.cl;have hPS:=ah (fun g cap w'=>BO.push (w':=w') (g:=g) (cap:=cap) (q:=⟨f,t,q2,h⟩) MV hown.1 wS MT);have hlo:lo<=wa.heap.size:=E5.sz
      have Rn:NV N (l++ [⟨f,t,q2,h⟩]):=fun q hq=>by
       rcases List.mem_append.1 hq with hq|hq
       ·exact yc q hq
       ·simp at hq;subst hq;exact⟨hf,ht,hft,CY⟩
      have HNA:=ah (ai E5 Rn);have hl9:l.length<=9:=by omega
      obtain⟨ll,qB⟩:=xeq l.length;have X9:=ah qB;rw[qB]at e1 hown hl9;have HOL:=ah hown.lt
      try rw[qB]
      clear Yz pP aga Q6 WT hns yc Rm ba E5 hsub wS MT MV Rn qB HN
      go_wp2_with (first
       |(at_builtin;(try rw[iP]);refine SC (q:=⟨f,t,q2,h⟩) (v:= .slice D5 ll c5) rfl (.tmp 52) (.tmp 54) rfl rfl hown rfl h6 hone (by omega) hlo ?_;intro g7 bR w7 ew dR eO kR;have Ro:=(dR.block Nv (ak Jb hlo) (fun hx=>by have:=(HOL.out _ hx.symm).1;omega)).trans HNA.out.1.nv;have n1:w7.cell? ⟨Nv,1,none⟩=some (.slice D5 l.length c5):=aT w7 Nv 1 _ _ (0,0) Ro;have n2:w7.frozen? ⟨Nv,1,none⟩=false:=by simp[World.frozen?,Ro]))
      have c7:bw (fun k=>some k=(Value.slice D5 ll c5).ownBlock) wa w7:=bw.grown (v:= .slice D5 ll c5) dR;have c8:bw (·=Nv) w7 (w7.setCell ⟨Nv,1,none⟩ (.slice (some ⟨g7,0,none⟩) (ll+1) bR)):=bw.set (P:=(·=Nv)) (p:=⟨Nv,1,none⟩) rfl _ _;have hrow:=cG (i:=1) (v:= .slice (some ⟨g7,0,none⟩) (ll+1) bR) Ro;simp only[List.setIfInBounds_toArray,List.set_cons_zero,List.set_cons_succ]at hrow
      have HR:=ah (show NS W (w7.setCell ⟨Nv,1,none⟩ (.slice (some ⟨g7,0,none⟩) (ll+1) bR)) p Nv lo N D n c F (.slice (some ⟨g7,0,none⟩) (ll+1) bR) (l++ [⟨f,t,q2,h⟩])/\NV N (l++ [⟨f,t,q2,h⟩])/\(l++ [(⟨f,t,q2,h⟩:Bq)]).length=ll+1 from by
       obtain⟨E5,Rn⟩:=HNA.out;have J4:=hPS.out g7 bR w7 (by rw[X9.out];exact ew) (by rw[X9.out];exact dR) (by rw[X9.out];exact eO);rw[X9.out]at J4;refine⟨⟨(E5.tp.bJ c7 (fun k hk=>by have:=(HOL.out _ hk.symm).1;omega)).bJ c8 (fun k hk=>by omega),hrow,J4.bJ c8 (fun k hk=>by omega),(E5.mH.trans (c7.below (by omega) (fun k hk h=>by have:=(HOL.out _ h.symm).1;omega))).trans (c8.below (by have:=c7.size;omega) (fun k hk h=>by omega)),ay hlo (ay c7.size c8.size)⟩,Rn,by rw[List.length_append,X9.out];rfl⟩)
      have hj2:j+ll<=9:=by rw[<-X9.out];exact hj
      clear ew dR eO kR Ro n1 n2 c7 c8 hrow h6 hown hone iP x1 x2 x3 x4 x5 x6 x7 x8 e1 g0 g1' g2 g3 g4 g5 g6 g7' g8 g9 g10 g11;go_wp2_with fail
      go_roundw
      case rel=>exact⟨j-1,_,_,by go_num,by rw[HR.out.2.2];omega,HR.out.1,HR.out.2.1⟩
      case measure=>simp[intOf];omega
   ·have Ag:=(hns.mH.block Z0 hZp).trans HB.out.2.1;have hle:¬(0<j/\1<N):=fun h=>by omega
    have e0:wr.cell? ⟨Nv,1,none⟩=some v:=aT wr Nv 1 _ _ (0,0) hns.nv;obtain⟨Dn,cn,rfl,-⟩:=hns.bo.bl;have y0:wr.cell? ⟨Z0,0,none⟩=some (.int .i64 0):=aT wr Z0 0 _ _ (0,0) Ag;have y1:wr.cell? ⟨Z0,1,none⟩=some (.slice none 0 0):=aT wr Z0 1 _ _ (0,0) Ag;have y2:wr.frozen? ⟨Z0,0,none⟩=false:=by simp[World.frozen?,Ag]
    have y3:wr.frozen? ⟨Z0,1,none⟩=false:=by simp[World.frozen?,Ag]
    have hcs:bw (·=Z0) wr ((wr.setCell ⟨Z0,0,none⟩ (.int .i64 (N:Int))).setCell ⟨Z0,1,none⟩ (.slice Dn l.length cn)):=(bw.set (P:=(·=Z0)) (p:=⟨Z0,0,none⟩) rfl _ _).trans (bw.set (P:=(·=Z0)) (p:=⟨Z0,1,none⟩) rfl _ _);have hrow:=cG (i:=1) (v:= .slice Dn l.length cn) (cG (i:=0) (v:= .int .i64 (N:Int)) Ag);simp only[List.setIfInBounds_toArray,List.set_cons_zero,List.set_cons_succ]at hrow;obtain⟨wz,JX⟩:=xeq ((wr.setCell ⟨Z0,0,none⟩ (.int .i64 (N:Int))).setCell ⟨Z0,1,none⟩ (.slice Dn l.length cn));rw[JX]at hcs hrow
    have HR:=ah (show∃(N':Nat) (Dn':Option Addr) (cn':Nat) (l':List Bq),Ending.returned (.agg #[.int .i64 (N:Int), .slice Dn l.length cn])= .returned (.agg #[.int .i64 (N':Int), .slice Dn' l'.length cn'])/\(1<=N'/\N'<=6)/\l'.length<=9/\BL wz Dn' l' 1/\NV N' l'/\Below w.heap.size w wz from by
     have J4:=hns.bo.bJ hcs (fun k hk=>by omega);obtain⟨D',c',e,hbl⟩:=J4.bl;injection e with e1 _ e3
     subst e1;refine⟨N,_,cn,l,rfl,oy,by omega,hbl,yc,HB.out.1.trans ((hns.mH.mono (by have:=HB.out.1.size;have:=HB.out.2.2;omega)).trans (hcs.below (by have:=HB.out.1.size;have:=hns.mH.size;have:=HB.out.2.2;omega) (fun k hk h=>by have:=EZ.out;omega)))⟩)
    have HC:=ah (ai (aT wz Z0 0 _ _ (0,0) hrow) (aT wz Z0 1 _ _ (0,0) hrow));have wF:=ah JX;have u2:¬((0:Int)< (j:Int)/\(1:Int)< (N:Int)):=by omega
    clear hns yc Ag hcs hrow JX HN4;go_wp2_with fail
    rw[wF.out];exact bodyPost_ret (v:= .agg #[.int .i64 (N:Int), .slice Dn l.length cn]) (by simp[results,Tryz.results4,go_sem,HC.out]) rfl HR.out
  ·have Ag:=(hns.mH.block Z0 hZp).trans HB.out.2.1;have hle:¬(0<j/\1<N):=fun h=>by omega
   have e0:wr.cell? ⟨Nv,1,none⟩=some v:=aT wr Nv 1 _ _ (0,0) hns.nv;obtain⟨Dn,cn,rfl,-⟩:=hns.bo.bl;have y0:wr.cell? ⟨Z0,0,none⟩=some (.int .i64 0):=aT wr Z0 0 _ _ (0,0) Ag;have y1:wr.cell? ⟨Z0,1,none⟩=some (.slice none 0 0):=aT wr Z0 1 _ _ (0,0) Ag;have y2:wr.frozen? ⟨Z0,0,none⟩=false:=by simp[World.frozen?,Ag]
   have y3:wr.frozen? ⟨Z0,1,none⟩=false:=by simp[World.frozen?,Ag]
   have hcs:bw (·=Z0) wr ((wr.setCell ⟨Z0,0,none⟩ (.int .i64 (N:Int))).setCell ⟨Z0,1,none⟩ (.slice Dn l.length cn)):=(bw.set (P:=(·=Z0)) (p:=⟨Z0,0,none⟩) rfl _ _).trans (bw.set (P:=(·=Z0)) (p:=⟨Z0,1,none⟩) rfl _ _);have hrow:=cG (i:=1) (v:= .slice Dn l.length cn) (cG (i:=0) (v:= .int .i64 (N:Int)) Ag);simp only[List.setIfInBounds_toArray,List.set_cons_zero,List.set_cons_succ]at hrow;obtain⟨wz,JX⟩:=xeq ((wr.setCell ⟨Z0,0,none⟩ (.int .i64 (N:Int))).setCell ⟨Z0,1,none⟩ (.slice Dn l.length cn));rw[JX]at hcs hrow
   have HR:=ah (show∃(N':Nat) (Dn':Option Addr) (cn':Nat) (l':List Bq),Ending.returned (.agg #[.int .i64 (N:Int), .slice Dn l.length cn])= .returned (.agg #[.int .i64 (N':Int), .slice Dn' l'.length cn'])/\(1<=N'/\N'<=6)/\l'.length<=9/\BL wz Dn' l' 1/\NV N' l'/\Below w.heap.size w wz from by
    have J4:=hns.bo.bJ hcs (fun k hk=>by omega);obtain⟨D',c',e,hbl⟩:=J4.bl;injection e with e1 _ e3
    subst e1;refine⟨N,_,cn,l,rfl,oy,by omega,hbl,yc,HB.out.1.trans ((hns.mH.mono (by have:=HB.out.1.size;have:=HB.out.2.2;omega)).trans (hcs.below (by have:=HB.out.1.size;have:=hns.mH.size;have:=HB.out.2.2;omega) (fun k hk h=>by have:=EZ.out;omega)))⟩)
   have HC:=ah (ai (aT wz Z0 0 _ _ (0,0) hrow) (aT wz Z0 1 _ _ (0,0) hrow));have wF:=ah JX;have u2:¬((0:Int)< (j:Int)/\(1:Int)< (N:Int)):=by omega
   clear hns yc Ag hcs hrow JX HN4;go_wp2_with fail
   rw[wF.out];exact bodyPost_ret (v:= .agg #[.int .i64 (N:Int), .slice Dn l.length cn]) (by simp[results,Tryz.results4,go_sem,HC.out]) rfl HR.out
theorem Qz{w:World}{D:Option Addr}{N m c K:Nat}{l:List Bq}(hm:m<=16384)(hl:BL w D l K)(hlm:l.length=m):
 Calls Tryz.prog 6 #[.agg #[.int .i64 (N:Int), .slice D m c]] w (fun e w'=>∃D2 c2,e= .returned (.slice D2 m c2)/\PL w' D2 m (qQ l)/\Below w.heap.size w w'):=by
 have bC:=bI w (.cells #[.int .i64 (N:Int), .slice D m c] 25);have h0:=aS w (.cells #[.int .i64 (N:Int), .slice D m c] 25);obtain⟨W,hW⟩:=xeq (w.alloc (.cells #[.int .i64 (N:Int), .slice D m c] 25));obtain⟨Z0,iC⟩:=xeq w.heap.size;rw[hW]at bC h0;rw[iC]at h0;have x1:W.cell? ⟨Z0,1,none⟩=some (.slice D m c):=aT W Z0 1 _ _ (0,0) h0;have HL:=ah hl;have HM:=ah hlm;have HW:=ah hW;have EN:=ah iC;have HB:=ah bC;have hZW:Z0<=W.heap.size:=by have:=bC.size;omega
 clear hl hW iC bC h0 hlm;go_enter Tryz.func6,Tryz.ntmps6
 go_upto_region 2 with fail
 rw[HW.out,EN.out];go_wp2_with fail
 clear x1
 go_loopw [3,9] (fun u t wr=>∃k:Nat,k<=m/\t= .int .i64 (k:Int)/\wr.ownsRow Z0 63 2 u k (dK (Mn (l.take k)))/\Below Z0 w wr/\Z0<=wr.heap.size) (fun _ t _=>m- (intOf t).toNat)
 case atStart=>exact⟨0,aF _,rfl,World.ownsRow_nil _ _ _ _,by rw[<-EN.out];exact HB.out,hZW⟩
 case round=>
  obtain⟨k,hk,rfl,how,hb,hzs⟩:=hrel;have cF:Below w.heap.size w wr:=by rw[EN.out];exact hb
  by_cases hlk:k<m
  ·obtain⟨q,hq⟩:∃q,l[k]?=some q:=⟨l[k]'(by rw[HM.out];exact hlk),aB _⟩;obtain⟨bb,bo,rfl,hbl,⟨e0,e1⟩,p1,p2,p3,y1,y2,y3,⟨e2,e3,e4⟩,⟨e5,e6,e7⟩,hr1,iW⟩:=(HL.out.below cF).nth hq;obtain⟨s0,s1,s2⟩:=hr1.st;obtain⟨s3,s4,s5⟩:=iW.st;obtain⟨qf,lE⟩:=xeq q.f;obtain⟨qt,lF⟩:=xeq q.t;have hpt:=ve hq;rw[lE]at e0 hpt;rw[lF]at e1 hpt;have u0:(0:Int)<=(k:Int):=by omega
   have u1:(k:Int)<m:=by omega
   have gm:=bI wr (.cells #[.int .i64 (qf:Int), .int .i64 (qt:Int),p1,p2,p3,y1,y2,y3] 47);have h5:=aS wr (.cells #[.int .i64 (qf:Int), .int .i64 (qt:Int),p1,p2,p3,y1,y2,y3] 47);obtain⟨wb,gh⟩:=xeq (wr.alloc (.cells #[.int .i64 (qf:Int), .int .i64 (qt:Int),p1,p2,p3,y1,y2,y3] 47));obtain⟨Ne,fG⟩:=xeq wr.heap.size;rw[gh]at gm h5;rw[fG]at h5;obtain⟨⟨z0,z1,z2,z3,z4,z5,z6,z7⟩,-⟩:=fQ h5;have ba:=bI wb (.cells #[.int .i64 (qf:Int), .int .i64 (qt:Int)] 63);have h6:(wb.alloc (.cells #[.int .i64 (qf:Int), .int .i64 (qt:Int)] 63)).heap[wb.heap.size]?=some (.cells #[.int .i64 (qf:Int), .int .i64 (qt:Int)] 63 (0,0)):=aS wb _;obtain⟨wa,iP⟩:=xeq (wb.alloc (.cells #[.int .i64 (qf:Int), .int .i64 (qt:Int)] 63));rw[iP]at ba h6;have bba:=gm.trans (ba.mono gm.size);have jQ:=bL how (bw.of (P:=fun _=>False) bba) (fun _ _ h=>h);have hlo:Z0<=wa.heap.size:=ay hzs bba.size;have Eh:=ah (hb.trans (bba.mono hzs));have HOL:=ah jQ.lt;have lC:=ah gh;have ny:=ah fG;have HPT:=ah hpt;clear hr1 iW hb cF hq lE lF gm h5 gh fG ba bba how hpt hzs;go_upto_region 5 with fail
   (try rw[lC.out]);(try rw[ny.out]);clear e0 e1 e2 e3 e4 e5 e6 e7 s0 s1 s2 s3 s4 s5
   go_wp2_with (first
    |(at_builtin;(try rw[iP]);refine Dh rfl (.tmp 13) (.tmp 19) rfl rfl jQ rfl h6 (by omega) hlo ?_;intro g7 bR w7 ew dR eO kR))
   have c7:=bw.grown dR;have fW:=Eh.out.trans (c7.below hlo (fun x hx h=>by have:=(HOL.out _ h.symm).1;omega));rw[<-HPT.out]at ew;have HZ:=ah (ai ew (ai fW (ay hlo c7.size)));clear ew dR eO kR c7 fW h6 jQ z0 z1 z2 z3 z4 z5 z6 z7 iP hlo;go_roundw
   case rel=>exact⟨k+1,by omega,by go_num,HZ.out⟩
   case measure=>simp[intOf];omega
  ·obtain rfl:m=k:=by omega
   rw[aI (by rw[HM.out];exact aj _)]at how;obtain⟨D2,c2,rfl,hpl⟩:=Mp how HM.out;have HR:=ah (ai hpl cF);clear how hpl hb cF hzs;go_wp2_with fail
   go_ret;exact⟨D2,c2,rfl,HR.out⟩
theorem Jc{w:World}{D:Option Addr}{n c K m:Nat}{l:List (Nat×Rat)}(hl:EL w D l K)(hcan:Can n l)(hm:l.length=m)(hm2:m<=16384)(hK:K<=1099511627776):
 Calls Tryz.prog 27 #[.slice D m c, .int .i64 (n:Int)] w (fun e w'=>e= .returned (.bool true)/\Below w.heap.size w w'):=by
 have HL:=ah hl;have HC:=ah hcan;have HM:=ah hm;clear hl hcan hm;go_enter Tryz.func27,Tryz.ntmps27
 go_wp2_with fail
 go_loopw [5] (fun t wr=>∃k:Nat,k<=m/\t= .int .i64 (k:Int)/\Below w.heap.size w wr) (fun t _=>m- (intOf t).toNat)
 case atStart=>exact⟨0,aF _,rfl,aq _ _⟩
 case round=>
  obtain⟨k,hk,rfl,hb⟩:=hrel;have rB:=ah hb
  by_cases hlk:k<m
  ·obtain⟨p,hp⟩:∃p,l[k]?=some p:=⟨l[k]'(by rw[HM.out];exact hlk),aB _⟩;obtain⟨b,off,rfl,hbl,hc⟩:=(HL.out.below hb) (by rw[HM.out];omega);obtain⟨x0,y1,y2,y3,x1,x2,x3,hr⟩:=hc k p hp;have jB:=HC.out.lt p (aD hp);have Xy:=HC.out.ne p (aD hp);have hsz:¬fZ p.2.num=0:=lU Xy;have Qt:=ah (fun w' (hb:Below wr.heap.size wr w')=>Be (hr.keep hb) hK rfl);obtain⟨sg,kZ⟩:=xeq (fZ p.2.num);rw[kZ]at hsz Qt;obtain⟨pi,pR⟩:=xeq p.1;rw[pR]at x0 jB;have u0:(0:Int)<=(k:Int):=by omega
   have u1:(k:Int)<m:=by omega
   have u2:¬(pi:Int)<0:=by omega
   have u3:¬(n:Int)<=(pi:Int):=by omega
   by_cases hk0:k=0
   ·have u4:¬(0:Int)< (k:Int):=by omega
    have dH:=ah (show∀w',Below wr.heap.size wr w'->w'.cell? ⟨b,off+k*4,none⟩=some (.int .i64 (pi:Int))/\w'.cell? ⟨b,off+k*4+1,none⟩=some y1/\w'.cell? ⟨b,off+k*4+2,none⟩=some y2/\w'.cell? ⟨b,off+k*4+3,none⟩=some y3 from fun w' h=>⟨bn h hbl x0,bn h hbl x1,bn h hbl x2,bn h hbl x3⟩);have u8:¬0<k:=by omega
    clear hr hc hbl hb Xy kZ pR hp hk0;go_upto_region 4 with fail
    refine wp_region_held_drew (S:=(fun w'=>w'.cell? ⟨b,off+k*4,none⟩=some (.int .i64 (pi:Int))/\w'.cell? ⟨b,off+k*4+1,none⟩=some y1/\w'.cell? ⟨b,off+k*4+2,none⟩=some y2/\w'.cell? ⟨b,off+k*4+3,none⟩=some y3)) (by kernel_rfl) (⟨x0,x1,x2,x3⟩) (fun aU=>?_);refine tq 0 aU ?_;refine tq 1 aU ?_;refine tq 2 aU ?_;refine tq 3 aU ?_;refine tq 4 aU ?_;refine tq 5 aU ?_;refine tq 6 aU ?_;refine tq 7 aU ?_;refine tq 8 aU ?_;refine tq 9 aU ?_;refine tq 10 aU ?_;refine tq 11 aU ?_;refine tq 12 aU ?_;refine tq 13 aU ?_;refine tq 14 aU ?_;refine tq 15 aU ?_;refine tq 16 aU ?_;refine tr (v:= .bool false) 17 aU (fun w cZ=>?_) ?_
    focus((try dsimp only at cZ);go_simp;(try with_reducible rfl);done)
    try simp only[Act.put,List.setIfInBounds_toArray,List.set_cons_zero,List.set_cons_succ]
    refine tr (v:= .bool false) 18 aU (fun w cZ=>?_) ?_
    focus((try dsimp only at cZ);go_simp;(try with_reducible rfl);done)
    try simp only[Act.put,List.setIfInBounds_toArray,List.set_cons_zero,List.set_cons_succ]
    refine tn 19 aU ?_;refine tn 20 aU ?_;refine tn 21 aU ?_;refine tn 22 aU ?_;refine tn 23 aU ?_;refine tn 24 aU ?_;refine tn 25 aU ?_;refine tn 26 aU ?_;refine tn 27 aU ?_;refine tn 28 aU ?_;refine tn 29 aU ?_;refine tn 30 aU ?_;refine tq 31 aU ?_;refine tq 32 aU ?_;refine tq 33 aU ?_;refine tq 34 aU ?_;refine tq 35 aU ?_;refine tq 36 aU ?_;refine tq 37 aU ?_;refine tq 38 aU ?_;refine tv 39 (fun κ hκ=>?_);go_simp;go_at_call 11;refine(Qt.out wr.drew (aq _ _).drew).mono ?_;rintro ret w9 ⟨rfl,g9⟩;have kS:=(aq wr.heap.size wr).drew.trans g9;go_wp2_with fail
    refine hκ.out _ _ ?_ (fun aU=>?_)
    ·exact dH.out _ kS
    clear hκ κ;refine tu ?_;refine tq 40 aU ?_;refine tq 41 aU ?_;refine td ?_ _;have HR:=ah kS;clear aU kS g9 x0 x1 x2 x3;go_wp2_with fail
    go_roundw
    case rel=>exact⟨k+1,by omega,by go_num,rB.out.trans (HR.out.mono rB.out.size)⟩
    case measure=>simp[intOf];omega
   ·have u4:(0:Int)< (k:Int):=by omega
    obtain⟨q,hq⟩:∃q,l[k-1]?=some q:=⟨l[k-1]'(by rw[HM.out];omega),aB _⟩;obtain⟨x9,-⟩:=hc (k-1) q hq;have hlt:=HC.out.jF (k-1) k q p (by omega) hq hp;obtain⟨qi,eqi⟩:=xeq q.1;rw[eqi]at x9 hlt;rw[pR]at hlt;have u5:¬(pi:Int)<=(qi:Int):=by omega
    have u6:IntKind.i64.wrap ((k:Int) -1)=((k-1:Nat):Int):=by rw[IntWalk.i64_in _ (by omega)];omega
    have u7:((k-1:Nat):Int)<m:=by omega
    have dH:=ah (show∀w',Below wr.heap.size wr w'->w'.cell? ⟨b,off+ (k-1)*4,none⟩=some (.int .i64 (qi:Int))/\w'.cell? ⟨b,off+k*4,none⟩=some (.int .i64 (pi:Int))/\w'.cell? ⟨b,off+k*4+1,none⟩=some y1/\w'.cell? ⟨b,off+k*4+2,none⟩=some y2/\w'.cell? ⟨b,off+k*4+3,none⟩=some y3 from fun w' h=>⟨bn h hbl x9,bn h hbl x0,bn h hbl x1,bn h hbl x2,bn h hbl x3⟩);have u8:0<k:=by omega
    clear hr hc hbl hb Xy kZ pR hp hq eqi hlt hk0;go_upto_region 4 with fail
    refine wp_region_held_drew (S:=(fun w'=>w'.cell? ⟨b,off+ (k-1)*4,none⟩=some (.int .i64 (qi:Int))/\w'.cell? ⟨b,off+k*4,none⟩=some (.int .i64 (pi:Int))/\w'.cell? ⟨b,off+k*4+1,none⟩=some y1/\w'.cell? ⟨b,off+k*4+2,none⟩=some y2/\w'.cell? ⟨b,off+k*4+3,none⟩=some y3)) (by kernel_rfl) (⟨x9,x0,x1,x2,x3⟩) (fun aU=>?_);refine tq 0 aU ?_;refine tq 1 aU ?_;refine tq 2 aU ?_;refine tq 3 aU ?_;refine tq 4 aU ?_;refine tq 5 aU ?_;refine tq 6 aU ?_;refine tq 7 aU ?_;refine tq 8 aU ?_;refine tq 9 aU ?_;refine tq 10 aU ?_;refine tq 11 aU ?_;refine tq 12 aU ?_;refine tq 13 aU ?_;refine tq 14 aU ?_;refine tq 15 aU ?_;refine tq 16 aU ?_;refine tr (v:= .bool true) 17 aU (fun w cZ=>?_) ?_
    focus((try dsimp only at cZ);go_simp;(try with_reducible rfl);done)
    try simp only[Act.put,List.setIfInBounds_toArray,List.set_cons_zero,List.set_cons_succ]
    refine tr (v:= .bool true) 18 aU (fun w cZ=>?_) ?_
    focus((try dsimp only at cZ);go_simp;(try with_reducible rfl);done)
    try simp only[Act.put,List.setIfInBounds_toArray,List.set_cons_zero,List.set_cons_succ]
    refine tq 19 aU ?_;refine tq 20 aU ?_;refine tq 21 aU ?_;refine tq 22 aU ?_;refine tq 23 aU ?_;refine tq 24 aU ?_;refine tq 25 aU ?_;refine tq 26 aU ?_;refine tq 27 aU ?_;refine tq 28 aU ?_;refine tq 29 aU ?_;refine tq 30 aU ?_;refine tq 31 aU ?_;refine tq 32 aU ?_;refine tq 33 aU ?_;refine tq 34 aU ?_;refine tq 35 aU ?_;refine tq 36 aU ?_;refine tq 37 aU ?_;refine tq 38 aU ?_;refine tv 39 (fun κ hκ=>?_);go_simp;go_at_call 11;refine(Qt.out wr.drew (aq _ _).drew).mono ?_;rintro ret w9 ⟨rfl,g9⟩;have kS:=(aq wr.heap.size wr).drew.trans g9;go_wp2_with fail
    refine hκ.out _ _ ?_ (fun aU=>?_)
    ·exact dH.out _ kS
    clear hκ κ;refine tu ?_;refine tq 40 aU ?_;refine tq 41 aU ?_;refine td ?_ _;have HR:=ah kS;clear aU kS g9 x9 x0 x1 x2 x3;go_wp2_with fail
    go_roundw
    case rel=>exact⟨k+1,by omega,by go_num,rB.out.trans (HR.out.mono rB.out.size)⟩
    case measure=>simp[intOf];omega
  ·obtain rfl:m=k:=by omega
   clear hb;go_wp2_with fail
   go_ret;exact⟨rfl,rB.out⟩
theorem Jd{w:World}{D:Option Addr}{n c K r:Nat}{A:Nat->List (Nat×Rat)}(hl:ML w D r A K)(hcan:∀i,i<r->Can n (A i))(hr:r<=16384)(hn:n<=16384)(hK:K<=1099511627776):
 Calls Tryz.prog 8 #[.agg #[.int .i64 (r:Int), .int .i64 (n:Int), .slice D r c]] w (fun e w'=>e= .returned (.bool true)/\Below w.heap.size w w'):=by
 obtain⟨W,hW,bC,i0⟩:∃W,w.alloc (.cells #[.int .i64 (r:Int), .int .i64 (n:Int), .slice D r c] 34)=W/\Below w.heap.size w W/\cK W w.heap.size (.int .i64 (r:Int)) (.int .i64 (n:Int)) (.slice D r c):=⟨_,rfl,bI _ _,cK.jJ _ _ _ _ _⟩;obtain⟨Z0,iC⟩:=xeq w.heap.size;rw[iC]at i0;have HL:=ah (hl.below bC);have HC:=ah hcan;have HB:=ah bC;have HW:=ah hW;have EZ:=ah iC;have HI:=ah i0;have x0:=i0.c0;have x1:=i0.c1;have x2:=i0.c2;have u0:¬(r:Int)<0:=by omega
 have u1:¬(16384:Int)<r:=by omega
 have u2:¬(n:Int)<0:=by omega
 have u3:¬(16384:Int)<n:=by omega
 clear hl hcan bC hW iC i0;go_enter Tryz.func8,Tryz.ntmps8
 go_upto_region 1 with fail
 rw[HW.out];(try rw[EZ.out]);go_wp2_with fail
 clear x0 x1 x2
 go_loopw [3] (fun t wr=>∃k:Nat,k<=r/\t= .int .i64 (k:Int)/\Below W.heap.size W wr) (fun t _=>r- (intOf t).toNat)
 case atStart=>exact⟨0,aF _,rfl,aq _ _⟩
 case round=>
  obtain⟨k,hk,rfl,hb⟩:=hrel;have rB:=ah hb;have hi:=HI.out.keep hb;have x0:=hi.c0;have x1:=hi.c1;have x2:=hi.c2
  by_cases hlk:k<r
  ·obtain⟨b,off,rfl,hbl,hc⟩:=(HL.out.below hb) (by omega);obtain⟨Di,ci,x3,-,hE⟩:=hc k hlk;have hcan:=HC.out k hlk
   have hlen:(A k).length<=16384:=by
    have:=mX (a:=0) (b:=n) hcan.jF (fun p hp=>⟨aF _,hcan.lt p hp⟩) (aF n);omega
   have hv6:=Jc (w:=wr.drew) (c:=ci) (hE.below (aq _ _).drew) hcan rfl hlen hK;obtain⟨li,XO⟩:=xeq ((A k).length);rw[XO]at x3 hv6;have dH:=ah (show∀w',Below wr.heap.size wr w'->w'.cell? ⟨Z0,1,none⟩=some (.int .i64 (n:Int))/\w'.cell? ⟨Z0,2,none⟩=some (.slice (some ⟨b,off,none⟩) r c)/\w'.cell? ⟨b,off+k,none⟩=some (.slice Di li ci)from fun w' h=>⟨bn h hi.lt x1,bn h hi.lt x2,bn h hbl x3⟩);have v0:(0:Int)<=(k:Int):=by omega
   have v1:(k:Int)<r:=by omega
   clear hi hbl hc hE hcan hlen XO hb;go_upto_region 6 with fail
   refine wp_region_held_drew (S:=(fun w'=>w'.cell? ⟨Z0,1,none⟩=some (.int .i64 (n:Int))/\w'.cell? ⟨Z0,2,none⟩=some (.slice (some ⟨b,off,none⟩) r c)/\w'.cell? ⟨b,off+k,none⟩=some (.slice Di li ci))) (by kernel_rfl) (dH.out _ (aq _ _).drew) (fun aU=>?_);refine tq 0 aU ?_;refine tq 1 aU ?_;refine tq 2 aU ?_;refine tq 3 aU ?_;refine tq 4 aU ?_;refine tq 5 aU ?_;refine tq 6 aU ?_;refine tv 7 (fun κ hκ=>?_);go_simp;go_at_call 27;refine hv6.mono ?_;rintro ret w9 ⟨rfl,g9⟩;have kS:=(aq wr.heap.size wr).drew.trans g9;clear hv6;go_wp2_with fail
   refine hκ.out _ _ ?_ (fun aU=>?_)
   ·exact dH.out _ kS
   clear hκ κ;refine tu ?_;refine tq 8 aU ?_;refine td ?_ _;have HR:=ah kS;clear aU kS g9;go_wp2_with fail
   go_roundw
   case rel=>exact⟨k+1,by omega,by go_num,rB.out.trans (HR.out.mono rB.out.size)⟩
   case measure=>simp[intOf];omega
  ·obtain rfl:r=k:=by omega
   clear hi hb;have HF:=ah (HB.out.trans (rB.out.mono HB.out.size));go_wp2_with fail
   go_ret;exact⟨rfl,HF.out⟩
theorem QA{m:Nat}{l:List (Nat×Rat)}(h:Can m l)(h0:∀j,j<m->gv l j=0):l=[]:=by
 cases l with
 |nil=>rfl
 |cons p l=>
  have h1:=h0 p.1 (h.lt p (by simp))
  have h2:gv l p.1=0:=iU fun q hq e=>by
   obtain⟨i,hi⟩:=aJ hq;have:=h.jF 0 (i+1) p q (by omega) rfl (by simpa using hi);omega
  have h3:gv (p::l) p.1=p.2:=by
   show(if p.1=p.1 then p.2 else 0)+gv l p.1=_
   rw[if_pos rfl,h2];grind
  exact absurd (h3.symm.trans h1) (h.ne p (by simp))
theorem Je{N m b:Nat}{l:List Bq}{s:Nat->Nat}{Tr Sh:Nat->List (Nat×Rat)}(hlm:l.length=m)(hv:NV N l)(hs:Gd.J2 N (pO l) s)(hT:Gd.Transfer N (pO l) s (fun k j=>gv (Tr k) j))(hb:b<m)
 (hφ:∃φ:Nat->Rat,(∀k,k<m->k≠b->φ (qQ l k).1=φ (qQ l k).2)/\φ (qQ l b).1≠φ (qQ l b).2) (hc:Can m (Sh b)) (hg:∀j,j<m->gv (Sh b) j=qC l (gv (Tr b)) b j):Sh b=[]:=by
 have hB:Gd.Bridge (pO l) b:=by
  obtain⟨φ,h1,h2⟩:=hφ;refine⟨φ,fun k d hd hk=>?_,?_⟩
  ·unfold pO at hd;rw[List.getElem?_map]at hd
   cases hq:l[k]? with
   |none=>rw[hq]at hd;cases hd
   |some q=>
    rw[hq]at hd;injection hd with hd;subst hd
    have:=h1 k (by rw[<-hlm];exact(aC.1 hq).1) hk;rw[rE hq]at this;exact this
  ·obtain⟨q,hq⟩:∃q,l[b]?=some q:=⟨l[b]'(by omega),aB _⟩;rw[rE hq]at h2;exact⟨⟨q.f,q.t,q.s⟩,by unfold pO;rw[List.getElem?_map,hq];rfl,h2⟩
 refine QA hc fun j hj=>?_;rw[hg j hj];obtain⟨q,hq⟩:∃q,l[j]?=some q:=⟨l[j]'(by omega),aB _⟩;have h:=Gd.Ek (zF hv) hs hT hB (k:=j) (d:=⟨q.f,q.t,q.s⟩) (by unfold pO;rw[List.getElem?_map,hq];rfl);unfold qC;rw[hq];exact h
def BG(w:World)(lo:Nat)(M0:Nat->Prop)(v:Value)(l:List Bq)(K:Nat):Prop:=
 ∃xs,w.ownsRow lo 47 8 v l.length xs/\I9 w (fun k=>M0 k∨v.ownBlock=some k) l xs K
section
variable {w w':World}{P M0:Nat->Prop}{l:List Bq}{xs:List Value}{K lo:Nat}{v:Value}
theorem BG.below(h:BG w lo M0 v l K)(hb:Below w.heap.size w w'):BG w' lo M0 v l K:=by
 obtain⟨xs,h1,h2⟩:=h;exact⟨xs,bL h1 (bw.of (P:=fun _=>False) hb) (fun _ _ h=>h),h2.below hb⟩
theorem BG.bJ(h:BG w lo M0 v l K)(hc:bw P w w')(hp:∀k,P k->k<lo/\M0 k):BG w' lo M0 v l K:=by
 obtain⟨xs,h1,h2⟩:=h;exact⟨xs,bL h1 hc (fun k hk hpk=>by have:=(h1.lt k hk).1;have:=(hp k hpk).1;omega),h2.step (fun _ h=> .inl h) hc (fun k hk=> .inl (hp k hk).2)⟩
theorem BG.nil(w:World)(lo K:Nat)(M0:Nat->Prop):BG w lo M0 (.slice none 0 0) [] K:=⟨[],World.ownsRow_nil _ _ _ _,fun i p hp=>by simp at hp⟩
theorem BG.bl(h:BG w lo M0 v l K):∃D c,v= .slice D l.length c/\BL w D l K:=by
 obtain⟨xs,h,hx⟩:=h;have hcl:=fun g=> @World.ownsRow.cells _ _ _ _ _ _ _ h g;obtain⟨h1,⟨rfl,h0⟩|⟨g,cap,cur,rfl,hb,hh,hc,hm,_⟩⟩:=h
 ·exact⟨none,0,by rw[h0],fun h=>by omega⟩
 ·have hlt:=(au.1 hh).1;refine⟨some ⟨g,0,none⟩,cap,rfl,fun _=>⟨g,0,rfl,hlt,fun i q hq=>?_⟩⟩;obtain⟨x1,x2,x3,y1,y2,y3,k1,k2,k3⟩:=hx i q hq;have a:=fun j (hj:j<8) v (e:(b8 q x1 x2 x3 y1 y2 y3)[j]?=some v)=>hcl g rfl (i*8+j) v ((k1 j hj).trans e);simp only[ow]at a;rw[Nat.zero_add];exact⟨⟨a 0 (by decide) _ rfl,a 1 (by decide) _ rfl⟩,x1,x2,x3,y1,y2,y3,⟨a 2 (by decide) _ rfl,a 3 (by decide) _ rfl,a 4 (by decide) _ rfl⟩,⟨a 5 (by decide) _ rfl,a 6 (by decide) _ rfl,a 7 (by decide) _ rfl⟩,k2.1,k3.1⟩
theorem BG.push{g cap:Nat}{q:Bq}{x1 x2 x3 y1 y2 y3:Value}(h:I9 w (fun k=>M0 k∨v.ownBlock=some k) l xs K)(hx:xs.length=l.length*8)(h1:RO w (fun k=>M0 k∨v.ownBlock=some k) x1 x2 x3 q.s K)(h2:RO w (fun k=>M0 k∨v.ownBlock=some k) y1 y2 y3 q.h K)
 (ho:w'.ownsRow lo 47 8 (.slice (some ⟨g,0,none⟩) (l.length+1) cap) (l.length+1) (xs++b8 q x1 x2 x3 y1 y2 y3)) (hg:w.grownBy w' v.ownBlock) (iX:v.ownBlock=some g∨g=w.heap.size):BG w' lo M0 (.slice (some ⟨g,0,none⟩) (l.length+1) cap) (l++ [q]) K:=by
 refine⟨_,by rw[List.length_append];exact ho,(h.snoc hx h1 h2).step (fun k hk=>?_) (bw.grown hg) (fun k hk=> .inr hk.symm)⟩;rcases hk with hk|hk
 ·exact .inl (.inl hk)
 ·injection hk with hk
  subst hk;rcases iX with e|e
  ·exact .inl (.inr e)
  ·exact .inr (Nat.le_of_eq e.symm)
end
def MX(q:Bq):Bq:=⟨q.f,q.t,q.s,0⟩
theorem MZ{l:List Bq}{k:Nat}{q:Bq}(h:l[k]?=some q):(l.take (k+1)).map MX=(l.take k).map MX++ [⟨q.f,q.t,q.s,0⟩]:=by
 rw[List.take_add_one,h];simp[MX]
theorem NV.MX{N:Nat}{l:List Bq}(h:NV N l):NV N (l.map MX):=fun q hq=>by
 obtain⟨p,hp,rfl⟩:=List.mem_map.1 hq;exact h p hp
theorem acu{l:List Bq}:∀q∈l.map MX,q.h=0:=fun q hq=>by
 obtain⟨p,hp,rfl⟩:=List.mem_map.1 hq
 rfl
theorem Cj{w:World}{D:Option Addr}{n c:Nat}{F:Nat->Int}{kk:Int}(hcl:CL w D n F)(hn:n<=140737488355328):
 Calls Tryz.prog 3 #[.slice D n c, .int .i64 kk] w (fun e w'=>e= .returned (.bool true)/\Below w.heap.size w w'):=by
 have acv:=Ja (c:=c) hcl hn;clear hcl;go_enter Tryz.func3,Tryz.ntmps3
 go_wp2_with fail
 refine acv.mono ?_;rintro e w1 ⟨N,Dn,cn,l,rfl,⟨oy,hN⟩,hm9,hbl,yc,g1⟩;clear acv;obtain⟨m,em⟩:=xeq l.length;obtain⟨w2,hw2,b2,h2⟩:∃w2,w1.alloc (.cells #[.int .i64 (N:Int), .slice Dn l.length cn] 25)=w2/\Below w1.heap.size w1 w2/\w2.heap[w1.heap.size]?=some (.cells #[.int .i64 (N:Int), .slice Dn l.length cn] 25 (0,0)):=⟨_,rfl,bI _ _,aS w1 _⟩;obtain⟨Z0,iC⟩:=xeq w1.heap.size;rw[iC,em]at h2;rw[em]at hw2 hm9;have x0:w2.cell? ⟨Z0,0,none⟩=some (.int .i64 (N:Int)):=aT w2 Z0 0 _ _ (0,0) h2;have x1:w2.cell? ⟨Z0,1,none⟩=some (.slice Dn m cn):=aT w2 Z0 1 _ _ (0,0) h2;have hZ:Z0<w2.heap.size:=(au.1 h2).1;have dH:=ah (show∀w',Below w2.heap.size w2 w'->w'.cell? ⟨Z0,0,none⟩=some (.int .i64 (N:Int))/\w'.cell? ⟨Z0,1,none⟩=some (.slice Dn m cn)from fun w' h=>⟨bn h hZ x0,bn h hZ x1⟩);have JA:=hbl.below b2;have M4:=Qz (w:=w2.drew) (N:=N) (c:=cn) (by omega) (JA.below (aq _ _).drew) em;have HBL:=ah (ai JA (g1.trans (b2.mono g1.size)));have HV:=ah yc;have HM:=ah em;have HW2:=ah (ai hw2 iC);clear hbl yc g1 b2 h2 hw2 iC JA
 try rw[em]
 clear em;go_upto_region 2 with fail
 rw[HW2.out.1];(try rw[HW2.out.2]);refine wp_region_held_drew (S:=(fun w'=>w'.cell? ⟨Z0,0,none⟩=some (.int .i64 (N:Int))/\w'.cell? ⟨Z0,1,none⟩=some (.slice Dn m cn))) (by kernel_rfl) (dH.out _ (aq _ _).drew) (fun aU=>?_);refine tq 0 aU ?_;refine tq 1 aU ?_;refine tq 2 aU ?_;refine tv 3 (fun κ hκ=>?_);go_simp;go_at_call 6;refine M4.mono ?_;rintro ret w3 ⟨D3,c3,rfl,hpl,g3⟩;have fq:=(aq w2.heap.size w2).drew.trans g3;have hbr:=Hr (n:=N) (c:=c3) (by omega) (by omega) hpl (HV.out.qQ HM.out);have SD:=ah fq;clear M4 hpl g3;go_wp2_with fail
 refine hκ.out _ _ ?_ (fun aU=>?_)
 ·exact dH.out _ fq
 clear hκ κ;refine tu ?_;refine tv 4 (fun κ hκ=>?_);go_simp;go_at_call 5;refine hbr.mono ?_;rintro ret w4 ⟨D4,r,cr,x,rfl,Tq,hil,kY,g4⟩;have hb4:=SD.out.trans (g4.mono SD.out.size);clear hbr;go_wp2_with fail
 refine hκ.out _ _ ?_ (fun aU=>?_)
 ·exact dH.out _ hb4
 clear hκ κ;refine tu ?_;refine tq 5 aU ?_;refine tq 6 aU ?_;refine tq 7 aU ?_;refine tq 8 aU ?_;refine tq 9 aU ?_;refine td ?_ _;have F3:=amt (w:=w4) (c:=cn) hN hm9 (HBL.out.1.below hb4) HM.out HV.out;have HBR:=ah (ai hil (ai kY (ai Tq hb4)));clear x0 x1 aU hil kY hb4 g4 SD fq;obtain⟨x0,x1⟩:=dH.out _ HBR.out.2.2.2;go_wp2_with fail
 refine F3.mono ?_;rintro ret w5 ⟨gs,gT,gS,Tr,Sh,rfl,hml,hsh,htr,g5⟩;clear F3 x0 x1;obtain⟨w6,iB,b6,h6⟩:∃w6,w5.alloc (.cells #[.slice (some ⟨gs,0,none⟩) N N, .int .i64 (m:Int), .int .i64 (N:Int), .slice (some ⟨gT,0,none⟩) m m, .int .i64 (m:Int), .int .i64 (m:Int), .slice (some ⟨gS,0,none⟩) m m] 36)=w6/\Below w5.heap.size w5 w6/\w6.heap[w5.heap.size]?=some (.cells #[.slice (some ⟨gs,0,none⟩) N N, .int .i64 (m:Int), .int .i64 (N:Int), .slice (some ⟨gT,0,none⟩) m m, .int .i64 (m:Int), .int .i64 (m:Int), .slice (some ⟨gS,0,none⟩) m m] 36 (0,0)):=⟨_,rfl,bI _ _,aS w5 _⟩;obtain⟨Zf,eZf⟩:=xeq w5.heap.size;rw[eZf]at h6;have eC:=HBR.out.2.2.2.trans ((g5.trans (b6.mono g5.size)).mono HBR.out.2.2.2.size);have hv7:=Jd (w:=w6) (n:=m) (c:=m) (hml.below b6) (fun i hi=>(hsh i hi).1) (by omega) (by omega) (by decide);obtain⟨⟨y0,y1,y2,y3,y4,y5,y6⟩,-⟩:=zX h6;obtain⟨x0,x1⟩:=dH.out _ eC;have Fq:=ah (ai (hml.below b6) (ai hsh (ai htr (ai (g5.trans (b6.mono g5.size)) eC))));have HC6:=ah (ai h6 (ai iB eZf));clear hml hsh htr g5 b6 h6 iB eZf eC;go_upto_region 4 with fail
 rw[HC6.out.2.1];(try rw[HC6.out.2.2]);go_wp2_with fail
 refine hv7.mono ?_;rintro ret w7 ⟨rfl,g7⟩;clear hv7 x0 x1 y0 y1 y2 y3 y4 y5 y6;have fW:=Fq.out.2.2.2.2.trans (g7.mono Fq.out.2.2.2.2.size);have h7:=(g7.block Zf (au.1 HC6.out.1).1).trans HC6.out.1;obtain⟨x0,x1⟩:=dH.out _ fW;obtain⟨⟨y0,y1,y2,y3,y4,y5,y6⟩,-⟩:=zX h7;have H7:=ah (ai fW (ai h7 g7));clear fW h7 g7;go_upto_region 7 with fail
 go_loopw [66] (fun t wr=>∃k:Nat,k<=r/\t= .int .i64 (k:Int)/\wr=w7) (fun t _=>r- (intOf t).toNat)
 case atStart=>exact⟨0,aF _,rfl,rfl⟩
 case round=>
  obtain⟨k,hk,rfl,hwr⟩:=hrel;subst hwr
  by_cases hlk:k<r
  ·have agb:=Fq.out.2.2.2.1.trans (H7.out.2.2.mono Fq.out.2.2.2.1.size);obtain⟨ib,io,rfl,am5,hic⟩:=(HBR.out.1.below agb) (by omega);have e0:=hic k hlk;obtain⟨hxm,hφ⟩:=HBR.out.2.1 k hlk;obtain⟨s,his,htr⟩:=Fq.out.2.2.1;have hnil:=Je HM.out HV.out his htr hxm hφ (Fq.out.2.1 _ hxm).1 (Fq.out.2.1 _ hxm).2;obtain⟨sb,sf,es,-,hsc⟩:=(Fq.out.1.below H7.out.2.2) (by omega);injection es with es
   injection es with es1 es2
   subst es1;subst es2;obtain⟨Di,ci,e1,-,-⟩:=hsc _ hxm;rw[hnil,Nat.zero_add]at e1;obtain⟨xk,PU⟩:=xeq (x k);rw[PU]at e0 e1 hxm;have u0:(0:Int)<=(k:Int):=by omega
   have u1:(k:Int)<r:=by omega
   have u2:¬(xk:Int)<0:=by omega
   have u3:¬(m:Int)<=(xk:Int):=by omega
   have u4:(0:Int)<=(xk:Int):=by omega
   have u5:(xk:Int)<m:=by omega
   clear agb am5 hic hφ his htr hnil hsc PU;go_wp2_with fail
   go_roundw
   case rel=>exact⟨k+1,by omega,by go_num,by first|rfl|trivial⟩
   case measure=>simp[intOf];omega
  ·obtain rfl:r=k:=by omega
   have u0:¬(r:Int)<r:=by omega
   obtain⟨wo,rfl⟩:∃wo,wo=wr:=⟨_,rfl⟩;have HLO:=ah (HBL.out.1.below H7.out.1);go_upto_region 13 with fail
   obtain⟨w8,Af,b8_,h8⟩:∃w8,wo.alloc (.cells #[.int .i64 (N:Int), .slice none 0 0] 25)=w8/\Below wo.heap.size wo w8/\w8.heap[wo.heap.size]?=some (.cells #[.int .i64 (N:Int), .slice none 0 0] 25 (0,0)):=⟨_,rfl,bI _ _,aS wo _⟩;obtain⟨Nz,eNz⟩:=xeq wo.heap.size;obtain⟨lo,sF⟩:=xeq w8.heap.size;rw[eNz]at h8;have Jb:Nz<lo:=by rw[<-sF];exact(au.1 h8).1
   have hZN:Z0<Nz:=by rw[<-eNz];exact aG wo _ x0
   obtain⟨x2,x3⟩:=dH.out _ (H7.out.1.trans (b8_.mono H7.out.1.size));have H8:=ah (ai h8 (ai (show Below Nz wo w8 from by rw[<-eNz];exact b8_) (ai (Nat.le_of_eq sF.symm) eNz)));have HW8:=ah Af;clear h8 b8_ Af sF eNz u0 x0 x1;rw[HW8.out];(try rw[H8.out.2.2.2]);go_wp2_with fail
   clear x2 x3
   go_loopw [96] (fun t wx=>∃(k:Nat) (v:Value),k<=m/\t= .int .i64 (k:Int)/\wx.heap[Nz]?=some (.cells #[.int .i64 (N:Int),v] 25 (0,0))/\BG wx lo (·=Nz) v ((l.take k).map MX) 1/\Below Nz wo wx/\lo<=wx.heap.size) (fun t _=>m- (intOf t).toNat)
   case atStart=>exact⟨0,_,aF _,rfl,H8.out.1,BG.nil _ _ _ _,H8.out.2.1,H8.out.2.2.1⟩
   case round=>
    obtain⟨k,v,hk,rfl,Im,hbg,hb,hlo⟩:=hrel
    by_cases hlk:k<m
    ·obtain⟨q,hq⟩:∃q,l[k]?=some q:=⟨l[k]'(by rw[HM.out];exact hlk),aB _⟩;obtain⟨bb,bo,rfl,hbl,⟨e0,e1⟩,p1,p2,p3,y1,y2,y3,⟨e2,e3,e4⟩,⟨e5,e6,e7⟩,hr1,iW⟩:=HLO.out.nth hq;obtain⟨s0,s1,s2⟩:=hr1.st;obtain⟨s3,s4,s5⟩:=iW.st;obtain⟨c0,c1,c2⟩:=hr1.cl;have Jf:Nz<wr.heap.size:=(au.1 Im).1;have ku:Below wo.heap.size wo wr:=by rw[H8.out.2.2.2];exact hb
     have QB:bb<wo.heap.size:=hbl;replace e0:=bn ku QB e0;replace e1:=bn ku QB e1;replace e2:=bn ku QB e2;replace e3:=bn ku QB e3;replace e4:=bn ku QB e4;replace e5:=bn ku QB e5;replace e6:=bn ku QB e6;replace e7:=bn ku QB e7;obtain⟨av1,av2⟩:=hr1.av;obtain⟨l1,el1⟩:=xeq ((l.take k).map MX);have hl1:l1.length=k:=by rw[<-el1,List.length_map,List.length_take,HM.out];omega
     have JT:=MZ hq;rw[el1]at JT hbg;obtain⟨qf,lE⟩:=xeq q.f;obtain⟨qt,lF⟩:=xeq q.t;obtain⟨qs,Ez⟩:=xeq q.s;rw[lE]at e0 JT;rw[lF]at e1 JT;rw[Ez]at hr1 JT;have u0:(0:Int)<=(k:Int):=by omega
     have u1:(k:Int)<m:=by omega
     obtain⟨Ne,fG⟩:=xeq wr.heap.size;obtain⟨wb,gh,gm,h5⟩:∃wb,wr.alloc (.cells #[.int .i64 (qf:Int), .int .i64 (qt:Int),p1,p2,p3,y1,y2,y3] 47)=wb/\Below wr.heap.size wr wb/\wb.heap[Ne]?=some (.cells #[.int .i64 (qf:Int), .int .i64 (qt:Int),p1,p2,p3,y1,y2,y3] 47 (0,0)):=⟨_,rfl,bI _ _,by rw[<-fG];exact aS wr _⟩;have hx:=Ga (w:=wb);have kO:Ne<wb.heap.size:=(au.1 h5).1;have lC:=ah (ai gh fG);have HR:=ah (ai hr1 (ai av1 (ai av2 (ai ku (ai gm h5)))));have HG:=ah (ai Im (ai hbg (ai hl1 JT)));clear hr1 iW av1 av2 ku gm h5 gh fG Im hbg hl1 JT hb hq lE lF Ez el1 hbl QB;go_upto_region 16 with fail
     rw[lC.out.1];(try rw[lC.out.2]);clear e0 e1 e2 e3 e4 e5 e6 e7 s3 s4 s5;go_wp2_with fail
     refine hx.mono ?_;rintro ret wC ⟨b3,QC,t3,rfl,o3,g3⟩;clear hx;obtain⟨hr1,av1,av2,ku,gm,h5⟩:=HR.out;obtain⟨Im,hbg,hl1,JT⟩:=HG.out;have hEC:=(g3.block Ne kO).trans h5;obtain⟨⟨x0,x1,x2,x3,x4,x5,x6,x7⟩,f0,f1,f2,f3,f4,f5,f6,f7⟩:=fQ hEC;obtain⟨s3,s4,s5⟩:=(o3.is (fk (aj 1))).st;obtain⟨c3,c4,c5_⟩:=o3.cl;have E4:=cG (i:=7) (v:=t3) (cG (i:=6) (v:=QC) (cG (i:=5) (v:=b3) hEC));simp only[List.setIfInBounds_toArray,List.set_cons_zero,List.set_cons_succ]at E4;have c10:bw (·=Ne) wC (((wC.setCell ⟨Ne,5,none⟩ b3).setCell ⟨Ne,6,none⟩ QC).setCell ⟨Ne,7,none⟩ t3):=((bw.set (P:=(·=Ne)) (p:=⟨Ne,5,none⟩) rfl _ _).trans (bw.set (P:=(·=Ne)) (p:=⟨Ne,6,none⟩) rfl _ _)).trans (bw.set (P:=(·=Ne)) (p:=⟨Ne,7,none⟩) rfl _ _);obtain⟨wD,RD⟩:=xeq (((wC.setCell ⟨Ne,5,none⟩ b3).setCell ⟨Ne,6,none⟩ QC).setCell ⟨Ne,7,none⟩ t3);rw[RD]at c10 E4;have ack:wr.heap.size<=Ne:=Nat.le_of_eq lC.out.2;have hrC:Below wr.heap.size wr wC:=gm.trans (g3.mono gm.size);have hrD:Below wr.heap.size wr wD:=hrC.trans (c10.below hrC.size (fun k hk e=>by omega));have ba:=bI wD (.cells #[.int .i64 (qf:Int), .int .i64 (qt:Int),p1,p2,p3,b3,QC,t3] 47);have h6:(wD.alloc (.cells #[.int .i64 (qf:Int), .int .i64 (qt:Int),p1,p2,p3,b3,QC,t3] 47)).heap[wD.heap.size]?=some (.cells #[.int .i64 (qf:Int), .int .i64 (qt:Int),p1,p2,p3,b3,QC,t3] 47 (0,0)):=aS wD _;obtain⟨wa,iP⟩:=xeq (wD.alloc (.cells #[.int .i64 (qf:Int), .int .i64 (qt:Int),p1,p2,p3,b3,QC,t3] 47));rw[iP]at ba h6;have IG:Below wr.heap.size wr wa:=hrD.trans (ba.mono hrD.size);have am9:=hbg.below IG;have acz:wD.heap[Nz]?=some (.cells #[.int .i64 (N:Int),v] 25 (0,0)):=(hrD.block Nz Jf).trans Im;have VW:wa.heap[Nz]?=some (.cells #[.int .i64 (N:Int),v] 25 (0,0)):=(IG.block Nz Jf).trans Im
     have KA:∀x,v.ownBlock=some x->lo<=x/\x<wr.heap.size:=by
      obtain⟨xs0,ho0,-⟩:=id hbg;exact ho0.lt
     have ana:wo.heap.size=Nz:=H8.out.2.2.2;have anb:wo.heap.size<=wb.heap.size:=ay ku.size gm.size
     have VX:RO wa (fun k=>k=Nz∨v.ownBlock=some k) p1 p2 p3 qs 1:=by
      have hM:∀x,(x=Nz∨v.ownBlock=some x)->wo.heap.size<=x:=fun x hx=>hx.elim (fun e=>by omega) (fun h=>by have:=(KA x h).1;omega);exact⟨hr1.keep (ku.trans (IG.mono ku.size)),av1.mono hM,av2.mono hM⟩
     have E3:RO wa (fun k=>k=Nz∨v.ownBlock=some k) b3 QC t3 0 1:=by
      have h1:RO wC (fun k=>k<wb.heap.size) b3 QC t3 0 1:=o3.ro (fk (aj 1)) (fun k h=>h);have h2:=(h1.bJ c10 (fun k hk=>by have:=hk;omega)).bJ (P:=fun _=>False) (bw.of ba) (fun _ h=>h.elim);have hM:∀x,(x=Nz∨v.ownBlock=some x)->x<wb.heap.size:=fun x hx=>hx.elim (fun e=>by omega) (fun h=>by have:=(KA x h).2;have:=gm.size;omega);exact⟨h2.1,h2.2.1.mono hM,h2.2.2.mono hM⟩
     have hone:=MQ (q:=⟨qf,qt,qs,0⟩) VX.1 E3.1;obtain⟨xs,hown,MV⟩:=am9;obtain⟨⟨z0,z1,z2,z3,z4,z5,z6,z7⟩,-⟩:=fQ E4;obtain⟨D5,c5,rfl,-⟩:=hbg.bl;have n0:wD.cell? ⟨Nz,1,none⟩=some (.slice D5 l1.length c5):=aT wD Nz 1 _ _ (0,0) acz;have hPS:=ah (fun g cap w'=>BG.push (lo:=lo) (M0:=(·=Nz)) (w':=w') (g:=g) (cap:=cap) (q:=⟨qf,qt,qs,0⟩) MV hown.1 VX E3);have hla:lo<=wa.heap.size:=ay hlo IG.size;have HNA:=ah (ai VW (ai JT (ai hl1 (ai IG ku))));rw[hl1]at hown n0;have HOL:=ah hown.lt;have HWD:=ah RD;clear hr1 av1 av2 ku gm h5 Im hbg JT hEC E4 c10 RD ack hrC hrD ba IG acz VW KA VX E3 MV anb o3 g3
     try rw[hl1]
     clear hl1;go_upto_region 17 with fail
     rw[HWD.out];clear x0 x1 x2 x3 x4 x5 x6 x7 f0 f1 f2 f3 f4 f5 f6 f7
     go_wp2_with (first
      |(at_builtin;(try rw[iP]);refine SC (q:=⟨qf,qt,qs,0⟩) (v:= .slice D5 k c5) rfl (.tmp 103) (.tmp 105) rfl rfl hown rfl h6 hone (by omega) hla ?_;intro g7 bR w7 ew dR eO kR;have Rp:=(dR.block Nz (ak Jb hla) (fun hx=>by have:=(HOL.out _ hx.symm).1;omega)).trans HNA.out.1;have n1:w7.cell? ⟨Nz,1,none⟩=some (.slice D5 l1.length c5):=aT w7 Nz 1 _ _ (0,0) Rp;have n2:w7.frozen? ⟨Nz,1,none⟩=false:=by simp[World.frozen?,Rp]))
     have c7:bw (fun x=>some x=(Value.slice D5 k c5).ownBlock) wa w7:=bw.grown (v:= .slice D5 k c5) dR;have c8:bw (·=Nz) w7 (w7.setCell ⟨Nz,1,none⟩ (.slice (some ⟨g7,0,none⟩) (k+1) bR)):=bw.set (P:=(·=Nz)) (p:=⟨Nz,1,none⟩) rfl _ _;have hrow:=cG (i:=1) (v:= .slice (some ⟨g7,0,none⟩) (k+1) bR) Rp;simp only[List.setIfInBounds_toArray,List.set_cons_zero,List.set_cons_succ]at hrow;obtain⟨w9,WR⟩:=xeq (w7.setCell ⟨Nz,1,none⟩ (.slice (some ⟨g7,0,none⟩) (k+1) bR));rw[WR]at c8 hrow
     have HR:=ah (show w9.heap[Nz]?=some (.cells #[.int .i64 (N:Int), .slice (some ⟨g7,0,none⟩) (k+1) bR] 25 (0,0))/\BG w9 lo (·=Nz) (.slice (some ⟨g7,0,none⟩) (k+1) bR) ((l.take (k+1)).map MX) 1/\Below Nz wo w9/\lo<=w9.heap.size from by
      obtain⟨VW,JT,hl1,IG,ku⟩:=HNA.out;have J4:=hPS.out g7 bR w7 (by rw[hl1];exact ew) (by rw[hl1];exact dR) (by rw[hl1];exact eO);rw[hl1]at J4;rw[JT];refine⟨hrow,J4.bJ c8 (fun x hx=>⟨by omega,hx⟩),?_,ay hla (ay c7.size c8.size)⟩;rw[<-ana];exact((ku.trans (IG.mono ku.size)).trans (c7.below (by omega) (fun x hx h=>by have:=(HOL.out _ h.symm).1;omega))).trans (c8.below (by have:=c7.size;omega) (fun x hx h=>by omega)))
     have HW9:=ah WR;clear ew dR eO kR Rp n1 n2 c7 c8 hrow h6 hown hone iP n0 WR z0 z1 z2 z3 z4 z5 z6 z7 hPS;go_wp2_with fail
     go_roundw
     case rel=>exact⟨k+1,_,by omega,by go_num,by rw[HW9.out];exact HR.out⟩
     case measure=>simp[intOf];omega
    ·obtain rfl:m=k:=by omega
     rw[aI (by rw[HM.out];exact aj _)]at hbg;have hlm:(l.map MX).length=m:=by rw[List.length_map];exact HM.out
     obtain⟨D5,c5,hv5,agf⟩:=hbg.bl;rw[hlm]at hv5;subst hv5;have ku:Below wo.heap.size wo wr:=by rw[H8.out.2.2.2];exact hb
     have Jf:Nz<wr.heap.size:=(au.1 Im).1;have n0:wr.cell? ⟨Nz,0,none⟩=some (.int .i64 (N:Int)):=aT wr Nz 0 _ _ (0,0) Im;have n1:wr.cell? ⟨Nz,1,none⟩=some (.slice D5 m c5):=aT wr Nz 1 _ _ (0,0) Im;have HC:=ah (show∀w',Below wr.heap.size wr w'->w'.cell? ⟨Z0,0,none⟩=some (.int .i64 (N:Int))/\w'.cell? ⟨Nz,0,none⟩=some (.int .i64 (N:Int))/\w'.cell? ⟨Nz,1,none⟩=some (.slice D5 m c5)from fun w' h=>⟨(dH.out _ ((H7.out.1.trans (ku.mono H7.out.1.size)).trans (h.mono (ay H7.out.1.size ku.size)))).1,bn h Jf n0,bn h Jf n1⟩);have HE:=ah (ai agf (ai hlm ku));clear Im hbg hb agf hlm ku Jf n0 n1;go_upto_region 19 with fail
     refine wp_region_held_drew (S:=(fun w'=>w'.cell? ⟨Z0,0,none⟩=some (.int .i64 (N:Int))/\w'.cell? ⟨Nz,0,none⟩=some (.int .i64 (N:Int))/\w'.cell? ⟨Nz,1,none⟩=some (.slice D5 m c5))) (by kernel_rfl) (HC.out _ (aq _ _).drew) (fun aU=>?_);refine tq 0 aU ?_;refine tq 1 aU ?_;refine tq 2 aU ?_;refine tv 3 (fun κ hκ=>?_);have hmk:=mY (N:Int) N rfl (by omega) wr.drew;have xB:jA (wr.drew.alloc (.cells (dF N fun _=>Qc.z) 45)) wr.drew.heap.size N:=jA.new wr.drew N;have bm:=bI wr.drew (.cells (dF N fun _=>Qc.z) 45);obtain⟨GJ,hQ⟩:=xeq (dF N (fun _=>Qc.z));rw[hQ]at hmk xB bm;obtain⟨wm,hwm⟩:=xeq (wr.drew.alloc (.cells GJ 45));obtain⟨gz,Oc⟩:=xeq wr.drew.heap.size;rw[hwm]at hmk xB bm;rw[Oc]at hmk xB;have XH:Below wr.heap.size wr wm:=(aq wr.heap.size wr).drew.trans bm;have hfl:=MC (c:=c5) (ci:=N) oy hN hm9 (HE.out.1.below XH) HE.out.2.1 HV.out.MX acu xB.zl;have HBM:=ah XH;clear xB bm hQ hwm Oc;go_simp;clear hmk;refine hκ.out _ _ ?_ (fun aU=>?_)
     ·exact HC.out _ HBM.out
     clear hκ κ;refine tu ?_;refine tv 4 (fun κ hκ=>?_);go_simp;go_at_call 10;refine hfl.mono ?_;rintro ret w11 ⟨D6,c6,rfl,hzl,g11⟩;clear hfl;have jL:Below wr.heap.size wr w11:=HBM.out.trans (g11.mono HBM.out.size);have HZ:=ah (ai hzl jL);clear hzl g11;go_wp2_with fail
     refine hκ.out _ _ ?_ (fun aU=>?_)
     ·exact HC.out _ jL
     clear hκ κ;refine tu ?_;refine tq 5 aU ?_;refine tq 6 aU ?_;refine tq 7 aU ?_;refine tq 8 aU ?_;refine tq 9 aU ?_;refine td ?_ _;go_wp2_with fail
     go_loopw [119] (fun t wx=>∃k:Nat,k<=m/\t= .int .i64 (k:Int)/\Below w11.heap.size w11 wx) (fun t _=>m- (intOf t).toNat)
     case atStart=>exact⟨0,aF _,rfl,aq _ _⟩
     case round=>
      obtain⟨k,hk,rfl,hb⟩:=hrel
      by_cases hlk:k<m
      ·obtain⟨fb,fo,rfl,pQ,x,y,z,e0,e1,e2,hr⟩:=(HZ.out.1.below hb).nth hlk;obtain⟨s0,s1,s2⟩:=hr.st;obtain⟨wb,gh,b2,i2⟩:∃wb,wr.alloc (.cells #[x,y,z] 45)=wb/\Below wr.heap.size wr wb/\cK wb wr.heap.size x y z:=⟨_,rfl,bI _ _,cK.jJ wr 45 x y z⟩;have wk:=Be (w:=wb) (hr.keep b2) (by decide) (show fZ (0:Rat).num=0 from rfl);obtain⟨Ne,fG⟩:=xeq wr.heap.size;rw[fG]at i2;obtain⟨j0,j1,j2,j3,j4,j5⟩:=i2;have u0:(0:Int)<=(k:Int):=by omega
       have u1:(k:Int)<m:=by omega
       have lC:=ah (ai gh (ai fG (ai hb b2)));clear hr gh fG hb b2 pQ;go_upto_region 23 with fail
       rw[lC.out.1];(try rw[lC.out.2.1]);clear e0 e1 e2;go_wp2_with fail
       refine wk.mono ?_;rintro ret wc ⟨rfl,gc⟩;clear wk;have HR:=ah (show Below w11.heap.size w11 wc from lC.out.2.2.1.trans ((lC.out.2.2.2.trans (gc.mono lC.out.2.2.2.size)).mono lC.out.2.2.1.size));clear gc;go_wp2_with fail
       go_roundw
       case rel=>exact⟨k+1,by omega,by go_num,HR.out⟩
       case measure=>simp[intOf];omega
      ·obtain rfl:m=k:=by omega
       have hw1:=HE.out.2.2.trans (HZ.out.2.mono HE.out.2.2.size);have cF:Below wo.heap.size wo wr:=hw1.trans (hb.mono hw1.size);have b2w:Below w2.heap.size w2 wr:=H7.out.1.trans (cF.mono H7.out.1.size);have hZf:=(cF.block Zf (au.1 H7.out.2.1).1).trans H7.out.2.1;clear y0 y1 y2 y3 y4 y5 y6;obtain⟨⟨y0,y1,y2,y3,y4,y5,y6⟩,-⟩:=zX hZf;obtain⟨x0,x1⟩:=dH.out _ b2w;have HR:=ah (HBL.out.2.trans (b2w.mono HBL.out.2.size));have u0:¬(m:Int)<m:=by omega
       clear hw1 cF b2w hZf hb;go_wp2_with fail
       go_ret;exact⟨rfl,HR.out⟩
end Go.Proofs.YtkmpoleajjgfaaaGreat
