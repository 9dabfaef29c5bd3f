/- Parts of the proof, in order. -/
import Derived.Test.YtkmpoleajjgfaaaGreatQ4
namespace Go.Proofs.YtkmpoleajjgfaaaGreat
open Go.RowKit Gm
set_option maxHeartbeats 16000000
/- Contracts of package integer: sign, comparison. -/
def iv(neg:Bool)(xs:List Nat):Int:=if neg then -(val xs:Int)else(val xs:Int)
def bW(w:World)(n:Int)(e:Ending)(w':World):Prop:=
 ∃A c,e= .returned (.agg #[.bool (decide (n<0)), .slice A (limbs n.natAbs).length c])/\Own w.heap.size w' A c (limbs n.natAbs)/\Below w.heap.size w w'
def pF(w:World)(n:Int)(e:Ending)(w':World):Prop:=e= .returned (.int .i64 n)/\Below w.heap.size w w'
def fZ(n:Int):Int:=if n<0 then -1 else if 0<n then 1 else 0
def jN(m n:Int):Int:=if m<n then -1 else if n<m then 1 else 0
theorem jH(neg:Bool)(A:Option Addr)(n c:Nat)(w:World):
 Calls Tryz.prog 100 #[.bool neg, .slice A n c] w fun e w'=>e= .returned (.agg #[.bool (neg && decide (0<n)), .slice A n c])/\Below w.heap.size w w':=by
 cases neg
 ·go_enter Tryz.func100,Tryz.ntmps100
  go_wp2
  exact bodyPost_ret (v:= .agg #[.bool false, .slice A n c]) (by simp[results,Tryz.results100,go_sem]) rfl ⟨rfl,(aq _ _).alloc (aj _) _⟩
 ·by_cases h:0<n
  ·go_enter Tryz.func100,Tryz.ntmps100
   go_wp2
   exact bodyPost_ret (v:= .agg #[.bool true, .slice A n c]) (by simp[results,Tryz.results100,go_sem]) rfl ⟨by simp[h],(aq _ _).alloc (aj _) _⟩
  ·have h':¬(0:Int)< (n:Int):=by omega
   go_enter Tryz.func100,Tryz.ntmps100
   go_wp2
   all_goals exact bodyPost_ret (v:= .agg #[.bool false, .slice A n c]) (by simp[results,Tryz.results100,go_sem]) rfl ⟨by simp,(aq _ _).alloc (aj _) _⟩
theorem Dw(neg:Bool)(A:Option Addr)(xs:List Nat)(c:Nat)(w:World)(h:bQ w A c xs):
 Calls Tryz.prog 90 #[.agg #[.bool neg, .slice A xs.length c]] w (pF w (fZ (iv neg xs))):=by
 have hb1:Below w.heap.size w (w.alloc (.cells #[.bool neg, .slice A xs.length c] 43)):=(aq _ _).alloc (aj _) _
 have hs:fZ (iv neg xs)=if val xs=0 then 0 else if neg then -1 else 1:=by
  unfold fZ iv
  cases neg<;>simp<;>(split<;>(try split)<;>(try split)<;>omega)
 have HS:=ah hs;clear hs;have Ac:val ([]:List Nat)=0:=rfl;rcases aM (val xs)with h0|h0
 ·have ec:gq (val xs) (val [])=0:=jY (by rw[h0,Ac]);have EC:=ah ec;have H0:=ah h0;clear ec h0 Ac;go_enter Tryz.func90,Tryz.ntmps90
  go_wp2_with fail
  refine(dZ A none xs [] c 0 _ (h.below hb1) (bQ.nil _ _)).mono ?_;rintro e w' ⟨rfl,n,rfl⟩;rw[EC.out];go_wp2
  go_ret;exact⟨by rw[HS.out,if_pos H0.out];rfl,below_drewN hb1 n⟩
 ·have ec:gq (val xs) (val [])=1:=iE (by rw[Ac];exact h0);have EC:=ah ec;clear ec Ac
  cases neg
  ·go_enter Tryz.func90,Tryz.ntmps90
   go_wp2_with fail
   refine(dZ A none xs [] c 0 _ (h.below hb1) (bQ.nil _ _)).mono ?_;rintro e w' ⟨rfl,n,rfl⟩;rw[EC.out];go_wp2
   go_ret;exact⟨by rw[HS.out,if_neg (by omega)];rfl,below_drewN hb1 n⟩
  ·go_enter Tryz.func90,Tryz.ntmps90
   go_wp2_with fail
   refine(dZ A none xs [] c 0 _ (h.below hb1) (bQ.nil _ _)).mono ?_;rintro e w' ⟨rfl,n,rfl⟩;rw[EC.out];go_wp2
   go_ret;exact⟨by rw[HS.out,if_neg (by omega)];rfl,below_drewN hb1 n⟩
theorem H9(w:World)(p q:Bool)(u v:Value):
 ∃W,(w.alloc (.cells #[.bool p,u] 43)).alloc (.cells #[.bool q,v] 43)=W/\Below w.heap.size w W/\W.heap.size=w.heap.size+2/\
  W.cell? ⟨w.heap.size,0,none⟩=some (.bool p)/\W.cell? ⟨w.heap.size,1,none⟩=some u/\W.cell? ⟨w.heap.size+1,0,none⟩=some (.bool q)/\W.cell? ⟨w.heap.size+1,1,none⟩=some v:=
 ⟨_,rfl,((aq _ _).alloc (aj _) _).alloc (by simp) _,by simp,by simp,by simp,by simp,by simp⟩
theorem iA{B N:Nat}{W w1:World}{p q:Bool}{u v:Value}(hb:Below B W w1)(hB:N+2<=B)
 (h:W.cell? ⟨N,0,none⟩=some (.bool p)/\W.cell? ⟨N,1,none⟩=some u/\W.cell? ⟨N+1,0,none⟩=some (.bool q)/\W.cell? ⟨N+1,1,none⟩=some v):
 w1.cell? ⟨N,0,none⟩=some (.bool p)/\w1.cell? ⟨N,1,none⟩=some u/\w1.cell? ⟨N+1,0,none⟩=some (.bool q)/\w1.cell? ⟨N+1,1,none⟩=some v:=
 ⟨(hb.cell (p:=⟨N,0,none⟩) (by show N<B;omega)).trans h.1,(hb.cell (p:=⟨N,1,none⟩) (by show N<B;omega)).trans h.2.1,(hb.cell (p:=⟨N+1,0,none⟩) (by show N+1<B;omega)).trans h.2.2.1,(hb.cell (p:=⟨N+1,1,none⟩) (by show N+1<B;omega)).trans h.2.2.2⟩
theorem OP{m n:Int}(h:fZ m<fZ n):jN m n= -1:=by
 unfold fZ at h;unfold jN;split at h<;>split at h<;>(try split at h)<;>(try split at h)<;>(rw[if_pos (by omega)])
theorem OQ{m n:Int}(h:fZ n<fZ m):jN m n=1:=by
 unfold fZ at h;unfold jN;split at h<;>split at h<;>(try split at h)<;>(try split at h)<;>(rw[if_neg (by omega),if_pos (by omega)])
theorem KU{p q:Bool}{xs ys:List Nat}(h:fZ (iv p xs)=fZ (iv q ys))(h0:fZ (iv p xs)<0):jN (iv p xs) (iv q ys)=gq (val ys) (val xs):=by
 unfold fZ iv at*;unfold jN gq
 cases p<;>cases q<;>simp at* <;>(repeat' split at h)<;>(repeat' split at h0)<;>(repeat' split)<;>omega
theorem KV{p q:Bool}{xs ys:List Nat}(h:fZ (iv p xs)=fZ (iv q ys))(h0:¬fZ (iv p xs)<0):jN (iv p xs) (iv q ys)=gq (val xs) (val ys):=by
 unfold fZ iv at*;unfold jN gq
 cases p<;>cases q<;>simp at* <;>(repeat' split at h)<;>(repeat' split at h0)<;>(repeat' split)<;>omega
theorem Dy(p q:Bool)(A B:Option Addr)(xs ys:List Nat)(c d:Nat)(w:World)(ha:bQ w A c xs)(hb:bQ w B d ys):
 Calls Tryz.prog 165 #[.agg #[.bool p, .slice A xs.length c], .agg #[.bool q, .slice B ys.length d]] w (pF w (jN (iv p xs) (iv q ys))):=by
 go_enter Tryz.func165,Tryz.ntmps165
 go_wp2_with fail
 obtain⟨W,hW,bC,hsz,k1,k2,k3,k4⟩:=H9 w p q (.slice A xs.length c) (.slice B ys.length d);rw[hW];clear hW;have HSZ:=ah hsz;have hz:w.heap.size+2<=W.heap.size:=by omega
 clear hsz
 go_region_held3 (fun w'=>w'.cell? ⟨w.heap.size,0,none⟩=some (.bool p)/\w'.cell? ⟨w.heap.size,1,none⟩=some (.slice A xs.length c)/\w'.cell? ⟨w.heap.size+1,0,none⟩=some (.bool q)/\w'.cell? ⟨w.heap.size+1,1,none⟩=some (.slice B ys.length d))
  (first|go_keep|exact l1|exact l2)
  (first
    |(go_at_call_of 90 (Value.slice A xs.length c);refine(Dw p A xs c _ ?_).mono ?_;exact ha.below (below_drewN bC 1);rintro e w1 ⟨rfl,dM⟩;have l1:=iA dM hz ⟨k1,k2,k3,k4⟩)
    |(go_at_call_of 90 (Value.slice B ys.length d);refine(Dw q B ys d _ ?_).mono ?_;exact(hb.below (below_drewN bC 1)).below dM;rintro e w2 ⟨rfl,fT⟩;have l2:=iA fT (ay hz dM.size) l1))
 have Js:Below w.heap.size w w2:=((below_drewN bC 1).trans (dM.mono (show w.heap.size<=W.heap.size by omega))).trans (fT.mono (ay (show w.heap.size<=W.heap.size by omega) dM.size));replace ha:=ha.below Js;replace hb:=hb.below Js;obtain⟨f1,f2,f3,f4⟩:=l2;have T1:=ah (@OP (iv p xs) (iv q ys));have T2:=ah (@OQ (iv p xs) (iv q ys));have T3:=ah (@KU p q xs ys);have T4:=ah (@KV p q xs ys);clear l1 dM fT k1 k2 k3 k4 bC hz HSZ;rename_i aU
 clear aU;generalize fZ (iv p xs)=s at*;generalize fZ (iv q ys)=t at*;rcases Int.lt_trichotomy s t with h|h|h
 ·go_wp2
  go_ret;exact⟨by rw[T1.out h];rfl,Js⟩
 ·by_cases h0:s<0
  ·have T5:=ah (T3.out h h0);subst h;go_wp2_with fail
   refine(dZ B A ys xs d c w2 hb ha).mono ?_;rintro e w' ⟨rfl,n,rfl⟩;rw[<-T5.out];go_wp2
   go_ret;exact⟨rfl,below_drewN Js n⟩
  ·have T5:=ah (T4.out h h0);subst h;go_wp2_with fail
   refine(dZ A B xs ys c d w2 ha hb).mono ?_;rintro e w' ⟨rfl,n,rfl⟩;rw[<-T5.out];go_wp2
   go_ret;exact⟨rfl,below_drewN Js n⟩
 ·have h':¬s<t:=by omega
  go_wp2
  go_ret;exact⟨by rw[T2.out h];rfl,Js⟩
/- Contracts of package integer: sums and differences. -/
theorem fE(w:World)(p q:Bool)(u v:Value):
 ∃W,((w.alloc (.cells #[.bool p,u] 43)).alloc (.cells #[.bool q,v] 43)).alloc (.cells #[.bool false, .slice none 0 0] 43)=W/\Below w.heap.size w W/\W.heap.size=w.heap.size+3/\
  (W.cell? ⟨w.heap.size,0,none⟩=some (.bool p)/\W.cell? ⟨w.heap.size,1,none⟩=some u/\W.cell? ⟨w.heap.size+1,0,none⟩=some (.bool q)/\W.cell? ⟨w.heap.size+1,1,none⟩=some v)/\
  (W.cell? ⟨w.heap.size+1+1,0,none⟩=some (.bool false)/\W.cell? ⟨w.heap.size+1+1,1,none⟩=some (.slice none 0 0)/\W.frozen? ⟨w.heap.size+1+1,0,none⟩=false/\W.frozen? ⟨w.heap.size+1+1,1,none⟩=false):=by
 refine⟨_,rfl,(((aq _ _).alloc (aj _) _).alloc (by simp) _).alloc (by simp;omega) _,by simp,?_,?_⟩
 ·refine⟨?_,?_,?_,?_⟩<;>go_simp
 ·refine⟨?_,?_,?_,?_⟩<;>go_simp
theorem dO{B N:Nat}{W w1:World}{x y:Value}(hb:Below B W w1)(hB:N<B)
 (h:W.cell? ⟨N,0,none⟩=some x/\W.cell? ⟨N,1,none⟩=some y/\W.frozen? ⟨N,0,none⟩=false/\W.frozen? ⟨N,1,none⟩=false):
 w1.cell? ⟨N,0,none⟩=some x/\w1.cell? ⟨N,1,none⟩=some y/\w1.frozen? ⟨N,0,none⟩=false/\w1.frozen? ⟨N,1,none⟩=false:=
 ⟨(hb.cell (p:=⟨N,0,none⟩) hB).trans h.1,(hb.cell (p:=⟨N,1,none⟩) hB).trans h.2.1,(hb.frozen (p:=⟨N,0,none⟩) hB).trans h.2.2.1,(hb.frozen (p:=⟨N,1,none⟩) hB).trans h.2.2.2⟩
def dI(p:Bool)(m:Nat):Int:=if p then -(m:Int)else(m:Int)
theorem RJ(p:Bool)(xs:List Nat):iv p xs=dI p (val xs):=rfl
theorem eK(p:Bool)(m:Nat):(dI p m).natAbs=m:=by unfold dI;cases p<;>simp
theorem OT(p:Bool)(m:Nat):decide (dI p m<0)=(p && decide (0< (limbs m).length)):=by
 have h:0< (limbs m).length↔m≠0:=by
  constructor
  ·intro h h0;subst h0;rw[bM]at h;simp at h
  ·intro h;exact List.length_pos_iff.2 (fun e=>h (bV.1 e))
 unfold dI;rw[Bool.eq_iff_iff]
 cases p<;>simp<;>first|omega|(rw[<-List.length_pos_iff,h];omega)
theorem FP(p:Bool)(a b:Nat):dI p a+dI p b=dI p (a+b):=by unfold dI;cases p<;>simp<;>omega
theorem FQ(p:Bool){a b:Nat}(h:b<=a):dI p a+dI (!p) b=dI p (a-b):=by unfold dI;cases p<;>simp<;>omega
theorem AO(p:Bool){a b:Nat}(h:a<=b):dI p a+dI (!p) b=dI (!p) (b-a):=by unfold dI;cases p<;>simp<;>omega
theorem fM{w w':World}{p:Bool}{m:Nat}{n:Int}{A:Option Addr}{c:Nat}(h:n=dI p m)(ho:Own w.heap.size w' A c (limbs m))(hb:Below w.heap.size w w'):
 bW w n (.returned (.agg #[.bool (p && decide (0< (limbs m).length)), .slice A (limbs m).length c])) w':=by
 subst h;refine⟨A,c,?_,?_,hb⟩<;>rw[eK]
 ·rw[OT]
 ·exact ho
theorem bH{B N:Nat}{a w:World}(h:Below B a w)(hN:B<=N)(u v:Value):Below B a ((w.setCell ⟨N,0,none⟩ u).setCell ⟨N,1,none⟩ v):=
 (h.setCell (p:=⟨N,0,none⟩) hN u).setCell (p:=⟨N,1,none⟩) hN v
theorem Own.iL{lo N:Nat}{w:World}{A:Option Addr}{c:Nat}{xs:List Nat}(h:Own lo w A c xs)(hN:N<lo)(u v:Value):Own lo ((w.setCell ⟨N,0,none⟩ u).setCell ⟨N,1,none⟩ v) A c xs:=
 ⟨h.lb,h.cap,h.max,fun h0=>by
   obtain⟨b,off,e,hl,hlt,hc⟩:=h.cells h0;refine⟨b,off,e,hl,by simpa [World.setCell] using hlt,fun k hk=>?_⟩;have hne:b≠N:=by omega
   have f:((w.setCell ⟨N,0,none⟩ u).setCell ⟨N,1,none⟩ v).heap[b]?=w.heap[b]?:=(Below.heap_setCell _ ⟨N,1,none⟩ v b hne).trans (Below.heap_setCell w ⟨N,0,none⟩ u b hne);refine⟨(World.cell?_of_block (a:=⟨b,off+k,none⟩) f).trans (hc k hk).1,?_⟩;rw[<-(hc k hk).2];unfold World.frozen?;rw[show(Addr.mk b (off+k) none).block=b from rfl,f]⟩
theorem Ia(p:Bool)(A B:Option Addr)(xs ys:List Nat)(c d:Nat)(w:World)(ha:bQ w A c xs)(hb:bQ w B d ys)
 (hs:xs.length<70368744177664) (ht:ys.length<70368744177664):
 Calls Tryz.prog 62 #[.agg #[.bool p, .slice A xs.length c], .agg #[.bool p, .slice B ys.length d]] w (bW w (iv p xs+iv p ys)):=by
 have hpp:(p==p)=true:=by simp
 go_enter Tryz.func62,Tryz.ntmps62
 go_wp2_with fail
 obtain⟨W,hW,bC,hsz,k,kr⟩:=fE w p p (.slice A xs.length c) (.slice B ys.length d);rw[hW];clear hW;have hz:w.heap.size+3<=W.heap.size:=by omega
 clear hsz;obtain⟨k1,k2,k3,k4⟩:=k;go_wp2_with fail
 go_region_held3 (fun w'=>w'.cell? ⟨w.heap.size,0,none⟩=some (.bool p)/\w'.cell? ⟨w.heap.size,1,none⟩=some (.slice A xs.length c)/\w'.cell? ⟨w.heap.size+1,0,none⟩=some (.bool p)/\w'.cell? ⟨w.heap.size+1,1,none⟩=some (.slice B ys.length d))
  (first|exact l1|exact l2|exact iA (bH (aq (w.heap.size+1+1) w2) (aj _) _ _) (aj _) l2|go_keep)
  (first
    |(go_at_call 101;refine(YG A B xs ys c d _ ?_ ?_ hs ht).mono ?_;exact ha.below (below_drewN bC 1);exact hb.below (below_drewN bC 1);rintro e w1 ⟨A1,c1,rfl,r3,dM⟩;have l1:=iA dM (show w.heap.size+2<=W.heap.size by omega) ⟨k1,k2,k3,k4⟩)
    |(go_at_call 100;refine(jH p A1 _ c1 _).mono ?_;rintro e w2 ⟨rfl,fT⟩;have l2:=iA fT (ay (show w.heap.size+2<=W.heap.size by omega) dM.size) l1;obtain⟨m1,m2,m3,m4⟩:=dO (N:=w.heap.size+1+1) fT (ak (show w.heap.size+1+1<W.heap.size by omega) dM.size) (dO dM (show w.heap.size+1+1<W.heap.size by omega) kr)))
 have cF:Below w.heap.size w w2:=((below_drewN bC 1).trans (dM.mono (show w.heap.size<=W.heap.size by omega))).trans (fT.mono (ay (show w.heap.size<=W.heap.size by omega) dM.size));have hown:=((r3.below fT).iL (N:=w.heap.size+1+1) (show w.heap.size+1+1<W.heap.size by omega) (.bool (p && decide (0< (limbs (val xs+val ys)).length))) (.slice A1 (limbs (val xs+val ys)).length c1)).mono (show w.heap.size<=W.heap.size by omega);have cE:=fM (FP p (val xs) (val ys)) hown (bH cF (by omega) _ _);clear hown cF r3 dM fT bC kr l1 l2 k1 k2 k3 k4;go_wp2
 exact bodyPost_ret (v:= .agg #[.bool (p && decide (0< (limbs (val xs+val ys)).length)), .slice A1 (limbs (val xs+val ys)).length c1]) (by simp[results,Tryz.results62,go_sem,m1,m2]) rfl cE
theorem OU(p:Bool)(A B:Option Addr)(xs ys:List Nat)(c d:Nat)(w:World)(ha:bQ w A c xs)(hb:bQ w B d ys)(hs:xs.length<=70368744177664)(hge:val ys<=val xs):
 Calls Tryz.prog 62 #[.agg #[.bool p, .slice A xs.length c], .agg #[.bool (!p), .slice B ys.length d]] w (bW w (iv p xs+iv (!p) ys)):=by
 have hpp:(p==!p)=false:=by cases p<;>rfl
 go_enter Tryz.func62,Tryz.ntmps62
 go_wp2_with fail
 obtain⟨W,hW,bC,hsz,k,kr⟩:=fE w p (!p) (.slice A xs.length c) (.slice B ys.length d);rw[hW];clear hW;have hz:w.heap.size+3<=W.heap.size:=by omega
 clear hsz;obtain⟨k1,k2,k3,k4⟩:=k;go_wp2_with fail
 refine(C8 A B xs ys c d _ (ha.below bC) (hb.below bC) hs hge).mono ?_;rintro e w1 ⟨A1,c1,rfl,r3,dM⟩;obtain⟨l1,l2,l3,l4⟩:=iA dM (show w.heap.size+2<=W.heap.size by omega) ⟨k1,k2,k3,k4⟩;go_wp2_with fail
 refine(jH p A1 _ c1 _).mono ?_;rintro e w2 ⟨rfl,fT⟩;obtain⟨m1,m2,m3,m4⟩:=dO (N:=w.heap.size+1+1) fT (ak (show w.heap.size+1+1<W.heap.size by omega) dM.size) (dO dM (show w.heap.size+1+1<W.heap.size by omega) kr);have cF:Below w.heap.size w w2:=(bC.trans (dM.mono (show w.heap.size<=W.heap.size by omega))).trans (fT.mono (ay (show w.heap.size<=W.heap.size by omega) dM.size));have hown:=((r3.below fT).iL (N:=w.heap.size+1+1) (show w.heap.size+1+1<W.heap.size by omega) (.bool (p && decide (0< (limbs (val xs-val ys)).length))) (.slice A1 (limbs (val xs-val ys)).length c1)).mono (show w.heap.size<=W.heap.size by omega);have cE:=fM (FQ p hge) hown (bH cF (by omega) _ _);clear hown cF r3 dM fT bC kr l1 l2 l3 l4 k1 k2 k3 k4;go_wp2
 exact bodyPost_ret (v:= .agg #[.bool (p && decide (0< (limbs (val xs-val ys)).length)), .slice A1 (limbs (val xs-val ys)).length c1]) (by simp[results,Tryz.results62,go_sem,m1,m2]) rfl cE
theorem OV(p:Bool)(A B:Option Addr)(xs ys:List Nat)(c d:Nat)(w:World)(ha:bQ w A c xs)(hb:bQ w B d ys)(ht:ys.length<=70368744177664)(hlt:val xs<val ys):
 Calls Tryz.prog 62 #[.agg #[.bool p, .slice A xs.length c], .agg #[.bool (!p), .slice B ys.length d]] w (bW w (iv p xs+iv (!p) ys)):=by
 have hpp:(p==!p)=false:=by cases p<;>rfl
 go_enter Tryz.func62,Tryz.ntmps62
 go_wp2_with fail
 obtain⟨W,hW,bC,hsz,k,kr⟩:=fE w p (!p) (.slice A xs.length c) (.slice B ys.length d);rw[hW];clear hW;have hz:w.heap.size+3<=W.heap.size:=by omega
 clear hsz;obtain⟨k1,k2,k3,k4⟩:=k;go_wp2_with fail
 refine(Tk A B xs ys c d _ (ha.below bC) (hb.below bC) hlt).mono ?_;rintro e w' ⟨rfl,n,rfl⟩;go_wp2_with fail
 refine(C8 B A ys xs d c _ (hb.below (below_drewN bC n)) (ha.below (below_drewN bC n)) ht (aR hlt)).mono ?_;rintro e w1 ⟨A1,c1,rfl,r3,dM⟩;obtain⟨l1,l2,l3,l4⟩:=iA dM (show w.heap.size+2<=W.heap.size by omega) ⟨k1,k2,k3,k4⟩;go_wp2_with fail
 refine(jH (!p) A1 _ c1 _).mono ?_;rintro e w2 ⟨rfl,fT⟩;obtain⟨m1,m2,m3,m4⟩:=dO (N:=w.heap.size+1+1) fT (ak (show w.heap.size+1+1<W.heap.size by omega) dM.size) (dO dM (show w.heap.size+1+1<W.heap.size by omega) kr);have cF:Below w.heap.size w w2:=((below_drewN bC n).trans (dM.mono (show w.heap.size<=W.heap.size by omega))).trans (fT.mono (ay (show w.heap.size<=W.heap.size by omega) dM.size));have hown:=((r3.below fT).iL (N:=w.heap.size+1+1) (show w.heap.size+1+1<W.heap.size by omega) (.bool (!p && decide (0< (limbs (val ys-val xs)).length))) (.slice A1 (limbs (val ys-val xs)).length c1)).mono (show w.heap.size<=W.heap.size by omega);have cE:=fM (AO p (aR hlt)) hown (bH cF (by omega) _ _);clear hown cF r3 dM fT bC kr l1 l2 l3 l4 k1 k2 k3 k4;go_wp2
 exact bodyPost_ret (v:= .agg #[.bool (!p && decide (0< (limbs (val ys-val xs)).length)), .slice A1 (limbs (val ys-val xs)).length c1]) (by simp[results,Tryz.results62,go_sem,m1,m2]) rfl cE
theorem T7(p q:Bool)(A B:Option Addr)(xs ys:List Nat)(c d:Nat)(w:World)(ha:bQ w A c xs)(hb:bQ w B d ys)
 (hs:xs.length<70368744177664) (ht:ys.length<70368744177664):
 Calls Tryz.prog 62 #[.agg #[.bool p, .slice A xs.length c], .agg #[.bool q, .slice B ys.length d]] w (bW w (iv p xs+iv q ys)):=by
 by_cases h:p=q
 ·subst h;exact Ia p A B xs ys c d w ha hb hs ht
 ·obtain rfl:q=!p:=by cases p<;>cases q<;>simp_all
  rcases aN (val xs) (val ys)with hl|hl
  ·exact OV p A B xs ys c d w ha hb (by omega) hl
  ·exact OU p A B xs ys c d w ha hb (by omega) hl
theorem Dz(q:Bool)(ys:List Nat):iv (!q) ys= - iv q ys:=by unfold iv;cases q<;>simp
/- Contracts of the reference of layer 1: the canonical list, equality, numbers of 64 bits. -/
theorem DA{w1:World}{g c:Nat}{A:Option Addr}{xs:List Nat}(hx:bQ w1 A c xs)(hs:xs.length<=70368744177664)(ty:TypeId):
 ∃A' c' w2,(Builtin.append_ #[41,41] ty #[.slice (some ⟨g,0,none⟩) 0 0, .slice A xs.length c]).run Tryz.prog w1= .ok (.slice A' xs.length c') w2/\Own w1.heap.size w2 A' c' xs/\Below w1.heap.size w1 w2:=by
 obtain⟨i0,hi,hz0,hz1,hz2⟩:=info_parts Al;rcases aM xs.length with h0|h0
 ·obtain rfl:xs=[]:=List.eq_nil_of_length_eq_zero h0;refine⟨some ⟨g,0,none⟩,0,w1,?_,Own.nil _ _ _,aq _ _⟩
  cases A<;>simp[Builtin.append_,run_underlying Tryz.underlying41,sizeOf,typeInfo,hi,Builtin.lenOf,Builtin.firstCells,loadCells,loadCellsFrom,storeCells]
 ·obtain⟨ad,rfl,hsrc⟩:=pX hx h0
  have h:=run_append_grow (P:=Tryz.prog) w1 41 ty 75 i0 (.int .u32 0) Tryz.underlying41 hi hz0 ⟨g,0,none⟩ 0 0 [] (by simp) (by simp) ad xs.length c (xs.map fun x=>Value.int .u32 ((x:Nat):Int)) (by simp[hz1]) hsrc
   (by omega) (by omega) (by rw[Nat.zero_add,nextslicecap_zero h0,hz2];omega)
  rw[Nat.zero_add]at h;refine⟨_,_,_,h,?_,?_⟩
  ·have hge:=grownCap_ge w1 xs.length 0 75;refine⟨hx.lb,hge,grownCap_le_maxLen w1 xs.length 0 75 (by simp only[maxLen];omega),fun _=>⟨w1.heap.size,0,rfl,aj _,by simp,fun k hk=>⟨?_,?_⟩⟩⟩
   ·rw[Nat.zero_add];have hb:=aS w1.drew (.cells (([]:List Value).toArray++ (xs.map fun x=>Value.int .u32 ((x:Nat):Int)).toArray++Builtin.zeroCells (Value.int IntKind.u32 0).cells (grownCap w1 xs.length 0 75-xs.length)) 75);have e:=aT _ _ k _ _ _ hb;refine e.trans ?_;rw[Array.getElem?_append_left (by simp;exact hk)];simp[aB hk]
   ·have hb:=aS w1.drew (.cells (([]:List Value).toArray++ (xs.map fun x=>Value.int .u32 ((x:Nat):Int)).toArray++Builtin.zeroCells (Value.int IntKind.u32 0).cells (grownCap w1 xs.length 0 75-xs.length)) 75);unfold World.frozen?;rw[show(Addr.mk w1.heap.size (0+k) none).block=w1.drew.heap.size from rfl,hb];simp
  ·exact((aq _ _).drew).alloc (aj _) _
theorem ul{w:World}{ops:Array Oper}{rest:List Oper}{o:Oper}{a:Act}{Q:Exit->Act->World->Prop}(hgd:o.guard=none)(s x:Operand)
 (ho:o.op= .call {callee:= .builtin .append,args:=#[s,x],argTypes:=#[41,41]}) (g n c:Nat) (A:Option Addr) (xs:List Nat)
 (hs:a.eval s= .slice (some ⟨g,0,none⟩) 0 0) (hx:a.eval x= .slice A n c) (hn:xs.length=n) (hl:bQ w A c xs) (hm:xs.length<=70368744177664)
 (h:∀A' c' w2,Own w.heap.size w2 A' c' xs->Below w.heap.size w w2->wpList Tryz.prog ops Q rest (a.put o.dst (.slice A' n c')) w2):wpList Tryz.prog ops Q (o::rest) a w:=by
 subst hn;refine wpList_plain hgd fun K hK=>?_;obtain⟨A',c',w2,hrun,h1,h2⟩:=DA (g:=g) hl hm o.type;unfold Oper.wp execOp;simp only[ho,resolve,invoke,builtin,Sem.run_bind,Sem.run_pure,Result.andThen_ok,List.map_toArray,List.map_cons,List.map_nil,hs,hx,hrun];exact hK _ _ (h A' c' w2 h1 h2)
theorem fe(A:Option Addr)(xs:List Nat)(c:Nat)(w:World)(h:bQ w A c xs)(hs:xs.length<=70368744177664):
 Calls Tryz.prog 127 #[.slice A xs.length c] w (dW w (val xs)):=by
 have hc:=h.cap;have hm:=h.max;go_enter Tryz.func127,Tryz.ntmps127
 go_wp2
 go_loop [3] (fun t=>∃n:Nat,n<=xs.length/\t= .int .i64 n/\val (xs.drop n)=0) (fun t=>(intOf t).toNat)
 case atStart=>exact⟨xs.length,aj _,rfl,by simp[val]⟩
 case round=>
  obtain⟨n,hn,rfl,hv⟩:=hrel;have HV:=ah hv;clear hv;rcases aM n with rfl|hp
  ·have hl:(limbs (val xs)).length=0:=by rw[<-mK h.lb hn HV.out (.inl rfl)];simp
   have HL:=ah hl;clear hl;have hb0:Below w.heap.size w (w.alloc (.cells #[] 75)):=(aq _ _).alloc (aj _) _;have hl2:=h.cut.below hb0;have oN:(limbs (val xs)).length<=70368744177664:=by rw[HL.out];omega
   go_wp2_with (at_builtin;refine ul rfl (.tmp 18) (.tmp 21) rfl w.heap.size _ c A (limbs (val xs)) rfl rfl HL.out hl2 oN ?_;intro A' c' w2 hown bP)
   go_ret;exact⟨A',c',by rw[HL.out];rfl,hown.mono (by simp),hb0.trans (bP.mono (by simp))⟩
  ·obtain⟨m,rfl⟩:∃m,n=m+1:=⟨n-1,by omega⟩;have hLb:=h.lb;obtain⟨b,off,rfl,hb,hcell⟩:=h.at_ (by omega);have hx:=hcell m (by omega);clear hcell;obtain⟨x,ex⟩:=xeq (xs[m]?.getD 0);rw[ex]at hx;have EX:=ah ex;clear ex
   by_cases h0:x=0
   ·subst h0;clear h;go_wp2
    go_round
    case rel=>exact⟨m,by omega,by go_num,oU (by omega) HV.out EX.out⟩
    case measure=>simp[intOf]
   ·have hb0:((x:Int)==0)=false:=by simp;omega
    have hl:(limbs (val xs)).length=m+1:=by
     rw[<-mK hLb hn HV.out (.inr (by simp only[Nat.add_sub_cancel];rw[EX.out];exact h0))];simp;omega
    have HL:=ah hl;clear hl;have hb1:Below w.heap.size w (w.alloc (.cells #[] 75)):=(aq _ _).alloc (aj _) _;have hl2:=h.cut.below hb1;have oN:(limbs (val xs)).length<=70368744177664:=by rw[HL.out];omega
    clear h;go_wp2_with (at_builtin;refine ul rfl (.tmp 18) (.tmp 21) rfl w.heap.size _ c _ (limbs (val xs)) rfl rfl HL.out hl2 oN ?_;intro A' c' w2 hown bP)
    go_ret;exact⟨A',c',by rw[HL.out];rfl,hown.mono (by simp),hb1.trans (bP.mono (by simp))⟩
theorem KW{xs ys:List Nat}{k:Nat}(h:xs.take k=ys.take k)(hx:k<xs.length)(hy:k<ys.length)(he:xs[k]?.getD 0=ys[k]?.getD 0):xs.take (k+1)=ys.take (k+1):=by
 rw[List.take_succ_eq_append_getElem hx,List.take_succ_eq_append_getElem hy,h];rw[aB hx,aB hy]at he;have he':xs[k]=ys[k]:=by simpa using he
 rw[he']
def Zk(w:World)(b:Bool)(e:Ending)(w':World):Prop:=e= .returned (.bool b)/\Below w.heap.size w w'
theorem KX(A B:Option Addr)(xs ys:List Nat)(c d:Nat)(w:World)(ha:bQ w A c xs)(hb:bQ w B d ys)(hs:xs.length<=70368744177664)(ht:ys.length<=70368744177664):
 Calls Tryz.prog 104 #[.slice A xs.length c, .slice B ys.length d] w fun e w'=>e= .returned (.bool (decide (xs=ys)))/\∃n,w'=w.drewN n:=by
 go_enter Tryz.func104,Tryz.ntmps104
 by_cases hne:xs.length=ys.length
 ·have hb1:((xs.length:Int) !=(ys.length:Int))=false:=by simp[hne]
  have HN:=ah hne;clear hne;go_wp2_with fail
  go_loopw [5] (fun t wr=>∃k:Nat,k<=xs.length/\t= .int .i64 (k:Int)/\xs.take k=ys.take k/\∃n,wr=w.drewN n) (fun t _=>xs.length- (intOf t).toNat)
  case atStart=>exact⟨0,aF _,rfl,by simp,0,rfl⟩
  case round=>
   obtain⟨k,hk,rfl,hv,n,rfl⟩:=hrel;have HV:=ah hv;clear hv
   by_cases hlt:k<xs.length
   ·have e2:=HN.out;have hm2:k<ys.length:=by omega
    clear e2;obtain⟨b1,o1,rfl,YD,hc1⟩:=ha.at_ (by omega);obtain⟨b2,o2,rfl,YE,hc2⟩:=hb.at_ (by omega);have hx:=hc1 k (by omega);have hy:=hc2 k (by omega);clear hc1 hc2 ha hb;obtain⟨x,ex⟩:=xeq (xs[k]?.getD 0);obtain⟨y,ey⟩:=xeq (ys[k]?.getD 0);rw[ex]at hx;rw[ey]at hy;have EX:=ah ex;have EY:=ah ey;clear ex ey;have i0:(0:Int)<=(k:Int):=by omega
    have i1:(k:Int)<xs.length:=by omega
    have i2:(k:Int)<ys.length:=by omega
    by_cases hxy:x=y
    ·subst hxy;go_wp2
     go_quiet (fail)
     go_wp2
     go_roundw
     case rel=>exact⟨k+1,by omega,by go_num,KW HV.out hlt hm2 (by rw[EX.out,EY.out]),_,rfl⟩
     case measure=>simp[intOf];omega
    ·have vW:((x:Int) !=(y:Int))=true:=by simp;omega
     go_wp2
     go_quiet (fail)
     go_wp2
     go_ret;refine⟨?_,_,World.drewN_drewN _ _ _⟩;have:xs≠ys:=by rintro rfl;exact hxy (EX.out.symm.trans EY.out)
     simp[this]
   ·have hk2:¬((k:Int)< (xs.length:Int)):=by omega
    go_wp2
    go_ret;refine⟨?_,n,rfl⟩
    have:xs=ys:=by
     have e1:=HV.out;rw[aI (by omega),aI (by rw[<-HN.out];omega)]at e1;exact e1
    simp[this]
 ·have hb1:((xs.length:Int) !=(ys.length:Int))=true:=by simp;omega
  go_wp2_with fail
  go_ret;refine⟨?_,0,rfl⟩;have:xs≠ys:=by rintro rfl;exact hne rfl
  simp[this]
theorem jC(v:Nat)(w:World)(hv:v<Ba*Ba):
 Calls Tryz.prog 108 #[.int .u64 (v:Int)] w (dW w v):=by
 have h1:(v:Int)<18446744073709551616:=by have:Ba*Ba=18446744073709551616:=by decide
                                          omega
 go_enter Tryz.func108,Tryz.ntmps108
 go_wp2_with fail
 have hr:Row (w.alloc (.cells #[.int .u32 ((v:Int) % 4294967296), .int .u32 ((v:Int)/4294967296)] 75)) w.heap.size [v % Ba,v/Ba]:=Row.new w [v % Ba,v/Ba];have hb:Below w.heap.size w (w.alloc (.cells #[.int .u32 ((v:Int) % 4294967296), .int .u32 ((v:Int)/4294967296)] 75)):=(aq _ _).alloc (aj _) _;refine(fe _ [v % Ba,v/Ba] 2 _ (hr.own (Kp hv) (aj _) (by simp)).lim (by simp)).mono ?_;rintro e w' ⟨A',c',rfl,r3,r4⟩;rw[val_two]at r3⊢;go_wp2
 go_ret;exact⟨A',c',rfl,r3.mono (by simp),hb.trans (r4.mono (by simp))⟩
/- Contracts of the reference of layer 2: canonical integers, equality, numbers of the language. -/
theorem sQ(w:World)(u v:Value):
 ∃W,w.alloc (.cells #[u,v] 43)=W/\Below w.heap.size w W/\W.heap.size=w.heap.size+1/\
  (W.cell? ⟨w.heap.size,0,none⟩=some u/\W.cell? ⟨w.heap.size,1,none⟩=some v/\W.frozen? ⟨w.heap.size,0,none⟩=false/\W.frozen? ⟨w.heap.size,1,none⟩=false):=by
 refine⟨_,rfl,(aq _ _).alloc (aj _) _,by simp,?_⟩;refine⟨?_,?_,?_,?_⟩<;>go_simp
theorem pG(p:Bool)(A:Option Addr)(xs:List Nat)(c:Nat)(w:World)(h:bQ w A c xs)(hs:xs.length<=70368744177664):
 Calls Tryz.prog 103 #[.bool p, .slice A xs.length c] w (bW w (iv p xs)):=by
 go_enter Tryz.func103,Tryz.ntmps103
 go_wp2_with fail
 obtain⟨W,hW,bC,hsz,kr⟩:=sQ w (.bool false) (.slice none 0 0);rw[hW];clear hW;have hz:w.heap.size+1<=W.heap.size:=by omega
 clear hsz;refine(fe A xs c _ (h.below bC) hs).mono ?_;rintro e w1 ⟨A1,c1,rfl,r3,dM⟩;obtain⟨m1,m2,m3,m4⟩:=dO dM (show w.heap.size<W.heap.size by omega) kr;have cF:Below w.heap.size w w1:=bC.trans (dM.mono (show w.heap.size<=W.heap.size by omega));have cE:=fun u=> @fM w _ p (val xs) (iv p xs) A1 c1 rfl ((r3.iL (N:=w.heap.size) (show w.heap.size<W.heap.size by omega) u (.slice A1 (limbs (val xs)).length c1)).mono (show w.heap.size<=W.heap.size by omega)) (bH cF (aj _) _ _);have HR:=ah cE;clear cE cF r3 dM bC kr h hs;generalize (limbs (val xs)).length=n at*
 cases p
 ·go_wp2
  exact bodyPost_ret (v:= .agg #[.bool false, .slice A1 n c1]) (by simp[results,Tryz.results103,go_sem,m1,m2]) rfl (HR.out (.bool false))
 ·by_cases h:0<n
  ·have hd:(true && decide (0<n))=true:=by simp[h]
   have Jm:=HR.out (.bool true);rw[hd]at Jm;have HR3:=ah Jm;clear Jm hd;go_wp2
   exact bodyPost_ret (v:= .agg #[.bool true, .slice A1 n c1]) (by simp[results,Tryz.results103,go_sem,m1,m2]) rfl HR3.out
  ·have h':¬(0:Int)< (n:Int):=by omega
   have hd:(true && decide (0<n))=false:=by simp;omega
   have Jm:=HR.out (.bool false);rw[hd]at Jm;have HR3:=ah Jm;clear Jm hd;go_wp2
   all_goals exact bodyPost_ret (v:= .agg #[.bool false, .slice A1 n c1]) (by simp[results,Tryz.results103,go_sem,m1,m2]) rfl HR3.out
theorem pH(v:Int)(w:World)(h1: -9223372036854775808<=v)(h2:v<=9223372036854775807):
 Calls Tryz.prog 67 #[.int .i64 v] w (bW w v):=by
 have hB:Ba*Ba=18446744073709551616:=by decide
 obtain⟨W,hW,bC,hsz,kr⟩:=sQ w (.bool false) (.slice none 0 0);have hz:w.heap.size+1<=W.heap.size:=by omega
 clear hsz;have HW:=ah hW;clear hW
 by_cases h0:v<0
 ·obtain⟨m,hm⟩:∃m:Nat,-v=(m:Int):=⟨(-v).toNat,by omega⟩;have hm2:m<Ba*Ba:=by omega
  have HM:=ah hm;clear hm hB;have hl:=ay (fA.2 hm2) (show 2<=70368744177664 by omega);go_enter Tryz.func67,Tryz.ntmps67
  go_wp2_with fail
  rw[HW.out,show(-(v+1)+1)=(m:Int)from by have:=HM.out;omega];refine(jC m _ hm2).mono ?_;rintro e w1 ⟨A1,c1,rfl,r3,dM⟩;obtain⟨m1,m2,m3,m4⟩:=dO dM (show w.heap.size<W.heap.size by omega) kr;go_wp2_with fail
  refine(pG true A1 (limbs m) c1 _ r3.lim hl).mono ?_;rintro e w2 ⟨A2,c2,rfl,q3,fT⟩;obtain⟨n1,n2,n3,n4⟩:=dO fT (ak (show w.heap.size<W.heap.size by omega) dM.size) ⟨m1,m2,m3,m4⟩;have ev:iv true (limbs m)=v:=by unfold iv;rw[aV];have:=HM.out;simp;omega
  rw[ev]at q3⊢
  have cE:bW w v (.returned (.agg #[.bool (decide (v<0)), .slice A2 (limbs v.natAbs).length c2])) ((w2.setCell ⟨w.heap.size,0,none⟩ (.bool (decide (v<0)))).setCell ⟨w.heap.size,1,none⟩ (.slice A2 (limbs v.natAbs).length c2)):=
   ⟨A2,c2,rfl,(q3.iL (ak (show w.heap.size<W.heap.size by omega) dM.size) _ _).mono (ay (show w.heap.size<=W.heap.size by omega) dM.size),bH ((bC.trans (dM.mono (show w.heap.size<=W.heap.size by omega))).trans (fT.mono (ay (show w.heap.size<=W.heap.size by omega) dM.size))) (aj _) _ _⟩
  clear ev q3 r3 dM fT bC kr m1 m2 m3 m4;have hd:decide (v<0)=true:=by simp;omega
  rw[hd]at cE⊢;clear hd;go_wp2
  exact bodyPost_ret (v:= .agg #[.bool true, .slice A2 (limbs v.natAbs).length c2]) (by simp[results,Tryz.results67,go_sem,n1,n2]) rfl cE
 ·obtain⟨m,hm⟩:∃m:Nat,v=(m:Int):=⟨v.toNat,by omega⟩;have hm2:m<Ba*Ba:=by omega
  have HM:=ah hm;clear hm hB;have hl:=ay (fA.2 hm2) (show 2<=70368744177664 by omega);go_enter Tryz.func67,Tryz.ntmps67
  go_wp2_with fail
  rw[HW.out,show v=(m:Int)from by have:=HM.out;omega];refine(jC m _ hm2).mono ?_;rintro e w1 ⟨A1,c1,rfl,r3,dM⟩;obtain⟨m1,m2,m3,m4⟩:=dO dM (show w.heap.size<W.heap.size by omega) kr;go_wp2_with fail
  refine(pG false A1 (limbs m) c1 _ r3.lim hl).mono ?_;rintro e w2 ⟨A2,c2,rfl,q3,fT⟩;obtain⟨n1,n2,n3,n4⟩:=dO fT (ak (show w.heap.size<W.heap.size by omega) dM.size) ⟨m1,m2,m3,m4⟩;have ev:iv false (limbs m)=v:=by unfold iv;rw[aV];have:=HM.out;simp;omega
  rw[ev]at q3⊢
  have cE:bW w v (.returned (.agg #[.bool (decide (v<0)), .slice A2 (limbs v.natAbs).length c2])) ((w2.setCell ⟨w.heap.size,0,none⟩ (.bool (decide (v<0)))).setCell ⟨w.heap.size,1,none⟩ (.slice A2 (limbs v.natAbs).length c2)):=
   ⟨A2,c2,rfl,(q3.iL (ak (show w.heap.size<W.heap.size by omega) dM.size) _ _).mono (ay (show w.heap.size<=W.heap.size by omega) dM.size),bH ((bC.trans (dM.mono (show w.heap.size<=W.heap.size by omega))).trans (fT.mono (ay (show w.heap.size<=W.heap.size by omega) dM.size))) (aj _) _ _⟩
  clear ev q3 r3 dM fT bC kr m1 m2 m3 m4;have hd:decide (v<0)=false:=by simp;omega
  rw[hd]at cE⊢;clear hd;go_wp2
  exact bodyPost_ret (v:= .agg #[.bool false, .slice A2 (limbs v.natAbs).length c2]) (by simp[results,Tryz.results67,go_sem,n1,n2]) rfl cE
/- Contracts of package integer: division, from a contract of the division of naturals. -/
theorem um(w:World)(p q:Bool)(u v:Value):
 ∃W,(((w.alloc (.cells #[.bool p,u] 43)).alloc (.cells #[.bool q,v] 43)).alloc (.cells #[.bool false, .slice none 0 0] 43)).alloc (.cells #[.bool false, .slice none 0 0] 43)=W/\Below w.heap.size w W/\W.heap.size=w.heap.size+4/\
  (W.cell? ⟨w.heap.size,0,none⟩=some (.bool p)/\W.cell? ⟨w.heap.size,1,none⟩=some u/\W.cell? ⟨w.heap.size+1,0,none⟩=some (.bool q)/\W.cell? ⟨w.heap.size+1,1,none⟩=some v)/\
  (W.cell? ⟨w.heap.size+1+1,0,none⟩=some (.bool false)/\W.cell? ⟨w.heap.size+1+1,1,none⟩=some (.slice none 0 0)/\W.frozen? ⟨w.heap.size+1+1,0,none⟩=false/\W.frozen? ⟨w.heap.size+1+1,1,none⟩=false)/\
  (W.cell? ⟨w.heap.size+1+1+1,0,none⟩=some (.bool false)/\W.cell? ⟨w.heap.size+1+1+1,1,none⟩=some (.slice none 0 0)/\W.frozen? ⟨w.heap.size+1+1+1,0,none⟩=false/\W.frozen? ⟨w.heap.size+1+1+1,1,none⟩=false):=by
 refine⟨_,rfl,((((aq _ _).alloc (aj _) _).alloc (by simp) _).alloc (by simp;omega) _).alloc (by simp;omega) _,by simp,?_,?_,?_⟩
 ·refine⟨?_,?_,?_,?_⟩<;>go_simp
 ·refine⟨?_,?_,?_,?_⟩<;>go_simp
 ·refine⟨?_,?_,?_,?_⟩<;>go_simp
def jD(w:World)(q r:Int)(e:Ending)(w':World):Prop:=
 ∃A c B d,e= .returned (.tuple #[.agg #[.bool (decide (q<0)), .slice A (limbs q.natAbs).length c], .agg #[.bool (decide (r<0)), .slice B (limbs r.natAbs).length d], .bool true])/\
  Own w.heap.size w' A c (limbs q.natAbs)/\Own w.heap.size w' B d (limbs r.natAbs)/\Below w.heap.size w w'
theorem KY{a b q r:Int}(h:r+b*q=a)(h0:0<=r)(h1:r<b.natAbs):a/b=q/\a % b=r:=by
 rcases Int.lt_trichotomy b 0 with hb|hb|hb
 ·have h2:a/ (-b)= -q/\a % (-b)=r:=(Int.ediv_emod_unique (by omega)).2 ⟨by rw[<-h];grind,h0,by omega⟩;rw[Int.ediv_neg,Int.emod_neg]at h2;exact⟨by omega,h2.2⟩
 ·subst hb;simp at h1;omega
 ·exact(Int.ediv_emod_unique hb).2 ⟨by rw[<-h],h0,by omega⟩
theorem OW(p q:Bool){a b:Nat}(hb:b≠0)(h:p=false∨a % b=0):dI p a/dI q b=dI (p !=q) (a/b)/\dI p a % dI q b=dI false (a % b):=by
 have h1:=Nat.div_add_mod a b;have h2:=Nat.mod_lt a (Nat.pos_of_ne_zero hb);generalize a/b=m at*;generalize a % b=n at*;subst h1;apply KY
 ·cases p<;>cases q<;>simp[dI]at* <;>grind
 ·simp[dI]
 ·cases q<;>simp[dI]<;>omega
theorem KZ(q:Bool){a b:Nat}(hb:b≠0)(h:a % b≠0):dI true a/dI q b=dI (true !=q) (a/b+1)/\dI true a % dI q b=dI false (b-a % b):=by
 have h1:=Nat.div_add_mod a b;have h2:=Nat.mod_lt a (Nat.pos_of_ne_zero hb);generalize a/b=m at*;generalize a % b=n at*;subst h1;have e:((b-n:Nat):Int)=b-n:=by omega
 apply KY
 ·cases q<;>simp[dI,e]at* <;>grind
 ·simp[dI]
 ·cases q<;>simp[dI]<;>omega
theorem Own.sJ{lo N M:Nat}{w:World}{A:Option Addr}{c:Nat}{xs:List Nat}(h:Own lo w A c xs)(hN:N<lo)(hM:M<lo)(u v x y:Value):Own lo ((((w.setCell ⟨N,0,none⟩ u).setCell ⟨N,1,none⟩ v).setCell ⟨M,0,none⟩ x).setCell ⟨M,1,none⟩ y) A c xs:=
 (h.iL hN u v).iL hM x y
/- The sanity check of layer 2's statements returns true. -/
theorem dS(n:Int):iv (decide (n<0)) (limbs n.natAbs)=n:=by
 unfold iv;rw[aV]
 by_cases h:n<0<;>simp[h]<;>omega
theorem bn{B b o:Nat}{W w':World}{v:Value}(hb:Below B W w')(hlt:b<B)(h:W.cell? ⟨b,o,none⟩=some v):w'.cell? ⟨b,o,none⟩=some v:=
 (hb.cell (p:=⟨b,o,none⟩) hlt).trans h
/- The walk of the statement IntegerOrder: it returns true. -/
theorem jZ{a b k:Nat}(ha:(limbs a).length<=k)(hb:(limbs b).length<=k):(limbs (a+b)).length<=k+1:=by
 have h1:=fK (ig a);have h2:=fK (ig b);rw[aV]at h1 h2;have h3:Ba ^ (limbs a).length<=Ba ^ k:=Nat.pow_le_pow_right cR ha;have h4:Ba ^ (limbs b).length<=Ba ^ k:=Nat.pow_le_pow_right cR hb;have h5:Ba ^ (k+1)=Ba ^ k*Ba:=Nat.pow_succ ..;have h6:Ba ^ k*2<=Ba ^ k*Ba:=aO _ (by decide);exact fw (by omega)
theorem mq(p:Bool)(xs:List Nat):(iv p xs).natAbs=val xs:=eK p (val xs)
theorem OY{m n:Int}{k:Nat}(hm:(limbs m.natAbs).length<=k)(hn:(limbs n.natAbs).length<=k):(limbs (m+n).natAbs).length<=k+1:=
 ay (bN (Int.natAbs_add_le m n)) (jZ hm hn)
theorem jk{p:Bool}{xs:List Nat}{k:Nat}(h:Lb xs)(hl:xs.length<=k):(limbs (iv p xs).natAbs).length<=k:=by
 rw[mq];exact ay (bh h) hl
theorem DB(p q:Bool)(r:Int)(A B:Option Addr)(xs ys:List Nat)(c d:Nat)(w:World)(ha:bQ w A c xs)(hb:bQ w B d ys)(hr:jN (iv p xs) (iv q ys)=r):
 Calls Tryz.prog 165 #[.agg #[.bool p, .slice A xs.length c], .agg #[.bool q, .slice B ys.length d]] w (pF w r):=by
 have k:=Dy p q A B xs ys c d w ha hb;rw[hr]at k;exact k
/- Contracts of package integer: products, negation, absolute value, canonical form. -/
theorem OZ(p q:Bool)(a b:Nat):dI p a*dI q b=dI (p !=q) (a*b):=by
 unfold dI;cases p<;>cases q<;>simp<;>grind
theorem T8(p q:Bool)(A B:Option Addr)(xs ys:List Nat)(c d:Nat)(w:World)(ha:bQ w A c xs)(hb:bQ w B d ys)(hs:xs.length+ys.length<=70368744177664):
 Calls Tryz.prog 63 #[.agg #[.bool p, .slice A xs.length c], .agg #[.bool q, .slice B ys.length d]] w (bW w (iv p xs*iv q ys)):=by
 go_enter Tryz.func63,Tryz.ntmps63
 go_wp2_with fail
 obtain⟨W,hW,bC,hsz,k,kr⟩:=fE w p q (.slice A xs.length c) (.slice B ys.length d);rw[hW];clear hW;have hz:w.heap.size+3<=W.heap.size:=by omega
 clear hsz;obtain⟨k1,k2,k3,k4⟩:=k;go_wp2_with fail
 go_region_held3 (fun w'=>w'.cell? ⟨w.heap.size,0,none⟩=some (.bool p)/\w'.cell? ⟨w.heap.size,1,none⟩=some (.slice A xs.length c)/\w'.cell? ⟨w.heap.size+1,0,none⟩=some (.bool q)/\w'.cell? ⟨w.heap.size+1,1,none⟩=some (.slice B ys.length d))
  (first|exact l1|exact l2|exact iA (bH (aq (w.heap.size+1+1) w2) (aj _) _ _) (aj _) l2|go_keep)
  (first
    |(go_at_call 64;refine(FB A B xs ys c d _ ?_ ?_ hs).mono ?_;exact ha.below (below_drewN bC 1);exact hb.below (below_drewN bC 1);rintro e w1 ⟨A1,c1,rfl,r3,dM⟩;have l1:=iA dM (show w.heap.size+2<=W.heap.size by omega) ⟨k1,k2,k3,k4⟩)
    |(go_at_call 100;refine(jH (p !=q) A1 _ c1 _).mono ?_;rintro e w2 ⟨rfl,fT⟩;have l2:=iA fT (ay (show w.heap.size+2<=W.heap.size by omega) dM.size) l1;obtain⟨m1,m2,m3,m4⟩:=dO (N:=w.heap.size+1+1) fT (ak (show w.heap.size+1+1<W.heap.size by omega) dM.size) (dO dM (show w.heap.size+1+1<W.heap.size by omega) kr)))
 have cF:Below w.heap.size w w2:=((below_drewN bC 1).trans (dM.mono (show w.heap.size<=W.heap.size by omega))).trans (fT.mono (ay (show w.heap.size<=W.heap.size by omega) dM.size));have hown:=((r3.below fT).iL (N:=w.heap.size+1+1) (show w.heap.size+1+1<W.heap.size by omega) (.bool ((p !=q) && decide (0< (limbs (val xs*val ys)).length))) (.slice A1 (limbs (val xs*val ys)).length c1)).mono (show w.heap.size<=W.heap.size by omega);have cE:=fM (OZ p q (val xs) (val ys)) hown (bH cF (by omega) _ _);clear hown cF r3 dM fT bC kr l1 l2 k1 k2 k3 k4;go_wp2
 exact bodyPost_ret (v:= .agg #[.bool ((p !=q) && decide (0< (limbs (val xs*val ys)).length)), .slice A1 (limbs (val xs*val ys)).length c1]) (by simp[results,Tryz.results63,go_sem,m1,m2]) rfl cE
theorem nO(w:World)(p:Bool)(u:Value):
 ∃W,(w.alloc (.cells #[.bool p,u] 43)).alloc (.cells #[.bool false, .slice none 0 0] 43)=W/\Below w.heap.size w W/\W.heap.size=w.heap.size+2/\
  (W.cell? ⟨w.heap.size,0,none⟩=some (.bool p)/\W.cell? ⟨w.heap.size,1,none⟩=some u)/\
  (W.cell? ⟨w.heap.size+1,0,none⟩=some (.bool false)/\W.cell? ⟨w.heap.size+1,1,none⟩=some (.slice none 0 0)/\W.frozen? ⟨w.heap.size+1,0,none⟩=false/\W.frozen? ⟨w.heap.size+1,1,none⟩=false):=by
 refine⟨_,rfl,((aq _ _).alloc (aj _) _).alloc (by simp) _,by simp,?_,?_⟩
 ·refine⟨?_,?_⟩<;>go_simp
 ·refine⟨?_,?_,?_,?_⟩<;>go_simp
theorem yd{B N:Nat}{W w1:World}{u v:Value}(hb:Below B W w1)(hB:N<B)
 (h:W.cell? ⟨N,0,none⟩=some u/\W.cell? ⟨N,1,none⟩=some v):w1.cell? ⟨N,0,none⟩=some u/\w1.cell? ⟨N,1,none⟩=some v:=
 ⟨(hb.cell (p:=⟨N,0,none⟩) hB).trans h.1,(hb.cell (p:=⟨N,1,none⟩) hB).trans h.2⟩
theorem O1(p:Bool)(A:Option Addr)(xs:List Nat)(c:Nat)(w:World)(ha:bQ w A c xs)(hs:xs.length<=70368744177664):
 Calls Tryz.prog 96 #[.agg #[.bool p, .slice A xs.length c]] w (bW w (iv p xs)):=by
 go_enter Tryz.func96,Tryz.ntmps96
 go_wp2_with fail
 obtain⟨W,hW,bC,hsz,k,kr⟩:=nO w p (.slice A xs.length c);rw[hW];clear hW;have hz:w.heap.size+2<=W.heap.size:=by omega
 clear hsz;obtain⟨k1,k2⟩:=k
 go_region_held3 (fun w'=>w'.cell? ⟨w.heap.size,0,none⟩=some (.bool p)/\w'.cell? ⟨w.heap.size,1,none⟩=some (.slice A xs.length c))
  (first|exact l1|exact l2|exact yd (bH (aq (w.heap.size+1) w2) (aj _) _ _) (Nat.lt_succ_self _) l2|go_keep)
  (first
    |(go_at_call 97;refine(qU A xs c _ ?_ hs).mono ?_;exact ha.below (below_drewN bC 1);rintro e w1 ⟨A1,c1,rfl,r3,dM⟩;have l1:=yd dM (show w.heap.size<W.heap.size by omega) ⟨k1,k2⟩)
    |(go_at_call 100;refine(jH p A1 _ c1 _).mono ?_;rintro e w2 ⟨rfl,fT⟩;have l2:=yd fT (ak (show w.heap.size<W.heap.size by omega) dM.size) l1;obtain⟨m1,m2,m3,m4⟩:=dO (N:=w.heap.size+1) fT (ak (show w.heap.size+1<W.heap.size by omega) dM.size) (dO dM (show w.heap.size+1<W.heap.size by omega) kr)))
 have cF:Below w.heap.size w w2:=((below_drewN bC 1).trans (dM.mono (show w.heap.size<=W.heap.size by omega))).trans (fT.mono (ay (show w.heap.size<=W.heap.size by omega) dM.size));have hown:=((r3.below fT).iL (N:=w.heap.size+1) (show w.heap.size+1<W.heap.size by omega) (.bool (p && decide (0< (limbs (val xs)).length))) (.slice A1 (limbs (val xs)).length c1)).mono (show w.heap.size<=W.heap.size by omega);have cE:=fM (n:=iv p xs) rfl hown (bH cF (by omega) _ _);clear hown cF r3 dM fT bC kr l1 l2 k1 k2;go_wp2
 exact bodyPost_ret (v:= .agg #[.bool (p && decide (0< (limbs (val xs)).length)), .slice A1 (limbs (val xs)).length c1]) (by simp[results,Tryz.results96,go_sem,m1,m2]) rfl cE
theorem T9(p:Bool)(A:Option Addr)(xs:List Nat)(c:Nat)(w:World)(ha:bQ w A c xs)(hs:xs.length<=70368744177664):
 Calls Tryz.prog 69 #[.agg #[.bool p, .slice A xs.length c]] w (bW w (- iv p xs)):=by
 go_enter Tryz.func69,Tryz.ntmps69
 go_wp2_with fail
 obtain⟨W,hW,bC,hsz,k,kr⟩:=nO w p (.slice A xs.length c);rw[hW];clear hW;have hz:w.heap.size+2<=W.heap.size:=by omega
 clear hsz;obtain⟨k1,k2⟩:=k
 go_region_held3 (fun w'=>w'.cell? ⟨w.heap.size,0,none⟩=some (.bool p)/\w'.cell? ⟨w.heap.size,1,none⟩=some (.slice A xs.length c))
  (first|exact l1|exact l2|exact yd (bH (aq (w.heap.size+1) w2) (aj _) _ _) (Nat.lt_succ_self _) l2|go_keep)
  (first
    |(go_at_call 97;refine(qU A xs c _ ?_ hs).mono ?_;exact ha.below (below_drewN bC 1);rintro e w1 ⟨A1,c1,rfl,r3,dM⟩;have l1:=yd dM (show w.heap.size<W.heap.size by omega) ⟨k1,k2⟩)
    |(go_at_call 100;refine(jH (!p) A1 _ c1 _).mono ?_;rintro e w2 ⟨rfl,fT⟩;have l2:=yd fT (ak (show w.heap.size<W.heap.size by omega) dM.size) l1;obtain⟨m1,m2,m3,m4⟩:=dO (N:=w.heap.size+1) fT (ak (show w.heap.size+1<W.heap.size by omega) dM.size) (dO dM (show w.heap.size+1<W.heap.size by omega) kr)))
 have cF:Below w.heap.size w w2:=((below_drewN bC 1).trans (dM.mono (show w.heap.size<=W.heap.size by omega))).trans (fT.mono (ay (show w.heap.size<=W.heap.size by omega) dM.size));have hown:=((r3.below fT).iL (N:=w.heap.size+1) (show w.heap.size+1<W.heap.size by omega) (.bool (!p && decide (0< (limbs (val xs)).length))) (.slice A1 (limbs (val xs)).length c1)).mono (show w.heap.size<=W.heap.size by omega);have cE:=fM (n:= - iv p xs) (Dz p xs).symm hown (bH cF (by omega) _ _);clear hown cF r3 dM fT bC kr l1 l2 k1 k2;go_wp2
 exact bodyPost_ret (v:= .agg #[.bool (!p && decide (0< (limbs (val xs)).length)), .slice A1 (limbs (val xs)).length c1]) (by simp[results,Tryz.results69,go_sem,m1,m2]) rfl cE
/- Contracts with named results, for the walks of the statements: integers. -/
theorem O2(p:Bool)(A:Option Addr)(xs:List Nat)(c:Nat)(w:World)(ha:bQ w A c xs)(hs:xs.length<=70368744177664):
 Calls Tryz.prog 65 #[.agg #[.bool p, .slice A xs.length c]] w (bW w (iv p xs)):=by
 go_enter Tryz.func65,Tryz.ntmps65
 go_wp2_with fail
 obtain⟨W,hW,bC,hsz,k,kr⟩:=nO w p (.slice A xs.length c);rw[hW];clear hW;have hz:w.heap.size+2<=W.heap.size:=by omega
 clear hsz;refine(pG p A xs c _ (ha.below bC) hs).mono ?_;rintro e w1 ⟨A1,c1,rfl,r3,dM⟩;obtain⟨m1,m2,m3,m4⟩:=dO dM (show w.heap.size+1<W.heap.size by omega) kr
 have cE:bW w (iv p xs) (.returned (.agg #[.bool (decide (iv p xs<0)), .slice A1 (limbs (iv p xs).natAbs).length c1]))
  ((w1.setCell ⟨w.heap.size+1,0,none⟩ (.bool (decide (iv p xs<0)))).setCell ⟨w.heap.size+1,1,none⟩ (.slice A1 (limbs (iv p xs).natAbs).length c1)):=
  ⟨A1,c1,rfl,(r3.iL (show w.heap.size+1<W.heap.size by omega) _ _).mono (show w.heap.size<=W.heap.size by omega),bH (bC.trans (dM.mono (show w.heap.size<=W.heap.size by omega))) (by omega) _ _⟩
 clear r3 dM bC kr k;generalize iv p xs=z at*;go_wp2
 exact bodyPost_ret (v:= .agg #[.bool (decide (z<0)), .slice A1 (limbs z.natAbs).length c1]) (by simp[results,Tryz.results65,go_sem,m1,m2]) rfl cE
section
variable (p q:Bool)(A B:Option Addr)(xs ys:List Nat)(c d:Nat)(w:World)(m n s:Int)(K L:Nat)
theorem K0(ha:bQ w A c xs)(hb:bQ w B d ys)(hs:xs.length<=K)(ht:ys.length<=L)(hm:iv p xs=m)(hn:iv q ys=n)(h:m+n=s)(hK:K<70368744177664)(hL:L<70368744177664):
 Calls Tryz.prog 62 #[.agg #[.bool p, .slice A xs.length c], .agg #[.bool q, .slice B ys.length d]] w (bW w s):=by
 have k:=T7 p q A B xs ys c d w ha hb (by omega) (by omega);rw[hm,hn,h]at k;exact k
theorem yH(ha:bQ w A c xs)(hb:bQ w B d ys)(hs:xs.length<=K)(ht:ys.length<=L)(hm:iv p xs=m)(hn:iv q ys=n)(h:m*n=s)(hK:K+L<=70368744177664):
 Calls Tryz.prog 63 #[.agg #[.bool p, .slice A xs.length c], .agg #[.bool q, .slice B ys.length d]] w (bW w s):=by
 have k:=T8 p q A B xs ys c d w ha hb (by omega);rw[hm,hn,h]at k;exact k
theorem Ua(ha:bQ w A c xs)(hs:xs.length<=K)(hm:iv p xs=m)(h: -m=s)(hK:K<=70368744177664):
 Calls Tryz.prog 69 #[.agg #[.bool p, .slice A xs.length c]] w (bW w s):=by
 have k:=T9 p A xs c w ha (by omega);rw[hm,h]at k;exact k
theorem yI(ha:bQ w A c xs)(hs:xs.length<=K)(hm:iv p xs=s)(hK:K<=70368744177664):
 Calls Tryz.prog 65 #[.agg #[.bool p, .slice A xs.length c]] w (bW w s):=by
 have k:=O2 p A xs c w ha (by omega);rw[hm]at k;exact k
end
theorem uq(v s:Int)(w:World)(h1: -9223372036854775808<=v)(h2:v<=9223372036854775807)(h:v=s):Calls Tryz.prog 67 #[.int .i64 v] w (bW w s):=by
 subst h;exact pH v w h1 h2
theorem sR{m n s:Int}{k l j:Nat}(hm:(limbs m.natAbs).length<=k)(hn:(limbs n.natAbs).length<=l)(h:m+n=s)(hk:k+1<=j)(hl:l+1<=j):(limbs s.natAbs).length<=j:=by
 subst h;have:(limbs (m+n).natAbs).length<=(j-1)+1:=OY (by omega) (by omega);omega
theorem mQ(a b:Nat):(limbs (a*b)).length<=(limbs a).length+ (limbs b).length:=by
 have h1:=fK (ig a);have h2:=fK (ig b);rw[aV]at h1 h2;apply fw;rw[Nat.pow_add];rcases aM (Ba ^ (limbs b).length)with h|h
 ·omega
 ·exact Nat.mul_lt_mul_of_lt_of_le h1 (aR h2) h
theorem gM{m n s:Int}{k l j:Nat}(hm:(limbs m.natAbs).length<=k)(hn:(limbs n.natAbs).length<=l)(h:m*n=s)(hk:k+l<=j):(limbs s.natAbs).length<=j:=by
 subst h;rw[Int.natAbs_mul];have:=mQ m.natAbs n.natAbs;omega
/- Contracts of the reference of layer 1: comparison, sums, differences, products. -/
def ado(w:World)(n:Int)(e:Ending)(w':World):Prop:=e= .returned (.int .i64 n)/\Below w.heap.size w w'
theorem ur(A B:Option Addr)(xs ys:List Nat)(c d:Nat)(w:World)(ha:bQ w A c xs)(hb:bQ w B d ys)(hs:xs.length<=70368744177664)(ht:ys.length<=70368744177664):
 Calls Tryz.prog 167 #[.slice A xs.length c, .slice B ys.length d] w (ado w (gq (val xs) (val ys))):=by
 have hc:=ha.cap;have hm:=ha.max;have hd:=hb.cap;have hn:=hb.max;go_enter Tryz.func167,Tryz.ntmps167
 go_wp2_with fail
 refine(fe _ _ _ _ ha hs).mono ?_;rintro e w1 ⟨A1,c1,rfl,r1,b1⟩;go_wp2_with fail
 refine(fe _ _ _ _ (hb.below b1) ht).mono ?_;rintro e w2 ⟨A2,c2,rfl,r2,b2⟩;have la:=bh ha.lb;have lb:=bh hb.lb;have bP:Below w.heap.size w w2:=b1.trans (b2.mono b1.size);have HB:=ah bP;clear hc hm hd hn ha hb;have ha:=r1.lim.below b2;have hb:=r2.lim;have hc:=ha.cap;have hm:=ha.max;have hd:=hb.cap;have hn:=hb.max;clear r1 r2 b1 b2 bP;have ea:=aV (val xs);have eb:=aV (val ys);have EA:=ah ea;have EB:=ah eb;clear ea eb;have G8:=ah (@iD (val xs) (val ys));have NP:=ah (@iD (val ys) (val xs));generalize limbs (val xs)=us at*;generalize limbs (val ys)=vs at*
 by_cases hne:us.length=vs.length
 ·have hb1:((us.length:Int) !=(vs.length:Int))=false:=by simp[hne]
  have HN:=ah hne;clear hne;go_wp2_with fail
  go_loopw [5] (fun t wr=>∃k:Nat,k<=us.length/\t= .int .i64 ((k:Int) -1)/\val (us.drop k)=val (vs.drop k)/\∃n,wr=w2.drewN n) (fun t _=>(intOf t+1).toNat)
  case atStart=>exact⟨us.length,aj _,rfl,by rw[List.drop_length,HN.out,List.drop_length],0,rfl⟩
  case round=>
   obtain⟨k,hk,ht,hv,n,rfl⟩:=hrel;have HV:=ah hv;clear hv;rcases aM k with rfl|hp
   ·subst ht;go_wp2
    go_ret;exact⟨by rw[jY (by rw[<-EA.out,<-EB.out];exact HV.out)];rfl,below_drewN HB.out n⟩
   ·obtain⟨m,rfl⟩:∃m,k=m+1:=⟨k-1,by omega⟩;obtain rfl:=ht.trans (show Value.int .i64 (((m+1:Nat):Int) -1)= .int .i64 (m:Int) by congr 1;omega);have e2:=HN.out;have hm2:m<vs.length:=by omega
    clear e2;have lba:=ha.lb;have lbb:=hb.lb;obtain⟨b1,o1,rfl,YD,hc1⟩:=ha.at_ (by omega);obtain⟨b2,o2,rfl,YE,hc2⟩:=hb.at_ (by omega);have hx:=hc1 m (by omega);have hy:=hc2 m (by omega);clear hc1 hc2 ha hb;obtain⟨x,ex⟩:=xeq (us[m]?.getD 0);obtain⟨y,ey⟩:=xeq (vs[m]?.getD 0);rw[ex]at hx;rw[ey]at hy;have EX:=ah ex;have EY:=ah ey;clear ex ey;have i0:(0:Int)<=(m:Int):=by omega
    have i1:(m:Int)<us.length:=by omega
    have i2:(m:Int)<vs.length:=by omega
    rcases Nat.lt_trichotomy x y with hl|hl|hl
    ·go_wp2
     go_quiet (fail)
     go_wp2
     go_ret;exact⟨by rw[lG (by rw[<-EA.out,<-EB.out];exact tM lba (by omega) hm2 HV.out (by rw[EX.out,EY.out];exact hl))];rfl,below_drewN (below_drewN HB.out _) _⟩
    ·subst hl;go_wp2
     go_quiet (fail)
     go_wp2
     go_quiet (fail)
     go_wp2
     go_roundw
     case rel=>exact⟨m,by omega,rfl,pW (by omega) hm2 HV.out (by rw[EX.out,EY.out]),_,rfl⟩
     case measure=>simp[intOf]
    ·go_wp2
     go_quiet (fail)
     go_wp2
     go_quiet (fail)
     go_wp2
     go_ret;exact⟨by rw[iE (by rw[<-EA.out,<-EB.out];exact tM lbb hm2 (by omega) HV.out.symm (by rw[EX.out,EY.out];exact hl))];rfl,below_drewN (below_drewN (below_drewN HB.out _) _) _⟩
 ·rcases Nat.lt_or_gt_of_ne hne with hl|hl
  ·have hb1:((us.length:Int) !=(vs.length:Int))=true:=by simp;omega
   go_wp2_with fail
   go_ret;exact⟨by rw[lG (G8.out hl)];rfl,HB.out⟩
  ·have hb1:((us.length:Int) !=(vs.length:Int))=true:=by simp;omega
   have hb2:¬((us.length:Int)< (vs.length:Int)):=by omega
   go_wp2_with fail
   go_ret;exact⟨by rw[iE (NP.out hl)];rfl,HB.out⟩
def O3(xs ys:List Nat)(w:World)(N:Nat)(t i:Value)(wr:World):Prop:=
 ∃(k q:Nat) (zs:List Nat),k<=N+1/\i= .int .i64 k/\t= .int .u64 q/\q<=1/\zs.length=N+1/\Lb zs/\Row wr w.heap.size zs/\Below w.heap.size w wr/\(∀j,k<=j->zs[j]?.getD 0=0)/\val zs+Ba ^ k*q=val (xs.take k)+val (ys.take k)
theorem uw(xs ys:List Nat)(w:World)(N:Nat):O3 xs ys w N (.int .u64 0) (.int .i64 0) (w.alloc (.cells (cellsOf (zeros (N+1))) 75)):=
 ⟨0,0,zeros (N+1),aF _,rfl,rfl,by omega,cS _,gB _,Row.new _ _,(aq _ _).alloc (aj _) _,fun j _=>gK _ _,by simp[fV,val]⟩
theorem kB{xs ys zs:List Nat}{w wr:World}{N k q:Nat}{a b:Int}(hx:Lb xs)(hy:Lb ys)(hk:k<N+1)(hq:q<=1)(hl:zs.length=N+1)(hz:Lb zs)(hrow:Row wr w.heap.size zs)(bP:Below w.heap.size w wr)(h0:∀j,k<=j->zs[j]?.getD 0=0)
 (hv:val zs+Ba ^ k*q=val (xs.take k)+val (ys.take k)) (ha:a=(((q+xs[k]?.getD 0+ys[k]?.getD 0) % Ba:Nat):Int)) (hb:b=(((q+xs[k]?.getD 0+ys[k]?.getD 0)/Ba:Nat):Int)):
 O3 xs ys w N (.int .u64 b) (.int .i64 ((k:Int)+1)) (wr.setCell ⟨w.heap.size,k,none⟩ (.int .u32 a)):=by
 have h1:=hx.get k;have h2:=hy.get k;have h3:(q+xs[k]?.getD 0+ys[k]?.getD 0)/Ba<2:=Nat.div_lt_of_lt_mul (by omega);exact⟨k+1,_,zs.set k ((q+xs[k]?.getD 0+ys[k]?.getD 0) % Ba),by omega,by congr 1,by rw[hb],by omega,by rw[List.length_set];exact hl,hz.set _ _ (Nat.mod_lt _ cR),hrow.put k _ ha,bP.setCell (aj _) _,dN h0,nH (by omega) h0 hv⟩
theorem AP{xs ys zs:List Nat}{N q:Nat}(hx:Lb xs)(hy:Lb ys)(hxn:xs.length<=N)(hyn:ys.length<=N)(hl:zs.length=N+1)(hz:Lb zs)(hv:val zs+Ba ^ (N+1)*q=val (xs.take (N+1))+val (ys.take (N+1))):val zs=val xs+val ys:=by
 rw[aI (by omega),aI (by omega)]at hv;have h2:=fK hz;rw[hl]at h2;have h3:val xs<Ba ^ N:=ak (fK hx) (Nat.pow_le_pow_right cR hxn);have h4:val ys<Ba ^ N:=ak (fK hy) (Nat.pow_le_pow_right cR hyn);have h9:Ba ^ N*2<=Ba ^ (N+1):=by rw[Nat.pow_succ];exact aO _ (by decide)
 have h5:0<q->Ba ^ (N+1)<=Ba ^ (N+1)*q:=fun h=>Nat.le_mul_of_pos_right _ h;have h6:q=0->Ba ^ (N+1)*q=0:=fun h=>by rw[h,Nat.mul_zero]
 generalize Ba ^ (N+1)*q=T at*;generalize Ba ^ (N+1)=R at*;generalize Ba ^ N=S at*;rcases aM q with jG|jG
 ·have:=h6 jG;omega
 ·have:=h5 jG;omega
theorem oF{q:Nat}(h:q<=1):(q:Int)=((q % Ba:Nat):Int)/\(q:Int)/4294967296=((q/Ba:Nat):Int):=by
 have:q<Ba:=aP h (by decide);refine⟨by rw[Nat.mod_eq_of_lt this],(Int.natCast_ediv q Ba).symm⟩
theorem kg(n:Nat):(n:Int) % 4294967296=((n % Ba:Nat):Int)/\(n:Int)/4294967296=((n/Ba:Nat):Int):=by
 have h:∀b:Nat,(n:Int) % (b:Int)=((n % b:Nat):Int)/\(n:Int)/ (b:Int)=((n/b:Nat):Int):=fun b=>⟨(Int.natCast_emod n b).symm,(Int.natCast_ediv n b).symm⟩;exact h Ba
theorem O4(A B:Option Addr)(xs ys:List Nat)(c d:Nat)(w:World)(ha:bQ w A c xs)(hb:bQ w B d ys)(hs:xs.length<70368744177664)(ht:ys.length<70368744177664)(hle:ys.length<=xs.length):
 Calls Tryz.prog 155 #[.slice A xs.length c, .slice B ys.length d] w (dW w (val xs+val ys)):=by
 have hmk:=jg (↑xs.length+1) (xs.length+1) (by omega) (by omega);have hle2:¬((xs.length:Int)<ys.length):=by omega
 go_enter Tryz.func155,Tryz.ntmps155
 go_wp2_with fail
 go_loopw [6,7] (fun t i wr=>O3 xs ys w xs.length t i wr) (fun _ i _=>xs.length+1- (intOf i).toNat)
 case atStart=>exact uw xs ys w xs.length
 case round=>
  obtain⟨k,q,zs,hk,rfl,rfl,hq,hl,hz,hrow,bP,h0,hv⟩:=hrel;have HV:=ah hv;have H0:=ah h0;have HL:=ah hl;clear hv h0 hl hmk
  by_cases hlt:k<xs.length+1
  ·have hs1:=hrow.cell (i:=k) (by rw[HL.out];omega);have oN:=hrow.frozen k;rw[H0.out k (aj _)]at hs1;have bx:xs[k]?.getD 0<4294967296:=ha.lb.get k;have bY:ys[k]?.getD 0<4294967296:=hb.lb.get k;have x0:¬k<xs.length->xs[k]?.getD 0=0:=fun h=>by rw[aQ (by omega)];rfl
   have y0:¬k<ys.length->ys[k]?.getD 0=0:=fun h=>by rw[aQ (by omega)];rfl
   by_cases hxk:k<xs.length
   ·clear x0
    by_cases K2:k<ys.length
    ·obtain⟨x,ex⟩:=xeq (xs[k]?.getD 0);rw[ex]at bx;have EX:=ah ex;clear ex;obtain⟨y,ey⟩:=xeq (ys[k]?.getD 0);rw[ey]at bY;have EY:=ah ey;clear ey y0;obtain⟨b1,o1,rfl,hb1,hc1⟩:=ha.at_ (by omega);have hx:=(bP.cell (p:=⟨b1,o1+k,none⟩) hb1).trans (hc1 k hxk);rw[EX.out]at hx;clear hc1;obtain⟨b2,o2,rfl,hb2,hc2⟩:=hb.at_ (by omega);have hy:=(bP.cell (p:=⟨b2,o2+k,none⟩) hb2).trans (hc2 k K2);rw[EY.out]at hy;clear hc2;have ux:=fun(a b:Int)=> @kB xs ys zs w wr xs.length k q a b ha.lb hb.lb hlt hq HL.out hz hrow bP H0.out HV.out;rw[EX.out,EY.out]at ux;have md:=kg (q+x+y);have ec:((q+x+y:Nat):Int)=(q:Int)+x+y:=by omega
     rw[ec]at md;have nx:=ux _ _ md.1 md.2;clear md ec;have NX:=ah nx;clear ux nx;go_wp2
     go_roundw
     case rel=>exact NX.out
     case measure=>simp[intOf];omega
    ·obtain⟨x,ex⟩:=xeq (xs[k]?.getD 0);rw[ex]at bx;have EX:=ah ex;clear ex;have EY:=ah (y0 K2);clear y0 bY;obtain⟨b1,o1,rfl,hb1,hc1⟩:=ha.at_ (by omega);have hx:=(bP.cell (p:=⟨b1,o1+k,none⟩) hb1).trans (hc1 k hxk);rw[EX.out]at hx;clear hc1;have Ub:¬((k:Int)<ys.length):=by omega
     have ux:=fun(a b:Int)=> @kB xs ys zs w wr xs.length k q a b ha.lb hb.lb hlt hq HL.out hz hrow bP H0.out HV.out;rw[EX.out,EY.out]at ux;have md:=kg (q+x+0);have ec:((q+x+0:Nat):Int)=(q:Int)+x:=by omega
     rw[ec]at md;have nx:=ux _ _ md.1 md.2;clear md ec;have NX:=ah nx;clear ux nx;go_wp2
     go_roundw
     case rel=>exact NX.out
     case measure=>simp[intOf];omega
   ·by_cases K2:k<ys.length
    ·exfalso;omega
    ·have EX:=ah (x0 hxk);clear x0 bx;have EY:=ah (y0 K2);clear y0 bY;have Zm:¬((k:Int)<xs.length):=by omega
     have Ub:¬((k:Int)<ys.length):=by omega
     have ux:=fun(a b:Int)=> @kB xs ys zs w wr xs.length k q a b ha.lb hb.lb hlt hq HL.out hz hrow bP H0.out HV.out;rw[EX.out,EY.out]at ux;have nx:=ux _ _ (oF hq).1 (oF hq).2;have NX:=ah nx;clear ux nx;go_wp2
     go_roundw
     case rel=>exact NX.out
     case measure=>simp[intOf];omega
  ·obtain rfl:k=xs.length+1:=by omega
   have iR:=ah (AP ha.lb hb.lb (by omega) (by omega) HL.out hz HV.out);have hown:=hrow.own hz (aj _) (by have:=HL.out;omega);go_wp2_with fail
   have e1:=HL.out;rw[<-e1];clear e1;refine(fe _ zs _ _ hown.lim (by have:=HL.out;omega)).mono ?_;rintro e w' ⟨A',c',rfl,r3,r4⟩;rw[iR.out]at r3⊢;go_wp2
   go_ret;exact⟨A',c',rfl,r3.mono bP.size,bP.trans (r4.mono bP.size)⟩
theorem O5(A B:Option Addr)(xs ys:List Nat)(c d:Nat)(w:World)(ha:bQ w A c xs)(hb:bQ w B d ys)(hs:xs.length<70368744177664)(ht:ys.length<70368744177664)(hle:xs.length<ys.length):
 Calls Tryz.prog 155 #[.slice A xs.length c, .slice B ys.length d] w (dW w (val xs+val ys)):=by
 have hmk:=jg (↑ys.length+1) (ys.length+1) (by omega) (by omega);have hle2:(xs.length:Int)<ys.length:=by omega
 go_enter Tryz.func155,Tryz.ntmps155
 go_wp2_with fail
 go_loopw [6,7] (fun t i wr=>O3 xs ys w ys.length t i wr) (fun _ i _=>ys.length+1- (intOf i).toNat)
 case atStart=>exact uw xs ys w ys.length
 case round=>
  obtain⟨k,q,zs,hk,rfl,rfl,hq,hl,hz,hrow,bP,h0,hv⟩:=hrel;have HV:=ah hv;have H0:=ah h0;have HL:=ah hl;clear hv h0 hl hmk
  by_cases hlt:k<ys.length+1
  ·have hs1:=hrow.cell (i:=k) (by rw[HL.out];omega);have oN:=hrow.frozen k;rw[H0.out k (aj _)]at hs1;have bx:xs[k]?.getD 0<4294967296:=ha.lb.get k;have bY:ys[k]?.getD 0<4294967296:=hb.lb.get k;have x0:¬k<xs.length->xs[k]?.getD 0=0:=fun h=>by rw[aQ (by omega)];rfl
   have y0:¬k<ys.length->ys[k]?.getD 0=0:=fun h=>by rw[aQ (by omega)];rfl
   by_cases hxk:k<xs.length
   ·clear x0
    by_cases K2:k<ys.length
    ·obtain⟨x,ex⟩:=xeq (xs[k]?.getD 0);rw[ex]at bx;have EX:=ah ex;clear ex;obtain⟨y,ey⟩:=xeq (ys[k]?.getD 0);rw[ey]at bY;have EY:=ah ey;clear ey y0;obtain⟨b1,o1,rfl,hb1,hc1⟩:=ha.at_ (by omega);have hx:=(bP.cell (p:=⟨b1,o1+k,none⟩) hb1).trans (hc1 k hxk);rw[EX.out]at hx;clear hc1;obtain⟨b2,o2,rfl,hb2,hc2⟩:=hb.at_ (by omega);have hy:=(bP.cell (p:=⟨b2,o2+k,none⟩) hb2).trans (hc2 k K2);rw[EY.out]at hy;clear hc2;have ux:=fun(a b:Int)=> @kB xs ys zs w wr ys.length k q a b ha.lb hb.lb hlt hq HL.out hz hrow bP H0.out HV.out;rw[EX.out,EY.out]at ux;have md:=kg (q+x+y);have ec:((q+x+y:Nat):Int)=(q:Int)+x+y:=by omega
     rw[ec]at md;have nx:=ux _ _ md.1 md.2;clear md ec;have NX:=ah nx;clear ux nx;go_wp2
     go_roundw
     case rel=>exact NX.out
     case measure=>simp[intOf];omega
    ·exfalso;omega
   ·by_cases K2:k<ys.length
    ·have EX:=ah (x0 hxk);clear x0 bx;obtain⟨y,ey⟩:=xeq (ys[k]?.getD 0);rw[ey]at bY;have EY:=ah ey;clear ey y0;have Zm:¬((k:Int)<xs.length):=by omega
     obtain⟨b2,o2,rfl,hb2,hc2⟩:=hb.at_ (by omega);have hy:=(bP.cell (p:=⟨b2,o2+k,none⟩) hb2).trans (hc2 k K2);rw[EY.out]at hy;clear hc2;have ux:=fun(a b:Int)=> @kB xs ys zs w wr ys.length k q a b ha.lb hb.lb hlt hq HL.out hz hrow bP H0.out HV.out;rw[EX.out,EY.out]at ux;have md:=kg (q+0+y);have ec:((q+0+y:Nat):Int)=(q:Int)+y:=by omega
     rw[ec]at md;have nx:=ux _ _ md.1 md.2;clear md ec;have NX:=ah nx;clear ux nx;go_wp2
     go_roundw
     case rel=>exact NX.out
     case measure=>simp[intOf];omega
    ·have EX:=ah (x0 hxk);clear x0 bx;have EY:=ah (y0 K2);clear y0 bY;have Zm:¬((k:Int)<xs.length):=by omega
     have Ub:¬((k:Int)<ys.length):=by omega
     have ux:=fun(a b:Int)=> @kB xs ys zs w wr ys.length k q a b ha.lb hb.lb hlt hq HL.out hz hrow bP H0.out HV.out;rw[EX.out,EY.out]at ux;have nx:=ux _ _ (oF hq).1 (oF hq).2;have NX:=ah nx;clear ux nx;go_wp2
     go_roundw
     case rel=>exact NX.out
     case measure=>simp[intOf];omega
  ·obtain rfl:k=ys.length+1:=by omega
   have iR:=ah (AP ha.lb hb.lb (by omega) (by omega) HL.out hz HV.out);have hown:=hrow.own hz (aj _) (by have:=HL.out;omega);go_wp2_with fail
   have e1:=HL.out;rw[<-e1];clear e1;refine(fe _ zs _ _ hown.lim (by have:=HL.out;omega)).mono ?_;rintro e w' ⟨A',c',rfl,r3,r4⟩;rw[iR.out]at r3⊢;go_wp2
   go_ret;exact⟨A',c',rfl,r3.mono bP.size,bP.trans (r4.mono bP.size)⟩
theorem DC(A B:Option Addr)(xs ys:List Nat)(c d:Nat)(w:World)(ha:bQ w A c xs)(hb:bQ w B d ys)(hs:xs.length<70368744177664)(ht:ys.length<70368744177664):
 Calls Tryz.prog 155 #[.slice A xs.length c, .slice B ys.length d] w (dW w (val xs+val ys)):=by
 rcases aN xs.length ys.length with h|h
 ·exact O5 A B xs ys c d w ha hb hs ht h
 ·exact O4 A B xs ys c d w ha hb hs ht h
/- Contracts of the reference of layer 1: differences, products. -/
def Wf(w:World)(e:Ending)(w':World):Prop:=e= .returned (.tuple #[.slice none 0 0, .bool false])/\Below w.heap.size w w'
theorem yJ(A B:Option Addr)(xs ys:List Nat)(c d:Nat)(w:World)(ha:bQ w A c xs)(hb:bQ w B d ys)(hs:xs.length<=70368744177664)(ht:ys.length<=70368744177664)(hlt:val xs<val ys):
 Calls Tryz.prog 157 #[.slice A xs.length c, .slice B ys.length d] w (Wf w):=by
 have EC:=ah (lG hlt);clear hlt;go_enter Tryz.func157,Tryz.ntmps157
 go_wp2_with fail
 refine(ur _ _ _ _ _ _ _ ha hb hs ht).mono ?_;rintro e w1 ⟨rfl,b1⟩;rw[EC.out];go_wp2_with fail
 go_ret2;exact⟨rfl,b1⟩
def Zn(us vs:List Nat)(w:World)(g:Nat)(t i:Value)(wr:World):Prop:=
 ∃(k q:Nat) (zs:List Nat),k<=us.length/\i= .int .i64 k/\t= .int .u64 q/\q<=1/\zs.length=us.length/\Lb zs/\Row wr g zs/\Below g w wr/\(∀j,k<=j->zs[j]?.getD 0=0)/\val zs+val (vs.take k)=val (us.take k)+Ba ^ k*q
theorem oG{us vs zs:List Nat}{w wr:World}{g k q:Nat}{a:Int}{z r:Nat}(hk:k<us.length)(hl:zs.length=us.length)(hz:Lb zs)(hrow:Row wr g zs)(bP:Below g w wr)(h0:∀j,k<=j->zs[j]?.getD 0=0)
 (hv:val zs+val (vs.take k)=val (us.take k)+Ba ^ k*q) (ha:a=(z:Int)) (Hy:z<Ba) (hr:r<=1) (he:z+q+vs[k]?.getD 0=us[k]?.getD 0+r*Ba):
 Zn us vs w g (.int .u64 (r:Int)) (.int .i64 ((k:Int)+1)) (wr.setCell ⟨g,k,none⟩ (.int .u32 a)):=by
 refine⟨k+1,r,zs.set k z,by omega,rfl,rfl,hr,by rw[List.length_set];exact hl,hz.set _ _ Hy,hrow.put k z ha,bP.setCell (aj _) _,dN h0,?_⟩;have iW:r=0∨r=1:=by omega
 rcases iW with rfl|rfl
 ·exact nI (by omega) h0 hv (by omega)
 ·exact jX (by omega) h0 hv (by omega)
theorem sS(A B:Option Addr)(xs ys:List Nat)(c d:Nat)(w:World)(ha:bQ w A c xs)(hb:bQ w B d ys)(hs:xs.length<=70368744177664)(ht:ys.length<=70368744177664)(hge:val ys<=val xs):
 Calls Tryz.prog 157 #[.slice A xs.length c, .slice B ys.length d] w (kF w (val xs-val ys)):=by
 have ec:0<=gq (val xs) (val ys):=by
  rcases Nat.lt_or_eq_of_le hge with h|h
  ·rw[iE h];omega
  ·rw[jY h.symm];omega
 go_enter Tryz.func157,Tryz.ntmps157
 go_wp2_with fail
 refine(ur _ _ _ _ _ _ _ ha hb hs ht).mono ?_;rintro e w0 ⟨rfl,b0⟩;generalize gq (val xs) (val ys)=z at*;have YI:¬z<0:=by omega
 go_wp2_with fail
 refine(fe _ _ _ _ (ha.below b0) hs).mono ?_;rintro e w1 ⟨A1,c1,rfl,r1,b1⟩;go_wp2_with fail
 refine(fe _ _ _ _ ((hb.below b0).below b1) ht).mono ?_;rintro e w2 ⟨A2,c2,rfl,r2,b2⟩;have la:=bh ha.lb;have lb:=bh hb.lb;have hle:=bN hge;have HGE:=ah hge;have EA:=ah (aV (val xs));have EB:=ah (aV (val ys));have HB:=ah ((b0.trans (b1.mono b0.size)).trans (b2.mono (ay b0.size b1.size)));clear ha hb hge;have ha:=r1.lim.below b2;have hb:=r2.lim;clear r1 r2 b1 b2 b0;generalize limbs (val xs)=us at*;generalize limbs (val ys)=vs at*;have hmk:=jg (↑us.length) us.length rfl (by omega);go_wp2_with fail
 go_loopw [7,8] (fun t i wr=>Zn us vs w2 w2.heap.size t i wr) (fun _ i _=>us.length- (intOf i).toNat)
 case atStart=>exact⟨0,0,zeros us.length,aF _,rfl,rfl,by omega,cS _,gB _,Row.new _ _,(aq _ _).alloc (aj _) _,fun j _=>gK _ _,by simp[fV,val]⟩
 case round=>
  obtain⟨k,q,zs,hk,rfl,rfl,hq,hl,hz,hrow,bP,h0,hv⟩:=hrel;have HV:=ah hv;have H0:=ah h0;have HL:=ah hl;clear hv h0 hl hmk
  by_cases hlt:k<us.length
  ·obtain⟨b1,o1,rfl,hb1,hc1⟩:=ha.at_ (by omega);have hx:=(bP.cell (p:=⟨b1,o1+k,none⟩) hb1).trans (hc1 k hlt);have bx:us[k]?.getD 0<4294967296:=ha.lb.get k;obtain⟨x,ex⟩:=xeq (us[k]?.getD 0);rw[ex]at hx bx;have EX:=ah ex;have hs1:=hrow.cell (i:=k) (by rw[HL.out];omega);have oN:=hrow.frozen k;rw[H0.out k (aj _)]at hs1;clear ex hc1
   by_cases K2:k<vs.length
   ·obtain⟨b2,o2,rfl,hb2,hc2⟩:=hb.at_ (by omega);have hy:=(bP.cell (p:=⟨b2,o2+k,none⟩) hb2).trans (hc2 k K2);have bY:vs[k]?.getD 0<4294967296:=hb.lb.get k;obtain⟨y,ey⟩:=xeq (vs[k]?.getD 0);rw[ey]at hy bY;have EY:=ah ey;clear ey hc2
    by_cases hxy:x<q+y
    ·have nx:= @oG us vs zs w2 wr w2.heap.size k q ((x:Int)+4294967296- ((q:Int)+y)) (x+Ba- (q+y)) 1 hlt HL.out hz hrow bP H0.out HV.out (by have:=bU;omega) (by have:=bU;omega) (by omega) (by rw[EX.out,EY.out];have:=bU;omega);have NX:=ah nx;clear nx;have hxy':(x:Int)< ((q:Int)+y):=by omega
     go_wp2
     go_roundw
     case rel=>exact NX.out
     case measure=>simp[intOf];omega
    ·have nx:= @oG us vs zs w2 wr w2.heap.size k q ((x:Int) - ((q:Int)+y)) (x- (q+y)) 0 hlt HL.out hz hrow bP H0.out HV.out (by omega) (by have:=bU;omega) (by omega) (by rw[EX.out,EY.out];omega);have NX:=ah nx;clear nx;have hxy':¬(x:Int)< ((q:Int)+y):=by omega
     go_wp2
     go_roundw
     case rel=>exact NX.out
     case measure=>simp[intOf];omega
   ·have Ub:¬((k:Int)<vs.length):=by omega
    have EY:Hid (vs[k]?.getD 0=0):=by
     show vs[k]?.getD 0=0
     rw[aQ (by omega)];rfl
    by_cases hxy:x<q
    ·have nx:= @oG us vs zs w2 wr w2.heap.size k q ((x:Int)+4294967296- (q:Int)) (x+Ba- (q)) 1 hlt HL.out hz hrow bP H0.out HV.out (by have:=bU;omega) (by have:=bU;omega) (by omega) (by rw[EX.out,EY.out];have:=bU;omega);have NX:=ah nx;clear nx;have hxy':(x:Int)< (q:Int):=by omega
     go_wp2
     go_roundw
     case rel=>exact NX.out
     case measure=>simp[intOf];omega
    ·have nx:= @oG us vs zs w2 wr w2.heap.size k q ((x:Int) - (q:Int)) (x- (q)) 0 hlt HL.out hz hrow bP H0.out HV.out (by omega) (by have:=bU;omega) (by omega) (by rw[EX.out,EY.out];omega);have NX:=ah nx;clear nx;have hxy':¬(x:Int)< (q:Int):=by omega
     go_wp2
     go_roundw
     case rel=>exact NX.out
     case measure=>simp[intOf];omega
  ·obtain rfl:k=us.length:=by omega
   have hval:val zs=val xs-val ys:=by
    rw[<-EA.out,<-EB.out];have:=HV.out;rw[aI (aj _),aI (by omega)]at this;exact FA hz HL.out (by rw[EA.out,EB.out];exact HGE.out) this
   have iR:=ah hval;clear hval;have hown:=hrow.own hz (aj _) (by have:=HL.out;omega);go_wp2_with fail
   have e1:=HL.out;rw[<-e1];clear e1;refine(fe _ zs _ _ hown.lim (by have:=HL.out;omega)).mono ?_;rintro e w' ⟨A',c',rfl,r3,r4⟩;rw[iR.out]at r3⊢;go_wp2
   go_ret2;exact⟨A',c',rfl,r3.mono (ay HB.out.size bP.size),(HB.out.trans (bP.mono HB.out.size)).trans (r4.mono (ay HB.out.size bP.size))⟩
/- Contracts of the reference of layer 2: negation, absolute value, sums, differences, products. -/
theorem uy(p:Bool)(n:Nat):iv p (limbs n)=dI p n:=by rw[RJ,aV]
theorem Uc(p:Bool)(A:Option Addr)(xs:List Nat)(c:Nat)(w:World)(ha:bQ w A c xs)(hs:xs.length<=70368744177664):
 Calls Tryz.prog 107 #[.agg #[.bool p, .slice A xs.length c]] w (bW w (- iv p xs)):=by
 have EV:=ah (show iv (!p) xs= - iv p xs from Dz p xs);go_enter Tryz.func107,Tryz.ntmps107
 go_wp2_with fail
 obtain⟨W,hW,bC,hsz,k,kr⟩:=nO w p (.slice A xs.length c);rw[hW];clear hW;have hz:w.heap.size+2<=W.heap.size:=by omega
 clear hsz;refine(pG (!p) A xs c _ (ha.below bC) hs).mono ?_;rw[EV.out];rintro e w1 ⟨A1,c1,rfl,r3,dM⟩;generalize-iv p xs=z at*;obtain⟨m1,m2,m3,m4⟩:=dO dM (show w.heap.size+1<W.heap.size by omega) kr
 have cE:bW w z (.returned (.agg #[.bool (decide (z<0)), .slice A1 (limbs z.natAbs).length c1]))
  ((w1.setCell ⟨w.heap.size+1,0,none⟩ (.bool (decide (z<0)))).setCell ⟨w.heap.size+1,1,none⟩ (.slice A1 (limbs z.natAbs).length c1)):=
  ⟨A1,c1,rfl,(r3.iL (show w.heap.size+1<W.heap.size by omega) _ _).mono (show w.heap.size<=W.heap.size by omega),bH (bC.trans (dM.mono (show w.heap.size<=W.heap.size by omega))) (by omega) _ _⟩
 clear r3 dM bC kr k;go_wp2
 exact bodyPost_ret (v:= .agg #[.bool (decide (z<0)), .slice A1 (limbs z.natAbs).length c1]) (by simp[results,Tryz.results107,go_sem,m1,m2]) rfl cE
theorem Ud(p:Bool)(A:Option Addr)(xs:List Nat)(c:Nat)(w:World)(ha:bQ w A c xs)(hs:xs.length<=70368744177664):
 Calls Tryz.prog 131 #[.agg #[.bool p, .slice A xs.length c]] w (bW w (((val xs:Nat):Int))):=by
 have EV:=ah (show iv false xs=((val xs:Nat):Int)from rfl);go_enter Tryz.func131,Tryz.ntmps131
 go_wp2_with fail
 obtain⟨W,hW,bC,hsz,k,kr⟩:=nO w p (.slice A xs.length c);rw[hW];clear hW;have hz:w.heap.size+2<=W.heap.size:=by omega
 clear hsz;refine(pG false A xs c _ (ha.below bC) hs).mono ?_;rw[EV.out];rintro e w1 ⟨A1,c1,rfl,r3,dM⟩;generalize ((val xs:Nat):Int)=z at*;obtain⟨m1,m2,m3,m4⟩:=dO dM (show w.heap.size+1<W.heap.size by omega) kr
 have cE:bW w z (.returned (.agg #[.bool (decide (z<0)), .slice A1 (limbs z.natAbs).length c1]))
  ((w1.setCell ⟨w.heap.size+1,0,none⟩ (.bool (decide (z<0)))).setCell ⟨w.heap.size+1,1,none⟩ (.slice A1 (limbs z.natAbs).length c1)):=
  ⟨A1,c1,rfl,(r3.iL (show w.heap.size+1<W.heap.size by omega) _ _).mono (show w.heap.size<=W.heap.size by omega),bH (bC.trans (dM.mono (show w.heap.size<=W.heap.size by omega))) (by omega) _ _⟩
 clear r3 dM bC kr k;go_wp2
 exact bodyPost_ret (v:= .agg #[.bool (decide (z<0)), .slice A1 (limbs z.natAbs).length c1]) (by simp[results,Tryz.results131,go_sem,m1,m2]) rfl cE
theorem DE(p:Bool)(A:Option Addr)(xs:List Nat)(c:Nat)(w:World)(s:Int)(h:bQ w A c xs)(hs:xs.length<=70368744177664)(he:iv p xs=s):
 Calls Tryz.prog 103 #[.bool p, .slice A xs.length c] w (bW w s):=by
 subst he;exact pG p A xs c w h hs
theorem DF(p:Bool)(A B:Option Addr)(xs ys:List Nat)(c d:Nat)(w:World)(ha:bQ w A c xs)(hb:bQ w B d ys)(hs:xs.length<70368744177664)(ht:ys.length<70368744177664)(Fc:(limbs (val xs+val ys)).length<=70368744177664):
 Calls Tryz.prog 130 #[.agg #[.bool p, .slice A xs.length c], .agg #[.bool p, .slice B ys.length d]] w (bW w (iv p xs+iv p ys)):=by
 have EV:=ah (show iv p (limbs (val xs+val ys))=iv p xs+iv p ys from(uy p _).trans (FP p (val xs) (val ys)).symm);go_enter Tryz.func130,Tryz.ntmps130
 have hpp:(p==p)=true:=by simp
 go_wp2_with fail
 obtain⟨W,hW,bC,hsz,k,kr⟩:=fE w p p (.slice A xs.length c) (.slice B ys.length d);rw[hW];clear hW;have hz:w.heap.size+3<=W.heap.size:=by omega
 clear hsz;obtain⟨k1,k2,k3,k4⟩:=k;go_wp2_with fail
 go_region_held3 (fun w'=>w'.cell? ⟨w.heap.size,0,none⟩=some (.bool p)/\w'.cell? ⟨w.heap.size,1,none⟩=some (.slice A xs.length c)/\w'.cell? ⟨w.heap.size+1,0,none⟩=some (.bool p)/\w'.cell? ⟨w.heap.size+1,1,none⟩=some (.slice B ys.length d))
  (first|exact l1|exact l2|exact iA (bH (aq (w.heap.size+1+1) w2) (aj _) _ _) (aj _) l2|go_keep)
  (first
    |(go_at_call 155;refine(DC A B xs ys c d _ ?_ ?_ hs ht).mono ?_;exact ha.below (below_drewN bC 1);exact hb.below (below_drewN bC 1);rintro e w1 ⟨A1,c1,rfl,r3,dM⟩;have l1:=iA dM (show w.heap.size+2<=W.heap.size by omega) ⟨k1,k2,k3,k4⟩)
    |(go_at_call 103;refine(DE p A1 (limbs (val xs+val ys)) c1 _ (iv p xs+iv p ys) r3.lim Fc EV.out).mono ?_;rintro e w2 ⟨A2,c2,rfl,r4,fT⟩;have l2:=iA fT (ay (show w.heap.size+2<=W.heap.size by omega) dM.size) l1;obtain⟨m1,m2,m3,m4⟩:=dO (N:=w.heap.size+1+1) fT (ak (show w.heap.size+1+1<W.heap.size by omega) dM.size) (dO dM (show w.heap.size+1+1<W.heap.size by omega) kr)))
 have cF:Below w.heap.size w w2:=((below_drewN bC 1).trans (dM.mono (show w.heap.size<=W.heap.size by omega))).trans (fT.mono (ay (show w.heap.size<=W.heap.size by omega) dM.size));have FR:w.heap.size+1+1<w1.heap.size:=ak (show w.heap.size+1+1<W.heap.size by omega) dM.size;generalize iv p xs+iv p ys=z at*
 have cE:bW w z (.returned (.agg #[.bool (decide (z<0)), .slice A2 (limbs z.natAbs).length c2]))
  ((w2.setCell ⟨w.heap.size+1+1,0,none⟩ (.bool (decide (z<0)))).setCell ⟨w.heap.size+1+1,1,none⟩ (.slice A2 (limbs z.natAbs).length c2)):=
  ⟨A2,c2,rfl,(r4.iL FR _ _).mono (by omega),bH cF (by omega) _ _⟩
 clear cF r3 r4 dM fT bC kr l1 l2 k1 k2 k3 k4;go_wp2
 exact bodyPost_ret (v:= .agg #[.bool (decide (z<0)), .slice A2 (limbs z.natAbs).length c2]) (by simp[results,Tryz.results130,go_sem,m1,m2]) rfl cE
theorem Ue(p:Bool)(A:Option Addr)(xs:List Nat)(c:Nat)(w:World)(m s:Int)(K:Nat)(ha:bQ w A c xs)(hs:xs.length<=K)(hm:iv p xs=m)(h: -m=s)(hK:K<=70368744177664):
 Calls Tryz.prog 107 #[.agg #[.bool p, .slice A xs.length c]] w (bW w s):=by
 have k:=Uc p A xs c w ha (by omega);rw[hm,h]at k;exact k
theorem K3(p:Bool)(A B:Option Addr)(xs ys:List Nat)(c d:Nat)(w:World)(ha:bQ w A c xs)(hb:bQ w B d ys)(hs:xs.length<70368744177664)(ht:ys.length<70368744177664)(hge:val ys<=val xs):
 Calls Tryz.prog 130 #[.agg #[.bool p, .slice A xs.length c], .agg #[.bool (!p), .slice B ys.length d]] w (bW w (iv p xs+iv (!p) ys)):=by
 have hpp:(p==!p)=false:=by cases p<;>rfl
 have EV:=ah (show iv p (limbs (val xs-val ys))=iv p xs+iv (!p) ys from(uy p _).trans (FQ p hge).symm)
 have Fc:(limbs (val xs-val ys)).length<=70368744177664:=by
  have h1:=bh ha.lb;have h2:=bh hb.lb;have h3:=bN (Nat.sub_le (val xs) (val ys));have h4:=bN (Nat.sub_le (val ys) (val xs));omega
 go_enter Tryz.func130,Tryz.ntmps130
 go_wp2_with fail
 obtain⟨W,hW,bC,hsz,k,kr⟩:=fE w p (!p) (.slice A xs.length c) (.slice B ys.length d);rw[hW];clear hW;have hz:w.heap.size+3<=W.heap.size:=by omega
 clear hsz;obtain⟨k1,k2,k3,k4⟩:=k;go_wp2_with fail
 refine(sS A B xs ys c d _ (ha.below bC) (hb.below bC) (aR hs) (aR ht) hge).mono ?_;rintro e w1 ⟨A1,c1,rfl,r3,Jt⟩;obtain⟨l1,l2,l3,l4⟩:=iA Jt (show w.heap.size+2<=W.heap.size by omega) ⟨k1,k2,k3,k4⟩;go_wp2_with fail
 refine(DE p A1 (limbs (val xs-val ys)) c1 _ (iv p xs+iv (!p) ys) r3.lim Fc EV.out).mono ?_;rintro e w2 ⟨A2,c2,rfl,r4,fT⟩;have FR:w.heap.size+1+1<w1.heap.size:=ak (show w.heap.size+1+1<W.heap.size by omega) Jt.size;obtain⟨m1,m2,m3,m4⟩:=dO (N:=w.heap.size+1+1) fT FR (dO Jt (show w.heap.size+1+1<W.heap.size by omega) kr);have cF:Below w.heap.size w w2:=(bC.trans (Jt.mono (show w.heap.size<=W.heap.size by omega))).trans (fT.mono (ay (show w.heap.size<=W.heap.size by omega) Jt.size));generalize iv p xs+iv (!p) ys=z at*
 have cE:bW w z (.returned (.agg #[.bool (decide (z<0)), .slice A2 (limbs z.natAbs).length c2]))
  ((w2.setCell ⟨w.heap.size+1+1,0,none⟩ (.bool (decide (z<0)))).setCell ⟨w.heap.size+1+1,1,none⟩ (.slice A2 (limbs z.natAbs).length c2)):=
  ⟨A2,c2,rfl,(r4.iL FR _ _).mono (by omega),bH cF (by omega) _ _⟩
 clear cF r3 r4 Jt fT bC kr l1 l2 l3 l4 k1 k2 k3 k4;go_wp2
 exact bodyPost_ret (v:= .agg #[.bool (decide (z<0)), .slice A2 (limbs z.natAbs).length c2]) (by simp[results,Tryz.results130,go_sem,m1,m2]) rfl cE
theorem K4(p:Bool)(A B:Option Addr)(xs ys:List Nat)(c d:Nat)(w:World)(ha:bQ w A c xs)(hb:bQ w B d ys)(hs:xs.length<70368744177664)(ht:ys.length<70368744177664)(hlt:val xs<val ys):
 Calls Tryz.prog 130 #[.agg #[.bool p, .slice A xs.length c], .agg #[.bool (!p), .slice B ys.length d]] w (bW w (iv p xs+iv (!p) ys)):=by
 have hpp:(p==!p)=false:=by cases p<;>rfl
 have EV:=ah (show iv (!p) (limbs (val ys-val xs))=iv p xs+iv (!p) ys from(uy (!p) _).trans (AO p (aR hlt)).symm)
 have Fc:(limbs (val ys-val xs)).length<=70368744177664:=by
  have h1:=bh ha.lb;have h2:=bh hb.lb;have h3:=bN (Nat.sub_le (val xs) (val ys));have h4:=bN (Nat.sub_le (val ys) (val xs));omega
 go_enter Tryz.func130,Tryz.ntmps130
 go_wp2_with fail
 obtain⟨W,hW,bC,hsz,k,kr⟩:=fE w p (!p) (.slice A xs.length c) (.slice B ys.length d);rw[hW];clear hW;have hz:w.heap.size+3<=W.heap.size:=by omega
 clear hsz;obtain⟨k1,k2,k3,k4⟩:=k;go_wp2_with fail
 refine(yJ A B xs ys c d _ (ha.below bC) (hb.below bC) (aR hs) (aR ht) hlt).mono ?_;rintro e w0 ⟨rfl,b0⟩;obtain⟨i1,i2,i3,i4⟩:=iA b0 (show w.heap.size+2<=W.heap.size by omega) ⟨k1,k2,k3,k4⟩;go_wp2_with fail
 refine(sS B A ys xs d c _ ((hb.below bC).below b0) ((ha.below bC).below b0) (aR ht) (aR hs) (aR hlt)).mono ?_;rintro e w1 ⟨A1,c1,rfl,r3,b1⟩;have Jt:Below W.heap.size W w1:=b0.trans (b1.mono b0.size);obtain⟨l1,l2,l3,l4⟩:=iA Jt (show w.heap.size+2<=W.heap.size by omega) ⟨k1,k2,k3,k4⟩;clear i1 i2 i3 i4 b0 b1;go_wp2_with fail
 refine(DE (!p) A1 (limbs (val ys-val xs)) c1 _ (iv p xs+iv (!p) ys) r3.lim Fc EV.out).mono ?_;rintro e w2 ⟨A2,c2,rfl,r4,fT⟩;have FR:w.heap.size+1+1<w1.heap.size:=ak (show w.heap.size+1+1<W.heap.size by omega) Jt.size;obtain⟨m1,m2,m3,m4⟩:=dO (N:=w.heap.size+1+1) fT FR (dO Jt (show w.heap.size+1+1<W.heap.size by omega) kr);have cF:Below w.heap.size w w2:=(bC.trans (Jt.mono (show w.heap.size<=W.heap.size by omega))).trans (fT.mono (ay (show w.heap.size<=W.heap.size by omega) Jt.size));generalize iv p xs+iv (!p) ys=z at*
 have cE:bW w z (.returned (.agg #[.bool (decide (z<0)), .slice A2 (limbs z.natAbs).length c2]))
  ((w2.setCell ⟨w.heap.size+1+1,0,none⟩ (.bool (decide (z<0)))).setCell ⟨w.heap.size+1+1,1,none⟩ (.slice A2 (limbs z.natAbs).length c2)):=
  ⟨A2,c2,rfl,(r4.iL FR _ _).mono (by omega),bH cF (by omega) _ _⟩
 clear cF r3 r4 Jt fT bC kr l1 l2 l3 l4 k1 k2 k3 k4;go_wp2
 exact bodyPost_ret (v:= .agg #[.bool (decide (z<0)), .slice A2 (limbs z.natAbs).length c2]) (by simp[results,Tryz.results130,go_sem,m1,m2]) rfl cE
theorem FT(p q:Bool)(A B:Option Addr)(xs ys:List Nat)(c d:Nat)(w:World)(ha:bQ w A c xs)(hb:bQ w B d ys)(hs:xs.length<70368744177664)(ht:ys.length<70368744177664)(hz:(limbs (val xs+val ys)).length<=70368744177664):
 Calls Tryz.prog 130 #[.agg #[.bool p, .slice A xs.length c], .agg #[.bool q, .slice B ys.length d]] w (bW w (iv p xs+iv q ys)):=by
 by_cases h:p=q
 ·subst h;exact DF p A B xs ys c d w ha hb hs ht hz
 ·obtain rfl:q=!p:=by cases p<;>cases q<;>simp_all
  rcases aN (val xs) (val ys)with hl|hl
  ·exact K4 p A B xs ys c d w ha hb hs ht hl
  ·exact K3 p A B xs ys c d w ha hb hs ht hl
theorem O6(p q:Bool)(A B:Option Addr)(xs ys:List Nat)(c d:Nat)(w:World)(s:Int)(ha:bQ w A c xs)(hb:bQ w B d ys)(hs:xs.length<70368744177664)(ht:ys.length<70368744177664)(hz:(limbs (val xs+val ys)).length<=70368744177664)(h:iv p xs+iv q ys=s):
 Calls Tryz.prog 130 #[.agg #[.bool p, .slice A xs.length c], .agg #[.bool q, .slice B ys.length d]] w (bW w s):=by
 subst h;exact FT p q A B xs ys c d w ha hb hs ht hz
theorem O7(p q:Bool)(A B:Option Addr)(xs ys:List Nat)(c d:Nat)(w:World)(ha:bQ w A c xs)(hb:bQ w B d ys)(hs:xs.length<70368744177664)(ht:ys.length<70368744177664)(hz:(limbs (val xs+val ys)).length<=70368744177664):
 Calls Tryz.prog 132 #[.agg #[.bool p, .slice A xs.length c], .agg #[.bool q, .slice B ys.length d]] w (bW w (iv p xs-iv q ys)):=by
 have ly:=bh hb.lb;have en:(- iv q ys).natAbs=val ys:=by rw[Int.natAbs_neg,mq]
 obtain⟨y,ey⟩:=xeq (- iv q ys);have es:iv p xs+iv (decide (y<0)) (limbs y.natAbs)=iv p xs-iv q ys:=by rw[dS,<-ey,Int.sub_eq_add_neg]
 rw[ey]at en;have lz:(limbs y.natAbs).length<70368744177664:=by rw[en];omega
 have hz2:(limbs (val xs+val (limbs y.natAbs))).length<=70368744177664:=by rw[aV,en];exact hz
 have EY:=ah ey;have ES:=ah es;clear ey es en;go_enter Tryz.func132,Tryz.ntmps132
 go_wp2_with fail
 obtain⟨W,hW,bC,hsz,k,kr⟩:=fE w p q (.slice A xs.length c) (.slice B ys.length d);rw[hW];clear hW;have hzz:w.heap.size+3<=W.heap.size:=by omega
 clear hsz;obtain⟨k1,k2,k3,k4⟩:=k
 go_region_held3 (fun w'=>w'.cell? ⟨w.heap.size,0,none⟩=some (.bool p)/\w'.cell? ⟨w.heap.size,1,none⟩=some (.slice A xs.length c)/\w'.cell? ⟨w.heap.size+1,0,none⟩=some (.bool q)/\w'.cell? ⟨w.heap.size+1,1,none⟩=some (.slice B ys.length d))
  (first|exact l1|exact l2|exact iA (bH (aq (w.heap.size+1+1) w2) (aj _) _ _) (aj _) l2|go_keep)
  (first
    |(go_at_call 107;refine(Ue q B ys d _ (iv q ys) y 70368744177664 ?_ (aR ht) rfl EY.out (aj _)).mono ?_;exact hb.below (below_drewN bC 1);rintro e w1 ⟨A1,c1,rfl,r3,dM⟩;have l1:=iA dM (show w.heap.size+2<=W.heap.size by omega) ⟨k1,k2,k3,k4⟩)
    |(go_at_call 130;refine(O6 p (decide (y<0)) A A1 xs (limbs y.natAbs) c c1 _ (iv p xs-iv q ys) ?_ r3.lim hs lz hz2 ES.out).mono ?_;exact(ha.below (below_drewN bC 1)).below dM;rintro e w2 ⟨A2,c2,rfl,r4,fT⟩;have l2:=iA fT (ay (show w.heap.size+2<=W.heap.size by omega) dM.size) l1;obtain⟨m1,m2,m3,m4⟩:=dO (N:=w.heap.size+1+1) fT (ak (show w.heap.size+1+1<W.heap.size by omega) dM.size) (dO dM (show w.heap.size+1+1<W.heap.size by omega) kr)))
 have cF:Below w.heap.size w w2:=((below_drewN bC 1).trans (dM.mono (show w.heap.size<=W.heap.size by omega))).trans (fT.mono (ay (show w.heap.size<=W.heap.size by omega) dM.size));have FR:w.heap.size+1+1<w1.heap.size:=ak (show w.heap.size+1+1<W.heap.size by omega) dM.size;generalize iv p xs-iv q ys=z at*
 have cE:bW w z (.returned (.agg #[.bool (decide (z<0)), .slice A2 (limbs z.natAbs).length c2]))
  ((w2.setCell ⟨w.heap.size+1+1,0,none⟩ (.bool (decide (z<0)))).setCell ⟨w.heap.size+1+1,1,none⟩ (.slice A2 (limbs z.natAbs).length c2)):=
  ⟨A2,c2,rfl,(r4.iL FR _ _).mono (by omega),bH cF (by omega) _ _⟩
 clear cF r3 r4 dM fT bC kr l1 l2 k1 k2 k3 k4;go_wp2
 exact bodyPost_ret (v:= .agg #[.bool (decide (z<0)), .slice A2 (limbs z.natAbs).length c2]) (by simp[results,Tryz.results132,go_sem,m1,m2]) rfl cE
section
variable (p q:Bool)(A B:Option Addr)(xs ys:List Nat)(c d:Nat)(w:World)(m n s:Int)(K L:Nat)
theorem FU{xs ys:List Nat}{K L:Nat}(hx:Lb xs)(hy:Lb ys)(hs:xs.length<=K)(ht:ys.length<=L)(hK:K<70368744177664)(hL:L<70368744177664):(limbs (val xs+val ys)).length<=70368744177664:=by
 have h1:=bh hx;have h2:=bh hy;have h3:=jZ (k:=70368744177663) (show(limbs (val xs)).length<=_ by omega) (show(limbs (val ys)).length<=_ by omega);omega
theorem FV(ha:bQ w A c xs)(hb:bQ w B d ys)(hs:xs.length<=K)(ht:ys.length<=L)(hm:iv p xs=m)(hn:iv q ys=n)(h:m+n=s)(hK:K<70368744177664)(hL:L<70368744177664):
 Calls Tryz.prog 130 #[.agg #[.bool p, .slice A xs.length c], .agg #[.bool q, .slice B ys.length d]] w (bW w s):=by
 have k:=FT p q A B xs ys c d w ha hb (by omega) (by omega) (FU ha.lb hb.lb hs ht hK hL);rw[hm,hn,h]at k;exact k
theorem O8(ha:bQ w A c xs)(hb:bQ w B d ys)(hs:xs.length<=K)(ht:ys.length<=L)(hm:iv p xs=m)(hn:iv q ys=n)(h:m-n=s)(hK:K<70368744177664)(hL:L<70368744177664):
 Calls Tryz.prog 132 #[.agg #[.bool p, .slice A xs.length c], .agg #[.bool q, .slice B ys.length d]] w (bW w s):=by
 have k:=O7 p q A B xs ys c d w ha hb (by omega) (by omega) (FU ha.lb hb.lb hs ht hK hL);rw[hm,hn,h]at k;exact k
end
theorem Uf(p:Bool)(A:Option Addr)(xs:List Nat)(c:Nat)(w:World)(m s:Int)(K:Nat)(ha:bQ w A c xs)(hs:xs.length<=K)(hm:iv p xs=m)(h:((m.natAbs:Nat):Int)=s)(hK:K<=70368744177664):
 Calls Tryz.prog 131 #[.agg #[.bool p, .slice A xs.length c]] w (bW w s):=by
 have k:=Ud p A xs c w ha (by omega);rw[<-h,<-hm,mq];exact k
theorem O9(p:Bool)(A:Option Addr)(xs:List Nat)(c:Nat)(w:World)(s:Int)(K:Nat)(ha:bQ w A c xs)(hs:xs.length<=K)(hm:iv p xs=s)(hK:K<=70368744177664):
 Calls Tryz.prog 96 #[.agg #[.bool p, .slice A xs.length c]] w (bW w s):=by
 have k:=O1 p A xs c w ha (by omega);rw[hm]at k;exact k
/- Contracts of package integer: numbers of the language. -/
theorem Ib(v:Int)(w:World)(h1: -9223372036854775808<=v)(h2:v<=9223372036854775807):
 Calls Tryz.prog 86 #[.int .i64 v] w (bW w v):=by
 have hB:Ba*Ba=18446744073709551616:=by decide
 obtain⟨W,hW,bC,hsz,kr⟩:=sQ w (.bool false) (.slice none 0 0);have hz:w.heap.size+1<=W.heap.size:=by omega
 clear hsz;have HW:=ah hW;clear hW
 by_cases h0:v<0
 ·obtain⟨m,hm⟩:∃m:Nat,-v=(m:Int):=⟨(-v).toNat,by omega⟩;have hm2:m<Ba*Ba:=by omega
  have HM:=ah hm;clear hm hB;go_enter Tryz.func86,Tryz.ntmps86
  go_wp2_with fail
  rw[HW.out,show IntKind.u64.wrap (-IntKind.u64.wrap v)=(m:Int)from by rw[IntKind.wrap_u64,IntKind.wrap_u64];have:=HM.out;omega];refine(cW m _ hm2).mono ?_;rintro e w1 ⟨A1,c1,rfl,r3,dM⟩;obtain⟨m1,m2,m3,m4⟩:=dO dM (show w.heap.size<W.heap.size by omega) kr;go_wp2_with fail
  refine(jH true A1 _ c1 _).mono ?_;rintro e w2 ⟨rfl,fT⟩;obtain⟨n1,n2,n3,n4⟩:=dO fT (ak (show w.heap.size<W.heap.size by omega) dM.size) ⟨m1,m2,m3,m4⟩;have cF:Below w.heap.size w w2:=(bC.trans (dM.mono (show w.heap.size<=W.heap.size by omega))).trans (fT.mono (ay (show w.heap.size<=W.heap.size by omega) dM.size));have hown:=((r3.below fT).iL (N:=w.heap.size) (show w.heap.size<W.heap.size by omega) (.bool (true && decide (0< (limbs m).length))) (.slice A1 (limbs m).length c1)).mono (show w.heap.size<=W.heap.size by omega);have cE:=fM (p:=true) (n:=v) (by unfold dI;have:=HM.out;simp;omega) hown (bH cF (aj _) _ _);clear hown cF r3 dM fT bC kr m1 m2 m3 m4
  have hlp:(true && decide (0< (limbs m).length))=true:=by
   have:limbs m≠[]:=fun e=>by have:=bV.1 e;have:=HM.out;omega
   simp[List.length_pos_iff,this]
  rw[hlp]at cE⊢;clear hlp;go_wp2
  exact bodyPost_ret (v:= .agg #[.bool true, .slice A1 (limbs m).length c1]) (by simp[results,Tryz.results86,go_sem,n1,n2]) rfl cE
 ·obtain⟨m,hm⟩:∃m:Nat,v=(m:Int):=⟨v.toNat,by omega⟩;have hm2:m<Ba*Ba:=by omega
  have HM:=ah hm;clear hm hB;go_enter Tryz.func86,Tryz.ntmps86
  go_wp2_with fail
  rw[HW.out,show v=(m:Int)from by exact HM.out];refine(cW m _ hm2).mono ?_;rintro e w1 ⟨A1,c1,rfl,r3,dM⟩;obtain⟨m1,m2,m3,m4⟩:=dO dM (show w.heap.size<W.heap.size by omega) kr;go_wp2_with fail
  refine(jH false A1 _ c1 _).mono ?_;rintro e w2 ⟨rfl,fT⟩;obtain⟨n1,n2,n3,n4⟩:=dO fT (ak (show w.heap.size<W.heap.size by omega) dM.size) ⟨m1,m2,m3,m4⟩;have cF:Below w.heap.size w w2:=(bC.trans (dM.mono (show w.heap.size<=W.heap.size by omega))).trans (fT.mono (ay (show w.heap.size<=W.heap.size by omega) dM.size));have hown:=((r3.below fT).iL (N:=w.heap.size) (show w.heap.size<W.heap.size by omega) (.bool (false && decide (0< (limbs m).length))) (.slice A1 (limbs m).length c1)).mono (show w.heap.size<=W.heap.size by omega);have cE:=fM (p:=false) (n:=v) (by unfold dI;have:=HM.out;simp;omega) hown (bH cF (aj _) _ _);clear hown cF r3 dM fT bC kr m1 m2 m3 m4;rw[Bool.false_and]at cE⊢;go_wp2
  exact bodyPost_ret (v:= .agg #[.bool false, .slice A1 (limbs m).length c1]) (by simp[results,Tryz.results86,go_sem,n1,n2]) rfl cE
/- Contracts of the references of layers 1 and 2: numbers of 64 bits, sign, comparison, numbers of the language. -/
theorem nP(A:Option Addr)(xs:List Nat)(c:Nat)(w:World)(h:bQ w A c xs)(hs:xs.length<=70368744177664)(hv:val xs<Ba*Ba):
 Calls Tryz.prog 153 #[.slice A xs.length c] w fun e w'=>e= .returned (.tuple #[.int .u64 (val xs:Nat), .bool true])/\Below w.heap.size w w':=by
 go_enter Tryz.func153,Tryz.ntmps153
 go_wp2_with fail
 refine(fe _ _ _ _ h hs).mono ?_;rintro e w1 ⟨A1,c1,rfl,r1,b1⟩;have h2:=fA.2 hv;have EV:=ah (aV (val xs));have hl:=r1.lim;have HB:=ah b1;clear hv h r1 b1;generalize limbs (val xs)=us at*;go_wp2_with fail
 go_loop [4,5] (fun t i=>∃k:Nat,k<=us.length/\i= .int .i64 ((k:Int) -1)/\t= .int .u64 (val (us.drop k):Nat)) (fun _ i=>(intOf i+1).toNat)
 case atStart=>exact⟨us.length,aj _,rfl,by simp[val]⟩
 case round=>
  obtain⟨k,hk,ht,rfl⟩:=hrel;rcases aM k with rfl|hp
  ·subst ht;rw[List.drop_zero];have e2:=EV.out;rw[e2];clear e2;go_wp2
   go_ret2;exact⟨rfl,HB.out⟩
  ·obtain⟨m,rfl⟩:∃m,k=m+1:=⟨k-1,by omega⟩;obtain rfl:=ht.trans (show Value.int .i64 (((m+1:Nat):Int) -1)= .int .i64 (m:Int) by congr 1;omega);obtain⟨b,off,rfl,hb,hcell⟩:=hl.at_ (by omega);have hx:=hcell m (by omega);have bx:us[m]?.getD 0<4294967296:=hl.lb.get m;have hd:=fC (xs:=us) (k:=m) (by omega)
   have bv:val (us.drop (m+1))<4294967296:=by
    have h3:=fK (hl.lb.drop (m+1));have h4:(us.drop (m+1)).length<=1:=by simp;omega
    have h5:Ba ^ (us.drop (m+1)).length<=Ba ^ 1:=Nat.pow_le_pow_right cR h4;have h6:Ba ^ 1=4294967296:=by decide
    omega
   obtain⟨x,ex⟩:=xeq (us[m]?.getD 0);obtain⟨v,ev⟩:=xeq (val (us.drop (m+1)));rw[ex]at hx bx hd;rw[ev]at bv hd⊢;have HD:=ah hd;have EX:=ah ev;clear ex ev hd hcell;go_wp2
   go_round
   case rel=>exact⟨m,by omega,rfl,by rw[HD.out,tP x v bx bv];rfl⟩
   case measure=>simp[intOf];try omega
theorem DG(A:Option Addr)(xs:List Nat)(c:Nat)(w:World)(h:bQ w A c xs)(hs:xs.length<=70368744177664)(hv:Ba*Ba<=val xs):
 Calls Tryz.prog 153 #[.slice A xs.length c] w fun e w'=>e= .returned (.tuple #[.int .u64 0, .bool false])/\Below w.heap.size w w':=by
 go_enter Tryz.func153,Tryz.ntmps153
 go_wp2_with fail
 refine(fe _ _ _ _ h hs).mono ?_;rintro e w1 ⟨A1,c1,rfl,r1,b1⟩
 have h2:(2:Int)< ((limbs (val xs)).length:Int):=by
  have:¬(limbs (val xs)).length<=2:=fun h=>by have:=fA.1 h;omega
  omega
 go_wp2_with fail
 go_ret2;exact⟨rfl,b1⟩
theorem Pa(p:Bool)(A:Option Addr)(xs:List Nat)(c:Nat)(w:World)(h:bQ w A c xs)(hs:xs.length<=70368744177664):
 Calls Tryz.prog 32 #[.agg #[.bool p, .slice A xs.length c]] w (pF w (fZ (iv p xs))):=by
 obtain⟨n,en⟩:=xeq (iv p xs);rw[en];go_enter Tryz.func32,Tryz.ntmps32
 go_wp2_with fail
 obtain⟨W,hW,bC,hsz,kr⟩:=sQ w (.bool p) (.slice A xs.length c);rw[hW];clear hW;have hz:w.heap.size<W.heap.size:=by omega
 clear hsz;refine(yI p A xs c _ n 70368744177664 (h.below bC) hs en (aj _)).mono ?_;rintro e w1 ⟨A1,c1,rfl,r1,b1⟩;obtain⟨m1,m2,m3,m4⟩:=dO b1 hz kr;have hfin:Below w.heap.size w ((w1.setCell ⟨w.heap.size,0,none⟩ (.bool (decide (n<0)))).setCell ⟨w.heap.size,1,none⟩ (.slice A1 (limbs n.natAbs).length c1)):=bH (bC.trans (b1.mono bC.size)) (aj _) _ _;clear r1 b1 bC kr h en
 have Zo:(limbs n.natAbs).length=0↔n=0:=by
  rw[List.length_eq_zero_iff,bV];omega
 rcases Int.lt_trichotomy n 0 with h0|h0|h0
 ·have hd:decide (n<0)=true:=by simp[h0]
  rw[hd]at hfin⊢;have K5:fZ n= -1:=by unfold fZ;rw[if_pos h0]
  have HS:=ah K5;clear hd Zo K5;go_wp2
  go_ret;exact⟨by rw[HS.out];rfl,hfin⟩
 ·subst h0;have hd:decide ((0:Int)<0)=false:=by simp
  have SE:(limbs (Int.natAbs 0)).length=0:=Zo.2 rfl;rw[hd,SE]at hfin⊢;have K5:fZ 0=0:=by unfold fZ;simp
  have HS:=ah K5;clear hd Zo K5 SE;go_wp2
  go_ret;exact⟨by rw[HS.out];rfl,hfin⟩
 ·have hd:decide (n<0)=false:=by simp;omega
  rw[hd]at hfin⊢;have K5:fZ n=1:=by unfold fZ;rw[if_neg (by omega),if_pos h0]
  have HS:=ah K5
  have hne:(((limbs n.natAbs).length:Int)==0)=false:=by
   rw[beq_eq_false_iff_ne];intro e;have:=Zo.1 (by omega);omega
  generalize (limbs n.natAbs).length=k at*;clear hd Zo K5;go_wp2
  go_ret;exact⟨by rw[HS.out];rfl,hfin⟩
section
variable {P:Program}{ops:Array Oper}{Q:Exit->Act->World->Prop}{md:Region.Mode}{S:World->Prop}{i:Nat}{d:Option Tmp}{op:Op}{ty:TypeId}{ps:String}{af:Array Edge}{g:Option (Nat×Bool)}{v:Value}{fuel:Nat}{listed:Array Bool}{a:Act}{w:World}
theorem tkY(i:Nat)(hi:ops[i]?=some (⟨d,op,ty,ps,af,g⟩:Oper))(hs:Region.noSelect ops=true)(hf:Region.free md ops listed i=true)(hr:(Region.ready md ops listed).contains i=true)
 (hQ:∀c a w,Q (.panic c) (a.put d v) w->Q (.panic c) a w) (hw:Region.wanted (⟨d,op,ty,ps,af,g⟩:Oper) (yielded ops a.tmps)=true) (hS:S w)
 (hv:∀w,S w->(execOp a.eval (⟨d,op,ty,ps,af,g⟩:Oper)).run P w= .ok (.value v) w)
 (h:wpAnyH P md ops Q S fuel (listed.setIfInBounds i true) (a.put d v) w):wpAnyH P md ops Q S (fuel+1) listed a w:=
 wpAnyH_take hi hs hf hr hQ (Or.inl ⟨hw,hv⟩) hS h
theorem tkN(i:Nat)(hi:ops[i]?=some (⟨d,op,ty,ps,af,g⟩:Oper))(hs:Region.noSelect ops=true)(hf:Region.free md ops listed i=true)(hr:(Region.ready md ops listed).contains i=true)
 (hQ:∀c a w,Q (.panic c) (a.put d undef) w->Q (.panic c) a w) (hw:Region.wanted (⟨d,op,ty,ps,af,g⟩:Oper) (yielded ops a.tmps)=false) (hS:S w)
 (h:wpAnyH P md ops Q S fuel (listed.setIfInBounds i true) (a.put d undef) w):wpAnyH P md ops Q S (fuel+1) listed a w:=
 wpAnyH_take hi hs hf hr hQ (Or.inr ⟨hw,rfl⟩) hS h
theorem nC(i:Nat){rs:List Nat}(ho:ops[i]?=some (⟨d,op,ty,ps,af,g⟩:Oper))
 (h:∀K':Act->World->Prop,Shut (∀a w,S w->(S w->wpAnyH P md ops Q S fuel (listed.setIfInBounds i true) a w)->K' a w)->if Region.wanted (⟨d,op,ty,ps,af,g⟩:Oper) (yielded ops a.tmps)=true then Oper.wp P ⟨d,op,ty,ps,af,g⟩ a w K' Q else K' (a.put d undef) w)
 (hs:AllReadyH P md ops Q S fuel listed a w rs):AllReadyH P md ops Q S fuel listed a w (i::rs):=
 AllReadyH.cons ho h hs
variable {a':Act}
theorem tq(i:Nat)(hS:S w)(h:wpAnyH P md ops Q S fuel (listed.setIfInBounds i true) a' w)(hi:ops[i]?=some (⟨d,op,ty,ps,af,g⟩:Oper):=by exact rfl)(hs:Region.noSelect ops=true:=by kernel_rfl)(hf:Region.free md ops listed i=true:=by kernel_rfl)(hr:(Region.ready md ops listed).contains i=true:=by kernel_rfl)
 (hv:∀w,S w->(execOp a.eval (⟨d,op,ty,ps,af,g⟩:Oper)).run P w= .ok (.value v) w:=by intro w cZ;(try dsimp only at cZ);go_simp;(try with_reducible rfl);done)
 (hw:Region.wanted (⟨d,op,ty,ps,af,g⟩:Oper) (yielded ops a.tmps)=true:=by exact rfl) (hQ:∀c a w,Q (.panic c) (a.put d v) w->Q (.panic c) a w:=by exact fun _ _ _ h=>h)
 (ha:a.put d v=a':=by first|(simp only[Act.put,List.setIfInBounds_toArray,List.set_cons_zero,List.set_cons_succ];done)|(simp only[Act.put,List.setIfInBounds_toArray,List.set_cons_zero,List.set_cons_succ];exact rfl)|exact rfl):wpAnyH P md ops Q S (fuel+1) listed a w:=by
 subst ha;exact tkY i hi hs hf hr hQ hw hS hv h
theorem tp(i:Nat)(hS:S w)(h:wpAnyH P md ops Q S fuel (listed.setIfInBounds i true) a' w)(hi:ops[i]?=some (⟨d,op,ty,ps,af,g⟩:Oper):=by exact rfl)(hs:Region.noSelect ops=true:=by kernel_rfl)(hf:Region.free md ops listed i=true:=by kernel_rfl)(hr:(Region.ready md ops listed).contains i=true:=by kernel_rfl)
 (hv:∀w,S w->(execOp a.eval (⟨d,op,ty,ps,af,g⟩:Oper)).run P w= .ok (.value v) w:=by intro w cZ;subst cZ;go_simp;(try with_reducible rfl);done)
 (hw:Region.wanted (⟨d,op,ty,ps,af,g⟩:Oper) (yielded ops a.tmps)=true:=by exact rfl) (hQ:∀c a w,Q (.panic c) (a.put d v) w->Q (.panic c) a w:=by exact fun _ _ _ h=>h)
 (ha:a.put d v=a':=by first|(simp only[Act.put,List.setIfInBounds_toArray,List.set_cons_zero,List.set_cons_succ];done)|(simp only[Act.put,List.setIfInBounds_toArray,List.set_cons_zero,List.set_cons_succ];exact rfl)|exact rfl):wpAnyH P md ops Q S (fuel+1) listed a w:=by
 subst ha;exact tkY i hi hs hf hr hQ hw hS hv h
theorem tn(i:Nat)(hS:S w)(h:wpAnyH P md ops Q S fuel (listed.setIfInBounds i true) a' w)(hi:ops[i]?=some (⟨d,op,ty,ps,af,g⟩:Oper):=by exact rfl)(hs:Region.noSelect ops=true:=by kernel_rfl)(hf:Region.free md ops listed i=true:=by kernel_rfl)(hr:(Region.ready md ops listed).contains i=true:=by kernel_rfl)
 (hw:Region.wanted (⟨d,op,ty,ps,af,g⟩:Oper) (yielded ops a.tmps)=false:=by exact rfl) (hQ:∀c a w,Q (.panic c) (a.put d undef) w->Q (.panic c) a w:=by exact fun _ _ _ h=>h)
 (ha:a.put d undef=a':=by first|(simp only[Act.put,List.setIfInBounds_toArray,List.set_cons_zero,List.set_cons_succ];done)|(simp only[Act.put,List.setIfInBounds_toArray,List.set_cons_zero,List.set_cons_succ];exact rfl)|exact rfl):wpAnyH P md ops Q S (fuel+1) listed a w:=by
 subst ha;exact tkN i hi hs hf hr hQ hw hS h
theorem tr(i:Nat)(hS:S w)(hv:∀w,S w->(execOp a.eval (⟨d,op,ty,ps,af,g⟩:Oper)).run P w= .ok (.value v) w)(h:wpAnyH P md ops Q S fuel (listed.setIfInBounds i true) (a.put d v) w)(hi:ops[i]?=some (⟨d,op,ty,ps,af,g⟩:Oper):=by exact rfl)(hs:Region.noSelect ops=true:=by kernel_rfl)(hf:Region.free md ops listed i=true:=by kernel_rfl)(hr:(Region.ready md ops listed).contains i=true:=by kernel_rfl)
 (hw:Region.wanted (⟨d,op,ty,ps,af,g⟩:Oper) (yielded ops a.tmps)=true:=by exact rfl) (hQ:∀c a w,Q (.panic c) (a.put d v) w->Q (.panic c) a w:=by exact fun _ _ _ h=>h):wpAnyH P md ops Q S (fuel+1) listed a w:=
 tkY i hi hs hf hr hQ hw hS hv h
theorem tu{b b':Act}(h:wpAnyH P md ops Q S fuel listed b' w)(ha:b=b':=by first|(simp only[Act.put,List.setIfInBounds_toArray,List.set_cons_zero,List.set_cons_succ];done)|(simp only[Act.put,List.setIfInBounds_toArray,List.set_cons_zero,List.set_cons_succ];exact rfl)|exact rfl):wpAnyH P md ops Q S fuel listed b w:=by
 subst ha;exact h
theorem td(h:Q .normal a w)(fuel:Nat)(hr:Region.ready md ops listed=[]:=by kernel_rfl):wpAnyH P md ops Q S fuel listed a w:=wpAnyH_done hr h fuel
theorem tv(i:Nat)(h:∀K':Act->World->Prop,Shut (∀a w,S w->(S w->wpAnyH P md ops Q S fuel (listed.setIfInBounds i true) a w)->K' a w)->if Region.wanted (⟨d,op,ty,ps,af,g⟩:Oper) (yielded ops a.tmps)=true then Oper.wp P ⟨d,op,ty,ps,af,g⟩ a w K' Q else K' (a.put d undef) w)
 (ho:ops[i]?=some (⟨d,op,ty,ps,af,g⟩:Oper):=by exact rfl) (hr:Region.ready md ops listed=[i]:=by kernel_rfl):wpAnyH P md ops Q S (fuel+1) listed a w:=
 wpAnyH_ready hr (by simp) (AllReadyH.cons ho h AllReadyH.nil)
theorem tb(i:Nat)(h:∀K':Act->World->Prop,Shut (∀a w,S w->(S w->wpAnyH P md ops Q S fuel (listed.setIfInBounds i true) a w)->K' a w)->if Region.wanted (⟨d,op,ty,ps,af,g⟩:Oper) (yielded ops a.tmps)=true then Oper.wp P ⟨d,op,ty,ps,af,g⟩ a w K' Q else K' (a.put d undef) w)
 (ho:ops[i]?=some (⟨d,op,ty,ps,af,g⟩:Oper):=by exact rfl):AllReadyH P md ops Q S fuel listed a w [i]:=
 AllReadyH.cons ho h AllReadyH.nil
end
end Go.Proofs.YtkmpoleajjgfaaaGreat
