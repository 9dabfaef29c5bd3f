/- Parts of the proof, in order. -/
import Derived.Test.YtkmpoleajjgfaaaGreatQ8
namespace Go.Proofs.YtkmpoleajjgfaaaGreat
open Go.RowKit Gm
set_option maxRecDepth 100000
set_option maxHeartbeats 16000000
/- Contracts of the reference of layer 1: the greatest common divisor. -/
def GQ(K G:Nat)(w:World)(k:Nat)(a b:Value)(wr:World):Prop:=
 ∃(A B:Option Addr) (c d x y:Nat),y=k/\a= .slice A (limbs x).length c/\b= .slice B (limbs y).length d/\Own w.heap.size wr A c (limbs x)/\Own w.heap.size wr B d (limbs y)/\(limbs x).length<=K/\(limbs y).length<=K/\Hid (Nat.gcd x y=G)/\Below w.heap.size w wr
theorem Uw(A B:Option Addr)(xs ys:List Nat)(c d K:Nat)(w:World)(ha:bQ w A c xs)(hb:bQ w B d ys)(hs:xs.length<=K)(ht:ys.length<=K)(hK:K<=70368744177660):
 Calls Tryz.prog 128 #[.slice A xs.length c, .slice B ys.length d] w (dW w (Nat.gcd (val xs) (val ys))):=by
 have la:=bh ha.lb;have lb:=bh hb.lb;obtain⟨G,eG⟩:=xeq (Nat.gcd (val xs) (val ys));rw[eG];have EG:=ah eG;clear eG;go_enter Tryz.func128,Tryz.ntmps128
 go_wp2_with fail
 refine(fe _ _ _ _ ha (by omega)).mono ?_;rintro e w1 ⟨A1,c1,rfl,r1,b1⟩;go_wp2_with fail
 refine(fe _ _ _ _ (hb.below b1) (by omega)).mono ?_;rintro e w2 ⟨A2,c2,rfl,r2,b2⟩;have hst:GQ K G w (val ys) (.slice A1 (limbs (val xs)).length c1) (.slice A2 (limbs (val ys)).length c2) w2:=⟨A1,A2,c1,c2,val xs,val ys,rfl,rfl,rfl,r1.below b2,r2.mono b1.size,by omega,by omega,EG,b1.trans (b2.mono b1.size)⟩;clear r1 r2 b1 b2 ha hb;go_wp2_with fail
 go_loopg [0,1] (val ys) (fun k a b wr=>GQ K G w k a b wr)
 case atStart=>exact hst
 case round=>
  clear hst;obtain⟨A,B,c,d,x,y,rfl,rfl,rfl,hx,hy,hxK,Xx,hG,bP⟩:=hrel;rcases aM y with rfl|hy0
  ·have HE:=ah (show x=G by rw[<-hG.out,Nat.gcd_zero_right]);rw[bM];go_wp2_with fail
   go_ret;rw[<-HE.out];exact⟨A,c,rfl,hx,bP⟩
  ·have lp:0< (limbs y).length:=List.length_pos_iff.2 (fun e=>by rw[bV]at e;omega);go_wp2_with fail
   refine(qY A B (limbs x) (limbs y) c d _ hx.lim hy.lim (by omega) (by omega) (by rw[aV];omega)).mono ?_;rintro e w2 ⟨A1,c1,A2,c2,rfl,r1,r2,b2⟩;rw[aV,aV]at r1 r2⊢;have hmod:=Nat.mod_lt x hy0;have h2:=r2.mono (lo':=w.heap.size) bP.size;have hy2:=hy.below b2;have hend:=bP.trans (b2.mono bP.size);have lr:(limbs (x % y)).length<=K:=ay (bN (aR hmod)) Xx;clear r1 r2 b2;go_wp2_with fail
   go_roundg (x % y)
   case measure=>exact hmod
   case rel=>exact⟨B,A2,d,c2,y,x % y,rfl,rfl,rfl,hy2,h2,Xx,lr,ah (by rw[mR];exact hG.out),hend⟩
theorem DN{m n s k l:Nat}(hm:(limbs m).length<=k)(hn:(limbs n).length<=k)(h:Nat.gcd m n=s)(hl:k<=l):(limbs s).length<=l:=by
 subst h;rcases aM m with h0|h0
 ·subst h0;rw[Nat.gcd_zero_left];omega
 ·exact ay (bN (Nat.gcd_le_left n h0)) (by omega)
/- Contracts of the reference of layer 2: division. -/
structure cg(w:World)(N:Nat)(b:Bool)(s:Value):Prop where
 c0:w.cell? ⟨N,0,none⟩=some (.bool b)
 c1:w.cell? ⟨N,1,none⟩=some s
 f0:w.frozen? ⟨N,0,none⟩=false
 f1:w.frozen? ⟨N,1,none⟩=false
theorem cg.below{B N:Nat}{w w':World}{b:Bool}{s:Value}(h:cg w N b s)(hb:Below B w w')(hN:N<B):cg w' N b s:=
 ⟨(hb.cell (p:=⟨N,0,none⟩) hN).trans h.c0,(hb.cell (p:=⟨N,1,none⟩) hN).trans h.c1,(hb.frozen (p:=⟨N,0,none⟩) hN).trans h.f0,(hb.frozen (p:=⟨N,1,none⟩) hN).trans h.f1⟩
theorem cg.lt{w:World}{N:Nat}{b:Bool}{s:Value}(h:cg w N b s):N<w.heap.size:=aG w _ h.c0
theorem cg.put{N:Nat}{w:World}{b:Bool}{s:Value}(h:cg w N b s)(b':Bool)(s':Value):cg ((w.setCell ⟨N,0,none⟩ (.bool b')).setCell ⟨N,1,none⟩ s') N b' s':=by
 obtain⟨h0,h1,h2,h3⟩:=h;refine⟨?_,?_,?_,?_⟩<;>go_simp
theorem cg.far{N M:Nat}{w:World}{b:Bool}{s:Value}(h:cg w N b s)(hM:N≠M)(u v:Value):cg ((w.setCell ⟨M,0,none⟩ u).setCell ⟨M,1,none⟩ v) N b s:=by
 have h1:=Below.heap_setCell w ⟨M,0,none⟩ u N hM;have h2:=Below.heap_setCell (w.setCell ⟨M,0,none⟩ u) ⟨M,1,none⟩ v N hM;have h3:=h2.trans h1;exact⟨by rw[<-h.c0];simp only[World.cell?,h3],by rw[<-h.c1];simp only[World.cell?,h3],by rw[<-h.f0];simp only[World.frozen?,h3],by rw[<-h.f1];simp only[World.frozen?,h3]⟩
theorem iM{w:World}{N o M:Nat}(h:N≠M)(u v:Value):((w.setCell ⟨M,0,none⟩ u).setCell ⟨M,1,none⟩ v).cell? ⟨N,o,none⟩=w.cell? ⟨N,o,none⟩:=by
 have h1:=Below.heap_setCell w ⟨M,0,none⟩ u N h;have h2:=Below.heap_setCell (w.setCell ⟨M,0,none⟩ u) ⟨M,1,none⟩ v N h;simp only[World.cell?,h2.trans h1]
theorem uD(b:Bool)(A:Option Addr)(m c:Nat)(w:World)(h:bQ w A c (limbs m))(hs:(limbs m).length<=70368744177664):
 Calls Tryz.prog 103 #[.bool b, .slice A (limbs m).length c] w fun e w'=>∃A' c',e= .returned (.agg #[.bool (decide (dI b m<0)), .slice A' (limbs m).length c'])/\Own w.heap.size w' A' c' (limbs m)/\Below w.heap.size w w':=by
 refine(pG b A (limbs m) c w h hs).mono ?_;rintro e w' ⟨A',c',rfl,r,b'⟩;rw[RJ,aV,eK]at r⊢;exact⟨A',c',rfl,r,b'⟩
theorem uE{w w':World}{b:Bool}{m n:Nat}{Q S:Int}{A B:Option Addr}{c d:Nat}(hq:Q=dI b m)(hr:S=dI false n)(ho:Own w.heap.size w' A c (limbs m))(hp:Own w.heap.size w' B d (limbs n))(hb:Below w.heap.size w w'):
 jD w Q S (.returned (.tuple #[.agg #[.bool (decide (dI b m<0)), .slice A (limbs m).length c], .agg #[.bool false, .slice B (limbs n).length d], .bool true])) w':=by
 subst hq hr;have e:decide (dI false n<0)=false:=by simp[dI]
 refine⟨A,c,B,d,?_,?_,?_,hb⟩
 ·rw[eK,eK,e]
 ·rw[eK];exact ho
 ·rw[eK];exact hp
theorem jD.drew{w w':World}{q r:Int}{e:Ending}(h:jD w q r e w'):jD w q r e w'.drew:=by
 obtain⟨A,c,B,d,h1,h2,h3,h4⟩:=h;exact⟨A,c,B,d,h1,h2.drewN 1,h3.drewN 1,h4.drew⟩
theorem uF(p q:Bool)(A B:Option Addr)(xs ys:List Nat)(c d:Nat)(w:World)(ha:bQ w A c xs)(hb:bQ w B d ys)(hs:xs.length<=70368744177660)(ht:ys.length<=70368744177660)(h0:val ys≠0)(hp:p=false∨val xs % val ys=0):
 Calls Tryz.prog 106 #[.agg #[.bool p, .slice A xs.length c], .agg #[.bool q, .slice B ys.length d]] w (jD w (iv p xs/iv q ys) (iv p xs % iv q ys)):=by
 have HE:=ah (OW p q h0 hp)
 have hr0:dI p (val xs % val ys)=dI false (val xs % val ys):=by
  rcases hp with h|h
  ·rw[h]
  ·rw[h];cases p<;>rfl
 have lq:(limbs (val xs/val ys)).length<=70368744177664:=ay (bN (Nat.div_le_self _ _)) (by have:=bh ha.lb;omega);have lr:(limbs (val xs % val ys)).length<=70368744177664:=ay (bN (Nat.mod_le _ _)) (by have:=bh ha.lb;omega);have Yg:=ah hr0;clear hr0 hp;go_enter Tryz.func106,Tryz.ntmps106
 go_wp2_with fail
 obtain⟨W,hW,bC,hsz,k,kr,ks⟩:=um w p q (.slice A xs.length c) (.slice B ys.length d);rw[hW];clear hW;refine(qY A B xs ys c d W (ha.below bC) (hb.below bC) hs ht h0).mono ?_;rintro e w1 ⟨A1,c1,A2,c2,rfl,r1,r2,b1⟩;obtain⟨m1,m2,m3,m4⟩:=iA b1 (show w.heap.size+2<=W.heap.size by omega) k;obtain⟨x1,x2,x3,x4⟩:=dO b1 (show w.heap.size+1+1<W.heap.size by omega) kr;obtain⟨y1,y2,y3,y4⟩:=dO b1 (show w.heap.size+1+1+1<W.heap.size by omega) ks;have t4:cg w1 (w.heap.size+1+1) false (.slice none 0 0):=⟨x1,x2,x3,x4⟩;have t5:cg w1 (w.heap.size+1+1+1) false (.slice none 0 0):=⟨y1,y2,y3,y4⟩;have hz1:w.heap.size+4<=w1.heap.size:=by have:=b1.size;omega
 have bP:Below w.heap.size w w1:=bC.trans (b1.mono (by omega));have q1:=r1.lim;have q2:=r2.lim;obtain⟨M,eM⟩:=xeq (val xs/val ys);obtain⟨R,eR⟩:=xeq (val xs % val ys);rw[eM]at HE q1 lq⊢;rw[eR]at HE Yg q2 lr⊢;have j0:w.heap.size<w1.heap.size:=by omega
 have j1:w.heap.size+1<w1.heap.size:=by omega
 have kQ:True:=trivial;have pT:True:=trivial;have bB:Below w1.heap.size w1 w1.drew:=(aq _ _).drew;clear k kr ks x1 x2 x3 x4 y1 y2 y3 y4 r1 r2 b1 bC hsz eM eR ha hb;go_upto_region 4 with fail
 go_cut [6] (fun s6 wx=>s6= .bool true/\∃A3 c3 A4 c4,cg wx (w.heap.size+1+1) (decide (dI (p !=q) M<0)) (.slice A3 (limbs M).length c3)/\cg wx (w.heap.size+1+1+1) (decide (dI p R<0)) (.slice A4 (limbs R).length c4)/\Own (w.heap.size+4) wx A3 c3 (limbs M)/\Own (w.heap.size+4) wx A4 c4 (limbs R)/\Below w.heap.size w wx)
 case first=>
  go_region_held3 (fun w'=>w'.cell? ⟨w.heap.size,0,none⟩=some (.bool p)/\w'.cell? ⟨w.heap.size+1,0,none⟩=some (.bool q))
   (first|exact⟨bn bB j0 m1,bn bB j1 m3⟩|exact⟨(iM (by omega) _ _).trans (bn bB j0 m1),(iM (by omega) _ _).trans (bn bB j1 m3)⟩|exact⟨((iM (by omega) _ _).trans (iM (by omega) _ _)).trans (bn bB j0 m1),((iM (by omega) _ _).trans (iM (by omega) _ _)).trans (bn bB j1 m3)⟩|go_keep)
   (first
     |(go_at_call 103;have _t:=kQ;clear kQ;refine(uD (p !=q) A1 M c1 _ ?_ lq).mono ?_;exact q1.below bB;rintro e w2 ⟨A3,c3,rfl,r3,b3⟩;replace bB:=bB.trans (b3.mono bB.size))
     |(go_at_call 103;have _t:=pT;clear pT;refine(uD p A2 R c2 _ ?_ lr).mono ?_;exact q2.below bB;rintro e w3 ⟨A4,c4,rfl,r4,b4⟩;replace bB:=bB.trans (b4.mono bB.size);obtain⟨x1,x2,x3,x4⟩:=t4.below bB (by omega);obtain⟨y1,y2,y3,y4⟩:=t5.below bB (by omega)))
  rename_i aU
  clear aU;have hend:Below w.heap.size w w3:=bP.trans (bB.mono bP.size);have z2:w1.heap.size<=w2.heap.size:=b3.size;have o3:Own w.heap.size w3 A3 c3 (limbs M)/\Own w1.heap.size w3 A3 c3 (limbs M):=⟨(r3.below b4).mono (show w.heap.size<=w1.heap.size by omega),r3.below b4⟩;have o4:Own w1.heap.size w3 A4 c4 (limbs R):=r4.mono z2;have u4:=(t4.below bB (by omega)).put (decide (dI (p !=q) M<0)) (.slice A3 (limbs M).length c3);have u4':=u4.far (M:=w.heap.size+1+1+1) (by omega) (.bool (decide (dI p R<0))) (.slice A4 (limbs R).length c4);have u5:=((t5.below bB (by omega)).far (M:=w.heap.size+1+1) (by omega) (.bool (decide (dI (p !=q) M<0))) (.slice A3 (limbs M).length c3)).put (decide (dI p R<0)) (.slice A4 (limbs R).length c4);have v3:=(o3.2.sJ (N:=w.heap.size+1+1) (M:=w.heap.size+1+1+1) (by omega) (by omega) (.bool (decide (dI (p !=q) M<0))) (.slice A3 (limbs M).length c3) (.bool (decide (dI p R<0))) (.slice A4 (limbs R).length c4)).mono (lo':=w.heap.size+4) (by omega);have v4:=(o4.sJ (N:=w.heap.size+1+1) (M:=w.heap.size+1+1+1) (by omega) (by omega) (.bool (decide (dI (p !=q) M<0))) (.slice A3 (limbs M).length c3) (.bool (decide (dI p R<0))) (.slice A4 (limbs R).length c4)).mono (lo':=w.heap.size+4) (by omega);have vb:=bH (bH hend (show w.heap.size<=w.heap.size+1+1 by omega) (.bool (decide (dI (p !=q) M<0))) (.slice A3 (limbs M).length c3)) (show w.heap.size<=w.heap.size+1+1+1 by omega) (.bool (decide (dI p R<0))) (.slice A4 (limbs R).length c4);clear r3 r4 b3 b4 x1 x2 x3 x4 y1 y2 y3 y4;go_wp2_with fail
  go_meet;exact⟨rfl,A3,c3,A4,c4,u4',u5,v3,v4,vb⟩
 case rest=>
  obtain⟨rfl,A3,c3,A4,c4,u4,u5,o3,o4,hend⟩:=hcut;have hneg:decide (dI p R<0)=false:=by rw[Yg.out];simp[dI]
  rw[hneg]at u5;obtain⟨x1,x2,x3,x4⟩:=u4;obtain⟨y1,y2,y3,y4⟩:=u5;have HNEG:=ah hneg;clear hneg t4 t5 m1 m2 m3 m4 bB q1 q2;have cE:=uE (w:=w) HE.out.1 HE.out.2 ((o3.sJ (N:=w.heap.size+1+1) (M:=w.heap.size+1+1+1) (by omega) (by omega) (.bool (decide (dI (p !=q) M<0))) (.slice A3 (limbs M).length c3) (.bool false) (.slice A4 (limbs R).length c4)).mono (by omega)) ((o4.sJ (N:=w.heap.size+1+1) (M:=w.heap.size+1+1+1) (by omega) (by omega) (.bool (decide (dI (p !=q) M<0))) (.slice A3 (limbs M).length c3) (.bool false) (.slice A4 (limbs R).length c4)).mono (by omega)) (bH (bH hend (show w.heap.size<=w.heap.size+1+1 by omega) (.bool (decide (dI (p !=q) M<0))) (.slice A3 (limbs M).length c3)) (show w.heap.size<=w.heap.size+1+1+1 by omega) (.bool false) (.slice A4 (limbs R).length c4));have dw:=ah cE.drew;clear cE o3 o4;go_wp2_with fail
  go_region
  go_wp2_with fail
  exact bodyPost_ret (v:= .tuple #[.agg #[.bool (decide (dI (p !=q) M<0)), .slice A3 (limbs M).length c3], .agg #[.bool false, .slice A4 (limbs R).length c4], .bool true]) (by simp[results,Tryz.results106,go_sem,x1,x2,y1,y2]) rfl dw.out
/- Contracts of the reference of layer 2: division with a negative dividend. -/
theorem Pk(m n s:Int)(b1 b2:Bool)(us vs:List Nat)(A B:Option Addr)(c d:Nat)(w:World)(h1:decide (m<0)=b1)(h2:decide (n<0)=b2)(e1:limbs m.natAbs=us)(e2:limbs n.natAbs=vs)(ha:bQ w A c us)(hb:bQ w B d vs)(hs:us.length<=70368744177660)(ht:vs.length<=70368744177660)(h:m+n=s):
 Calls Tryz.prog 130 #[.agg #[.bool b1, .slice A us.length c], .agg #[.bool b2, .slice B vs.length d]] w (bW w s):=by
 subst h1 h2 e1 e2;exact FV _ _ A B _ _ c d w m n s 70368744177660 70368744177660 ha hb hs ht (dS m) (dS n) h (by omega) (by omega)
theorem Pm(m n s:Int)(b1 b2:Bool)(us vs:List Nat)(A B:Option Addr)(c d:Nat)(w:World)(h1:decide (m<0)=b1)(h2:decide (n<0)=b2)(e1:limbs m.natAbs=us)(e2:limbs n.natAbs=vs)(ha:bQ w A c us)(hb:bQ w B d vs)(hs:us.length<=70368744177660)(ht:vs.length<=70368744177660)(h:m-n=s):
 Calls Tryz.prog 132 #[.agg #[.bool b1, .slice A us.length c], .agg #[.bool b2, .slice B vs.length d]] w (bW w s):=by
 subst h1 h2 e1 e2;exact O8 _ _ A B _ _ c d w m n s 70368744177660 70368744177660 ha hb hs ht (dS m) (dS n) h (by omega) (by omega)
theorem bW.mk{w w':World}{b:Bool}{m:Nat}{e:Ending}(h:bW w (dI b m) e w'):∃A c,e= .returned (.agg #[.bool (decide (dI b m<0)), .slice A (limbs m).length c])/\Own w.heap.size w' A c (limbs m)/\Below w.heap.size w w':=by
 obtain⟨A,c,h1,h2,h3⟩:=h;rw[eK]at h1 h2;exact⟨A,c,h1,h2,h3⟩
theorem Ld(A B:Option Addr)(c d R V:Nat)(w:World)(ha:bQ w A c (limbs R))(hb:bQ w B d (limbs V))(hR:(limbs R).length<=70368744177660)(hV:(limbs V).length<=70368744177660)(hle:R<=V):
 Calls Tryz.prog 130 #[.agg #[.bool true, .slice A (limbs R).length c], .agg #[.bool (decide (((V:Nat):Int)<0)), .slice B (limbs V).length d]] w fun e w'=>∃A' c',e= .returned (.agg #[.bool false, .slice A' (limbs (V-R)).length c'])/\Own w.heap.size w' A' c' (limbs (V-R))/\Below w.heap.size w w':=by
 have e1:iv true (limbs R)= -((R:Nat):Int):=by simp[iv,aV]
 have e2:iv (decide (((V:Nat):Int)<0)) (limbs V)=((V:Nat):Int):=by
  have:=dS ((V:Nat):Int)
  rwa [Int.natAbs_natCast]at this
 refine(FV true (decide (((V:Nat):Int)<0)) A B (limbs R) (limbs V) c d w (-((R:Nat):Int)) ((V:Nat):Int) (((V-R:Nat):Nat):Int) 70368744177660 70368744177660 ha hb hR hV e1 e2 (by omega) (by omega) (by omega)).mono ?_;rintro e w' ⟨A',c',rfl,r,b⟩;rw[Int.natAbs_natCast]at r⊢;rw[show decide (((V-R:Nat):Int)<0)=false by rw[decide_eq_false_iff_not];omega];exact⟨A',c',rfl,r,b⟩
theorem yL(q:Bool)(A B:Option Addr)(xs ys:List Nat)(c d:Nat)(w:World)(ha:bQ w A c xs)(hb:bQ w B d ys)(hs:xs.length<=70368744177660)(ht:ys.length<=70368744177660)(h0:val ys≠0)(hr:val xs % val ys≠0):
 Calls Tryz.prog 106 #[.agg #[.bool true, .slice A xs.length c], .agg #[.bool q, .slice B ys.length d]] w (jD w (iv true xs/iv q ys) (iv true xs % iv q ys)):=by
 have hE:=KZ q h0 hr;rw[show(true !=q)=!q by cases q<;>rfl]at hE;have HE:=ah hE;clear hE;have K8:=Nat.mod_lt (val xs) (show 0<val ys by omega);have lM0:=ah (show(limbs (val xs/val ys)).length<=70368744177660 from ay (bN (Nat.div_le_self _ _)) (by have:=bh ha.lb;omega));have lq:(limbs (val xs/val ys)).length<=70368744177664:=ay (bN (Nat.div_le_self _ _)) (by have:=bh ha.lb;omega);have lr:(limbs (val xs % val ys)).length<=70368744177664:=ay (bN (Nat.mod_le _ _)) (by have:=bh ha.lb;omega);go_enter Tryz.func106,Tryz.ntmps106
 go_wp2_with fail
 obtain⟨W,hW,bC,hsz,k,kr,ks⟩:=um w true q (.slice A xs.length c) (.slice B ys.length d);rw[hW];clear hW;refine(qY A B xs ys c d W (ha.below bC) (hb.below bC) hs ht h0).mono ?_;rintro e w1 ⟨A1,c1,A2,c2,rfl,r1,r2,b1⟩;obtain⟨m1,m2,m3,m4⟩:=iA b1 (show w.heap.size+2<=W.heap.size by omega) k;obtain⟨x1,x2,x3,x4⟩:=dO b1 (show w.heap.size+1+1<W.heap.size by omega) kr;obtain⟨y1,y2,y3,y4⟩:=dO b1 (show w.heap.size+1+1+1<W.heap.size by omega) ks;have t4:cg w1 (w.heap.size+1+1) false (.slice none 0 0):=⟨x1,x2,x3,x4⟩;have t5:cg w1 (w.heap.size+1+1+1) false (.slice none 0 0):=⟨y1,y2,y3,y4⟩;have hz1:w.heap.size+4<=w1.heap.size:=by have:=b1.size;omega
 have bP:Below w.heap.size w w1:=bC.trans (b1.mono (by omega));have q1:=r1.lim;have q2:=r2.lim;obtain⟨M,eM⟩:=xeq (val xs/val ys);obtain⟨R,eR⟩:=xeq (val xs % val ys);rw[eM]at HE q1 lq lM0⊢;rw[eR]at HE q2 lr hr K8⊢;have j0:w.heap.size<w1.heap.size:=by omega
 have j1:w.heap.size+1<w1.heap.size:=by omega
 have kQ:True:=trivial;have pT:True:=trivial;have bB:Below w1.heap.size w1 w1.drew:=(aq _ _).drew;clear k kr ks x1 x2 x3 x4 y1 y2 y3 y4 r1 r2 b1 bC hsz eM eR ha;have hK3:w1.cell? ⟨w.heap.size+1,1,none⟩=some (.slice B ys.length d):=m4;go_upto_region 4 with fail
 go_cut [6] (fun s6 wx=>s6= .bool true/\∃A3 c3 A4 c4,cg wx (w.heap.size+1+1) (decide (dI (!q) M<0)) (.slice A3 (limbs M).length c3)/\cg wx (w.heap.size+1+1+1) (decide (dI true R<0)) (.slice A4 (limbs R).length c4)/\Own (w.heap.size+4) wx A3 c3 (limbs M)/\Own (w.heap.size+4) wx A4 c4 (limbs R)/\Below w.heap.size w wx/\Below (w.heap.size+1+1) w1 wx)
 case first=>
  go_region_held3 (fun w'=>w'.cell? ⟨w.heap.size,0,none⟩=some (.bool true)/\w'.cell? ⟨w.heap.size+1,0,none⟩=some (.bool q))
   (first|exact⟨bn bB j0 m1,bn bB j1 m3⟩|exact⟨(iM (by omega) _ _).trans (bn bB j0 m1),(iM (by omega) _ _).trans (bn bB j1 m3)⟩|exact⟨((iM (by omega) _ _).trans (iM (by omega) _ _)).trans (bn bB j0 m1),((iM (by omega) _ _).trans (iM (by omega) _ _)).trans (bn bB j1 m3)⟩|go_keep)
   (first
     |(go_at_call 103;have _t:=kQ;clear kQ;refine(uD (!q) A1 M c1 _ ?_ lq).mono ?_;exact q1.below bB;rintro e w2 ⟨A3,c3,rfl,r3,b3⟩;replace bB:=bB.trans (b3.mono bB.size))
     |(go_at_call 103;have _t:=pT;clear pT;refine(uD true A2 R c2 _ ?_ lr).mono ?_;exact q2.below bB;rintro e w3 ⟨A4,c4,rfl,r4,b4⟩;replace bB:=bB.trans (b4.mono bB.size);obtain⟨x1,x2,x3,x4⟩:=t4.below bB (by omega);obtain⟨y1,y2,y3,y4⟩:=t5.below bB (by omega)))
  rename_i aU
  clear aU;have hend:Below w.heap.size w w3:=bP.trans (bB.mono bP.size);have z2:w1.heap.size<=w2.heap.size:=b3.size;have o3:Own w.heap.size w3 A3 c3 (limbs M)/\Own w1.heap.size w3 A3 c3 (limbs M):=⟨(r3.below b4).mono (show w.heap.size<=w1.heap.size by omega),r3.below b4⟩;have o4:Own w1.heap.size w3 A4 c4 (limbs R):=r4.mono z2;have u4:=(t4.below bB (by omega)).put (decide (dI (!q) M<0)) (.slice A3 (limbs M).length c3);have u4':=u4.far (M:=w.heap.size+1+1+1) (by omega) (.bool (decide (dI true R<0))) (.slice A4 (limbs R).length c4);have u5:=((t5.below bB (by omega)).far (M:=w.heap.size+1+1) (by omega) (.bool (decide (dI (!q) M<0))) (.slice A3 (limbs M).length c3)).put (decide (dI true R<0)) (.slice A4 (limbs R).length c4);have v3:=(o3.2.sJ (N:=w.heap.size+1+1) (M:=w.heap.size+1+1+1) (by omega) (by omega) (.bool (decide (dI (!q) M<0))) (.slice A3 (limbs M).length c3) (.bool (decide (dI true R<0))) (.slice A4 (limbs R).length c4)).mono (lo':=w.heap.size+4) (by omega);have v4:=(o4.sJ (N:=w.heap.size+1+1) (M:=w.heap.size+1+1+1) (by omega) (by omega) (.bool (decide (dI (!q) M<0))) (.slice A3 (limbs M).length c3) (.bool (decide (dI true R<0))) (.slice A4 (limbs R).length c4)).mono (lo':=w.heap.size+4) (by omega);have vb:=bH (bH hend (show w.heap.size<=w.heap.size+1+1 by omega) (.bool (decide (dI (!q) M<0))) (.slice A3 (limbs M).length c3)) (show w.heap.size<=w.heap.size+1+1+1 by omega) (.bool (decide (dI true R<0))) (.slice A4 (limbs R).length c4);have vb2:=bH (bH (bB.mono (show w.heap.size+1+1<=w1.heap.size by omega)) (aj _) (.bool (decide (dI (!q) M<0))) (.slice A3 (limbs M).length c3)) (show w.heap.size+1+1<=w.heap.size+1+1+1 by omega) (.bool (decide (dI true R<0))) (.slice A4 (limbs R).length c4);clear r3 r4 b3 b4 x1 x2 x3 x4 y1 y2 y3 y4;go_wp2_with fail
  go_meet;exact⟨rfl,A3,c3,A4,c4,u4',u5,v3,v4,vb,vb2⟩
 case rest=>
  obtain⟨rfl,A3,c3,A4,c4,u4,u5,o3,o4,hend,kx⟩:=hcut;have hbs:=hb.below hend;have hneg:decide (dI true R<0)=true:=by rw[decide_eq_true_iff];simp only[dI,if_true];omega
  rw[hneg]at u5;have n1:wc.cell? ⟨w.heap.size+1,0,none⟩=some (.bool q):=(kx.cell (p:=⟨w.heap.size+1,0,none⟩) (show w.heap.size+1<w.heap.size+1+1 by omega)).trans m3;have n2:wc.cell? ⟨w.heap.size+1,1,none⟩=some (.slice B ys.length d):=(kx.cell (p:=⟨w.heap.size+1,1,none⟩) (show w.heap.size+1<w.heap.size+1+1 by omega)).trans m4;obtain⟨x1,x2,x3,x4⟩:=id u4;obtain⟨y1,y2,y3,y4⟩:=id u5;have M9:w.heap.size+4<=wc.heap.size:=by have:=aG wc _ y1;simp at this;omega
  clear t4 t5 m1 m2 m3 m4 bB q1 q2 hneg kQ pT;have o4l:=o4.lim;have lV:(limbs (val ys)).length<=70368744177660:=ay (bh hb.lb) ht;have lR:(limbs R).length<=70368744177660:=ay (bN (aR K8)) lV;have iy:iv q ys=dI q (val ys):=rfl;go_upto_region 6 with fail
  go_cut [6] (fun s6 wx=>s6= .bool true/\∃A5 c5,cg wx (w.heap.size+1+1) (decide (dI (!q) M<0)) (.slice A3 (limbs M).length c3)/\cg wx (w.heap.size+1+1+1) false (.slice A5 (limbs (val ys-R)).length c5)/\Own (w.heap.size+4) wx A3 c3 (limbs M)/\Own (w.heap.size+4) wx A5 c5 (limbs (val ys-R))/\Below w.heap.size w wx/\wx.cell? ⟨w.heap.size+1,0,none⟩=some (.bool q))
  case first=>
   go_region_with (first
    |(go_at_call 131;refine(Uf q B ys d _ (dI q (val ys)) ((val ys:Nat):Int) 70368744177660 ?_ ht iy ?_ ?_).mono ?_;exact hbs.drewN 1;(rw[eK]);omega;rintro e w6 ⟨A6,c6,rfl,r6,b6⟩;have b06:Below wc.heap.size wc w6:=((aq wc.heap.size wc).drew).trans b6;have z6:wc.heap.size<=w6.heap.size:=b06.size;obtain⟨y5,y6,y7,y8⟩:=u5.below b06 (by omega))
    |(go_at_call 130;refine(Ld A4 A6 c4 c6 R (val ys) _ ?_ ?_ ?_ ?_ ?_).mono ?_;exact o4l.below b06;exact r6.lim;exact lR;exact lV;exact aR K8;rintro e w7 ⟨A7,c7,rfl,r7,b7⟩;have b67:Below wc.heap.size wc w7:=b06.trans (b7.mono z6);obtain⟨y9,y10,y11,y12⟩:=u5.below b67 (by omega)))
   all_goals
    have vv4:=(u4.below b67 (by omega)).far (M:=w.heap.size+1+1+1) (by omega) (.bool false) (.slice A7 (limbs (val ys-R)).length c7);have vv5:=(u5.below b67 (by omega)).put false (.slice A7 (limbs (val ys-R)).length c7);have vo3:=(o3.below b67).iL (N:=w.heap.size+1+1+1) (by omega) (.bool false) (.slice A7 (limbs (val ys-R)).length c7);have vo7:=((r7.mono (lo':=w.heap.size+4) (by omega)).iL (N:=w.heap.size+1+1+1) (by omega) (.bool false) (.slice A7 (limbs (val ys-R)).length c7));have vb:=bH (hend.trans (b67.mono hend.size)) (show w.heap.size<=w.heap.size+1+1+1 by omega) (.bool false) (.slice A7 (limbs (val ys-R)).length c7);have vn:=(iM (w:=w7) (o:=0) (show w.heap.size+1≠w.heap.size+1+1+1 by omega) (.bool false) (.slice A7 (limbs (val ys-R)).length c7)).trans (bn b67 (by omega) n1);go_wp2_with fail
    go_meet;exact⟨rfl,A7,c7,vv4,vv5,vo3,vo7,vb,vn⟩
  case rest=>
   clear u4 u5 x1 x2 x3 x4 y1 y2 y3 y4 o3 o4 n1 n2 hbs o4l hend kx M9;obtain⟨rfl,A5,c5,u4,u5,o3,o5,hend,n1⟩:=hcut;have M9:w.heap.size+4<=wc.heap.size:=by have:=u5.lt;omega
   have lM:(limbs M).length<=70368744177660:=lM0.out
   cases q
   ·rw[show(!false)=true from rfl]at*;obtain⟨x1,x2,x3,x4⟩:=id u4;obtain⟨y1,y2,y3,y4⟩:=id u5;have l1:limbs 1=[1]:=jl [1] (by decide) (by decide);have L1:=ah l1;clear l1;go_upto_region 9 with fail
    go_cut [6] (fun s6 wx=>s6= .bool true/\∃A8 c8,cg wx (w.heap.size+1+1) (decide (dI true (M+1)<0)) (.slice A8 (limbs (M+1)).length c8)/\cg wx (w.heap.size+1+1+1) false (.slice A5 (limbs (val ys-R)).length c5)/\Own (w.heap.size+4) wx A8 c8 (limbs (M+1))/\Own (w.heap.size+4) wx A5 c5 (limbs (val ys-R))/\Below w.heap.size w wx)
    case first=>
     go_region_with (first
      |(go_at_call 67;refine(pH 1 _ ?_ ?_).mono ?_;omega;omega;rintro e w6 ⟨A6,c6,rfl,r6,b6⟩;have b06:Below wc.heap.size wc w6:=((aq wc.heap.size wc).drew).trans b6;have z6:wc.heap.size<=w6.heap.size:=b06.size;obtain⟨x5,x6,x7,x8⟩:=u4.below b06 (by omega))
      |(go_at_call 132;refine(Pm (dI true M) 1 (dI true (M+1)) _ _ _ _ A3 A6 c3 c6 _ rfl rfl ?_ ?_ ?_ ?_ ?_ ?_ ?_).mono ?_;(rw[eK]);rfl;exact o3.lim.below b06;exact r6.lim;exact lM;(show(limbs 1).length<=70368744177660;rw[L1.out];decide);(simp[dI];try omega);intro e w7 h7;obtain⟨A7,c7,rfl,r7,b7⟩:=h7.mk;have b67:Below wc.heap.size wc w7:=b06.trans (b7.mono z6);obtain⟨x9,x10,x11,x12⟩:=u4.below b67 (by omega)))
     all_goals
      have vv4:=(u4.below b67 (by omega)).put (decide (dI true (M+1)<0)) (.slice A7 (limbs (M+1)).length c7);have vv5:=(u5.below b67 (by omega)).far (M:=w.heap.size+1+1) (by omega) (.bool (decide (dI true (M+1)<0))) (.slice A7 (limbs (M+1)).length c7);have vo5:=(o5.below b67).iL (N:=w.heap.size+1+1) (by omega) (.bool (decide (dI true (M+1)<0))) (.slice A7 (limbs (M+1)).length c7);have vo7:=((r7.mono (lo':=w.heap.size+4) (by omega)).iL (N:=w.heap.size+1+1) (by omega) (.bool (decide (dI true (M+1)<0))) (.slice A7 (limbs (M+1)).length c7));have vb:=bH (hend.trans (b67.mono hend.size)) (show w.heap.size<=w.heap.size+1+1 by omega) (.bool (decide (dI true (M+1)<0))) (.slice A7 (limbs (M+1)).length c7);go_wp2_with fail
      go_meet;exact⟨rfl,A7,c7,vv4,vv5,vo7,vo5,vb⟩
    case rest=>
     obtain⟨rfl,A8,c8,u6,u7,o8,o5,hend⟩:=hcut;obtain⟨x1,x2,x3,x4⟩:=u6;obtain⟨y1,y2,y3,y4⟩:=u7;have cE:=uE (w:=w) HE.out.1 HE.out.2 ((o8.sJ (N:=w.heap.size+1+1) (M:=w.heap.size+1+1+1) (by omega) (by omega) (.bool (decide (dI true (M+1)<0))) (.slice A8 (limbs (M+1)).length c8) (.bool false) (.slice A5 (limbs (val ys-R)).length c5)).mono (by omega)) ((o5.sJ (N:=w.heap.size+1+1) (M:=w.heap.size+1+1+1) (by omega) (by omega) (.bool (decide (dI true (M+1)<0))) (.slice A8 (limbs (M+1)).length c8) (.bool false) (.slice A5 (limbs (val ys-R)).length c5)).mono (by omega)) (bH (bH hend (show w.heap.size<=w.heap.size+1+1 by omega) (.bool (decide (dI true (M+1)<0))) (.slice A8 (limbs (M+1)).length c8)) (show w.heap.size<=w.heap.size+1+1+1 by omega) (.bool false) (.slice A5 (limbs (val ys-R)).length c5));have dw:=ah cE.drew;clear cE o8 o5 u4 u5;go_wp2_with fail
     go_region
     go_wp2_with fail
     exact bodyPost_ret (v:= .tuple #[.agg #[.bool (decide (dI true (M+1)<0)), .slice A8 (limbs (M+1)).length c8], .agg #[.bool false, .slice A5 (limbs (val ys-R)).length c5], .bool true]) (by simp[results,Tryz.results106,go_sem,x1,x2,y1,y2]) rfl dw.out
   ·rw[show(!true)=false from rfl]at*;obtain⟨x1,x2,x3,x4⟩:=id u4;obtain⟨y1,y2,y3,y4⟩:=id u5;have l1:limbs 1=[1]:=jl [1] (by decide) (by decide);have L1:=ah l1;clear l1;go_upto_region 8 with fail
    go_cut [6] (fun s6 wx=>s6= .bool true/\∃A8 c8,cg wx (w.heap.size+1+1) (decide (dI false (M+1)<0)) (.slice A8 (limbs (M+1)).length c8)/\cg wx (w.heap.size+1+1+1) false (.slice A5 (limbs (val ys-R)).length c5)/\Own (w.heap.size+4) wx A8 c8 (limbs (M+1))/\Own (w.heap.size+4) wx A5 c5 (limbs (val ys-R))/\Below w.heap.size w wx)
    case first=>
     go_region_with (first
      |(go_at_call 67;refine(pH 1 _ ?_ ?_).mono ?_;omega;omega;rintro e w6 ⟨A6,c6,rfl,r6,b6⟩;have b06:Below wc.heap.size wc w6:=((aq wc.heap.size wc).drew).trans b6;have z6:wc.heap.size<=w6.heap.size:=b06.size;obtain⟨x5,x6,x7,x8⟩:=u4.below b06 (by omega))
      |(go_at_call 130;refine(Pk (dI false M) 1 (dI false (M+1)) _ _ _ _ A3 A6 c3 c6 _ rfl rfl ?_ ?_ ?_ ?_ ?_ ?_ ?_).mono ?_;(rw[eK]);rfl;exact o3.lim.below b06;exact r6.lim;exact lM;(show(limbs 1).length<=70368744177660;rw[L1.out];decide);(simp[dI];try omega);intro e w7 h7;obtain⟨A7,c7,rfl,r7,b7⟩:=h7.mk;have b67:Below wc.heap.size wc w7:=b06.trans (b7.mono z6);obtain⟨x9,x10,x11,x12⟩:=u4.below b67 (by omega)))
     all_goals
      have vv4:=(u4.below b67 (by omega)).put (decide (dI false (M+1)<0)) (.slice A7 (limbs (M+1)).length c7);have vv5:=(u5.below b67 (by omega)).far (M:=w.heap.size+1+1) (by omega) (.bool (decide (dI false (M+1)<0))) (.slice A7 (limbs (M+1)).length c7);have vo5:=(o5.below b67).iL (N:=w.heap.size+1+1) (by omega) (.bool (decide (dI false (M+1)<0))) (.slice A7 (limbs (M+1)).length c7);have vo7:=((r7.mono (lo':=w.heap.size+4) (by omega)).iL (N:=w.heap.size+1+1) (by omega) (.bool (decide (dI false (M+1)<0))) (.slice A7 (limbs (M+1)).length c7));have vb:=bH (hend.trans (b67.mono hend.size)) (show w.heap.size<=w.heap.size+1+1 by omega) (.bool (decide (dI false (M+1)<0))) (.slice A7 (limbs (M+1)).length c7);go_wp2_with fail
      go_meet;exact⟨rfl,A7,c7,vv4,vv5,vo7,vo5,vb⟩
    case rest=>
     obtain⟨rfl,A8,c8,u6,u7,o8,o5,hend⟩:=hcut;obtain⟨x1,x2,x3,x4⟩:=u6;obtain⟨y1,y2,y3,y4⟩:=u7;have cE:=uE (w:=w) HE.out.1 HE.out.2 ((o8.sJ (N:=w.heap.size+1+1) (M:=w.heap.size+1+1+1) (by omega) (by omega) (.bool (decide (dI false (M+1)<0))) (.slice A8 (limbs (M+1)).length c8) (.bool false) (.slice A5 (limbs (val ys-R)).length c5)).mono (by omega)) ((o5.sJ (N:=w.heap.size+1+1) (M:=w.heap.size+1+1+1) (by omega) (by omega) (.bool (decide (dI false (M+1)<0))) (.slice A8 (limbs (M+1)).length c8) (.bool false) (.slice A5 (limbs (val ys-R)).length c5)).mono (by omega)) (bH (bH hend (show w.heap.size<=w.heap.size+1+1 by omega) (.bool (decide (dI false (M+1)<0))) (.slice A8 (limbs (M+1)).length c8)) (show w.heap.size<=w.heap.size+1+1+1 by omega) (.bool false) (.slice A5 (limbs (val ys-R)).length c5));have dw:=ah cE.drew;clear cE o8 o5 u4 u5;go_wp2_with fail
     go_region
     go_wp2_with fail
     exact bodyPost_ret (v:= .tuple #[.agg #[.bool (decide (dI false (M+1)<0)), .slice A8 (limbs (M+1)).length c8], .agg #[.bool false, .slice A5 (limbs (val ys-R)).length c5], .bool true]) (by simp[results,Tryz.results106,go_sem,x1,x2,y1,y2]) rfl dw.out
/- Contracts of package integer and of its reference: division in full, with named results; the greatest common divisor. -/
theorem DP(p q:Bool)(A B:Option Addr)(xs ys:List Nat)(c d:Nat)(w:World)(ha:bQ w A c xs)(hb:bQ w B d ys)(hs:xs.length<=70368744177660)(ht:ys.length<=70368744177660)(h0:val ys≠0):
 Calls Tryz.prog 106 #[.agg #[.bool p, .slice A xs.length c], .agg #[.bool q, .slice B ys.length d]] w (jD w (iv p xs/iv q ys) (iv p xs % iv q ys)):=by
 by_cases h:p=false∨val xs % val ys=0
 ·exact uF p q A B xs ys c d w ha hb hs ht h0 h
 ·obtain rfl:p=true:=by cases p<;>simp_all
  exact yL q A B xs ys c d w ha hb hs ht h0 (fun e=>h (.inr e))
theorem Pn{q:Bool}{ys:List Nat}:iv q ys=0↔val ys=0:=by unfold iv;cases q<;>simp
section
variable (p q:Bool)(A B:Option Addr)(xs ys:List Nat)(c d:Nat)(w:World)(m n s t:Int)(K L:Nat)
theorem uG(ha:bQ w A c xs)(hb:bQ w B d ys)(hs:xs.length<=K)(ht:ys.length<=L)(hm:iv p xs=m)(hn:iv q ys=n)(h0:n≠0)(hq:m/n=s)(hr:m % n=t)(hK:K<=70368744177660)(hL:L<=70368744177660):
 Calls Tryz.prog 106 #[.agg #[.bool p, .slice A xs.length c], .agg #[.bool q, .slice B ys.length d]] w (jD w s t):=by
 subst hm hn hq hr;exact DP p q A B xs ys c d w ha hb (by omega) (by omega) (fun e=>h0 (Pn.2 e))
end
theorem Po(p q:Bool)(A B:Option Addr)(xs ys:List Nat)(c d:Nat)(w:World)(ha:bQ w A c xs)(hb:bQ w B d ys)(hs:xs.length<=70368744177660)(ht:ys.length<=70368744177660):
 Calls Tryz.prog 105 #[.agg #[.bool p, .slice A xs.length c], .agg #[.bool q, .slice B ys.length d]] w (bW w ((Nat.gcd (val xs) (val ys):Nat):Int)):=by
 have hg:(limbs (Nat.gcd (val xs) (val ys))).length<=70368744177664:=DN (k:=70368744177660) (ay (bh ha.lb) hs) (ay (bh hb.lb) ht) rfl (by omega);obtain⟨G,eG⟩:=xeq (Nat.gcd (val xs) (val ys));rw[eG]at hg⊢;have EG:=ah eG;clear eG;go_enter Tryz.func105,Tryz.ntmps105
 go_wp2_with fail
 obtain⟨W,hW,bC,hsz,k,kr⟩:=fE w p q (.slice A xs.length c) (.slice B ys.length d);rw[hW];clear hW;have hz:w.heap.size+3<=W.heap.size:=by omega
 clear hsz k;refine(Uw A B xs ys c d 70368744177660 W (ha.below bC) (hb.below bC) hs ht (aj _)).mono ?_;rintro e w1 ⟨A1,c1,rfl,r3,dM⟩;rw[EG.out]at r3⊢;go_wp2_with fail
 refine(uD false A1 G c1 _ r3.lim hg).mono ?_;rintro e w2 ⟨A2,c2,rfl,r4,fT⟩;obtain⟨m1,m2,m3,m4⟩:=dO (N:=w.heap.size+1+1) fT (ak (show w.heap.size+1+1<W.heap.size by omega) dM.size) (dO dM (show w.heap.size+1+1<W.heap.size by omega) kr);have cF:Below w.heap.size w w2:=(bC.trans (dM.mono (show w.heap.size<=W.heap.size by omega))).trans (fT.mono (ay (show w.heap.size<=W.heap.size by omega) dM.size));have FR:w.heap.size+1+1<w1.heap.size:=ak (show w.heap.size+1+1<W.heap.size by omega) dM.size;have e0:decide (dI false G<0)=false:=by simp[dI]
 rw[e0];clear e0
 have cE:bW w ((G:Nat):Int) (.returned (.agg #[.bool false, .slice A2 (limbs G).length c2]))
  ((w2.setCell ⟨w.heap.size+1+1,0,none⟩ (.bool false)).setCell ⟨w.heap.size+1+1,1,none⟩ (.slice A2 (limbs G).length c2)):=
  ⟨A2,c2,by rw[Int.natAbs_natCast,show decide (((G:Nat):Int)<0)=false by rw[decide_eq_false_iff_not];omega],by rw[Int.natAbs_natCast];exact(r4.iL FR _ _).mono (by omega),bH cF (by omega) _ _⟩
 clear cF r3 r4 dM fT bC kr;go_wp2
 exact bodyPost_ret (v:= .agg #[.bool false, .slice A2 (limbs G).length c2]) (by simp[results,Tryz.results105,go_sem,m1,m2]) rfl cE
section
variable (p q:Bool)(A B:Option Addr)(xs ys:List Nat)(c d:Nat)(w:World)(m n s:Int)(K L:Nat)
theorem Pp(ha:bQ w A c xs)(hb:bQ w B d ys)(hs:xs.length<=K)(ht:ys.length<=L)(hm:iv p xs=m)(hn:iv q ys=n)(h:((Nat.gcd m.natAbs n.natAbs:Nat):Int)=s)(hK:K<=70368744177660)(hL:L<=70368744177660):
 Calls Tryz.prog 105 #[.agg #[.bool p, .slice A xs.length c], .agg #[.bool q, .slice B ys.length d]] w (bW w s):=by
 subst hm hn h;rw[mq,mq];exact Po p q A B xs ys c d w ha hb (by omega) (by omega)
end
/- Variables of struct type in memory: what allocs and stores leave as it was. -/
theorem bQ.store{w:World}{A:Option Addr}{c:Nat}{xs:List Nat}{p:Addr}{u v:Value}(h:bQ w A c xs)(hp:w.cell? p=some v)(hv:∀z,v≠ .int .u32 z):bQ (w.setCell p u) A c xs:=
 ⟨h.lb,h.cap,h.max,fun h0=>by
   obtain⟨b,off,e,hb,hc⟩:=h.cells h0;refine⟨b,off,e,by simpa using hb,fun k hk=>?_⟩;rw[World.cell?_setCell_other]
   ·exact hc k hk
   ·intro he;rw[he,hc k hk]at hp;injection hp with hp
    exact hv _ hp.symm⟩
theorem Own.store{lo:Nat}{w:World}{A:Option Addr}{c:Nat}{xs:List Nat}{p:Addr}{u v:Value}(h:Own lo w A c xs)(hp:w.cell? p=some v)(hv:∀z,v≠ .int .u32 z):Own lo (w.setCell p u) A c xs:=
 ⟨h.lb,h.cap,h.max,fun h0=>by
   obtain⟨b,off,e,hlo,hb,hc⟩:=h.cells h0;refine⟨b,off,e,hlo,by simpa using hb,fun k hk=>⟨?_,by rw[World.frozen?_setCell];exact(hc k hk).2⟩⟩;rw[World.cell?_setCell_other]
   ·exact(hc k hk).1
   ·intro he;rw[he,(hc k hk).1]at hp;injection hp with hp
    exact hv _ hp.symm⟩
theorem cg.new(w:World)(b:Bool)(s:Value):cg (w.alloc (.cells #[.bool b,s] 43)) w.heap.size b s:=by
 refine⟨?_,?_,?_,?_⟩<;>go_simp
theorem cg.keep{w w':World}{N:Nat}{b:Bool}{s:Value}(h:cg w N b s)(hb:Below w.heap.size w w'):cg w' N b s:=h.below hb h.lt
theorem cg.alloc{w:World}{N:Nat}{b:Bool}{s:Value}(h:cg w N b s)(o:Obj):cg (w.alloc o) N b s:=h.keep (bI w o)
theorem bQ.put{w:World}{A:Option Addr}{c N:Nat}{xs:List Nat}{b:Bool}{B:Option Addr}{m n:Nat}(h:bQ w A c xs)(hN:cg w N b (.slice B m n))(b':Bool)(v:Value):bQ ((w.setCell ⟨N,0,none⟩ (.bool b')).setCell ⟨N,1,none⟩ v) A c xs:=by
 have h1:bQ (w.setCell ⟨N,0,none⟩ (.bool b')) A c xs:=h.store hN.c0 (by intro z e;cases e);exact h1.store (v:= .slice B m n) ((by rw[World.cell?_setCell_other (b:=(⟨N,1,none⟩:Addr)) (h:=by simp)];exact hN.c1)) (by intro z e;cases e)
theorem Own.put{lo:Nat}{w:World}{A:Option Addr}{c N:Nat}{xs:List Nat}{b:Bool}{B:Option Addr}{m n:Nat}(h:Own lo w A c xs)(hN:cg w N b (.slice B m n))(b':Bool)(v:Value):Own lo ((w.setCell ⟨N,0,none⟩ (.bool b')).setCell ⟨N,1,none⟩ v) A c xs:=by
 have h1:Own lo (w.setCell ⟨N,0,none⟩ (.bool b')) A c xs:=h.store hN.c0 (by intro z e;cases e);exact h1.store (v:= .slice B m n) ((by rw[World.cell?_setCell_other (b:=(⟨N,1,none⟩:Addr)) (h:=by simp)];exact hN.c1)) (by intro z e;cases e)
theorem Below.Ae{W w:World}(h:Below W.heap.size W w)(o:Obj):Below W.heap.size W (w.alloc o):=h.alloc h.size _
theorem Below.Fg{W w:World}{N:Nat}(h:Below W.heap.size W w)(hN:W.heap.size<=N)(u v:Value):Below W.heap.size W ((w.setCell ⟨N,0,none⟩ u).setCell ⟨N,1,none⟩ v):=bH h hN u v
/- Small laws for drawn regions that make and fill two variables of struct type. -/
theorem uH{W w w':World}(h:Below W.heap.size W w)(b:Below w.heap.size w w'):Below W.heap.size W w':=h.trans (b.mono h.size)
theorem bQ.empty(w:World)(A:Option Addr){c:Nat}(h:c<=9223372036854775807):bQ w A c []:=⟨tK,aF _,h,fun h=>absurd h (by simp)⟩
theorem bQ.FY{w:World}{A:Option Addr}{c:Nat}{xs:List Nat}{p:Addr}{u:Value}(h:bQ w A c xs)(hp:w.cell? p=some (.slice none 0 0)):bQ (w.setCell p u) A c xs:=h.store hp (by intro z e;cases e)
theorem bQ.FZ{w:World}{A:Option Addr}{c:Nat}{xs:List Nat}{p:Addr}{u:Value}(h:bQ w A c xs)(hp:w.cell? p=some (.bool false)):bQ (w.setCell p u) A c xs:=h.store hp (by intro z e;cases e)
theorem Own.FY{lo:Nat}{w:World}{A:Option Addr}{c:Nat}{xs:List Nat}{p:Addr}{u:Value}(h:Own lo w A c xs)(hp:w.cell? p=some (.slice none 0 0)):Own lo (w.setCell p u) A c xs:=h.store hp (by intro z e;cases e)
theorem Own.FZ{lo:Nat}{w:World}{A:Option Addr}{c:Nat}{xs:List Nat}{p:Addr}{u:Value}(h:Own lo w A c xs)(hp:w.cell? p=some (.bool false)):Own lo (w.setCell p u) A c xs:=h.store hp (by intro z e;cases e)
/- Contracts of the reference of layer 2: Canonical, Bezout. -/
theorem Bz.size{a b g x y:Int}(h:Bz a b g x y):(x.natAbs<=1∨x.natAbs<=b.natAbs)/\(y.natAbs<=1∨y.natAbs<=a.natAbs):=by
 by_cases hb:b=0
 ·obtain⟨h1,h2⟩:=h.b0 hb;subst h1;exact⟨.inl h2, .inl (by decide)⟩
 ·by_cases ha:a=0
  ·obtain⟨h1,h2⟩:=h.a0 hb ha;subst h1;exact⟨.inl (by decide), .inl (by omega)⟩
  ·obtain⟨h1,h2⟩:=h.bd ha hb
   have hg:0<g.natAbs:=by
    rw[<-h.gg,Int.natAbs_natCast];exact Nat.gcd_pos_of_pos_left _ (by omega)
   exact⟨.inr (ay (Nat.le_mul_of_pos_right _ hg) h1), .inr (ay (Nat.le_mul_of_pos_right _ hg) h2)⟩
theorem yM(p:Bool)(A:Option Addr)(xs:List Nat)(c:Nat)(w:World)(n r:Int)(h:bQ w A c xs)(hs:xs.length<=70368744177664)(hn:iv p xs=n)(hr:fZ n=r):
 Calls Tryz.prog 32 #[.agg #[.bool p, .slice A xs.length c]] w (pF w r):=by
 subst hn hr;exact Pa p A xs c w h hs
/- Rational numbers: the value of a Rat of the program; canonical results; contracts of rational.small, parts. -/
def rv(p:Bool)(xs ys:List Nat):Rat:=mkRat (iv p xs) (val ys)
theorem yN{p:Bool}{xs ys:List Nat}(h:val ys=0):rv p xs ys=0:=by unfold rv;rw[h];exact Rat.mkRat_zero _
theorem Le(r:Rat):rv (decide (r.num<0)) (limbs r.num.natAbs) (limbs r.den)=r:=by
 unfold rv;rw[dS,aV];exact Rat.mkRat_self r
theorem jI{n:Int}{d:Nat}(h:d≠0):(mkRat n d).num=n/ ((Nat.gcd n.natAbs d:Nat):Int)/\(mkRat n d).den=d/Nat.gcd n.natAbs d:=by
 unfold mkRat;rw[dif_neg h,Rat.normalize_eq];exact⟨rfl,rfl⟩
theorem gN(n:Int)(d:Nat):(mkRat n d).num.natAbs<=n.natAbs:=by
 by_cases h:d=0
 ·subst h;rw[Rat.mkRat_zero];simp
 ·rw[(jI h).1];exact Int.natAbs_ediv_le_natAbs _ _
theorem gO(n:Int){d:Nat}(h:d≠0):(mkRat n d).den<=d:=by
 rw[(jI h).2];exact Nat.div_le_self _ _
theorem wh(n:Int)(d:Nat):(mkRat n d).den<=d∨(mkRat n d).den<=1:=by
 by_cases h:d=0
 ·subst h;right;rw[Rat.mkRat_zero];decide
 ·exact .inl (gO n h)
theorem mS:(limbs 1).length=1:=by rw[jl [1] (by decide) (by decide)];rfl
theorem xD{p:Bool}{xs ys:List Nat}{K:Nat}(h:Lb xs)(hl:xs.length<=K):(limbs (rv p xs ys).num.natAbs).length<=K:=
 ay (bN (gN _ _)) (jk h hl)
theorem Ii{p:Bool}{xs ys:List Nat}{K:Nat}(h:Lb ys)(hl:ys.length<=K)(h1:1<=K):(limbs (rv p xs ys).den).length<=K:=by
 rcases wh (iv p xs) (val ys)with h2|h2
 ·exact ay (bN h2) (ay (bh h) hl)
 ·exact ay (bN h2) (by rw[mS];exact h1)
def fu(w:World)(r:Rat)(e:Ending)(w':World):Prop:=
 ∃A c B d,e= .returned (.agg #[.bool (decide (r.num<0)), .slice A (limbs r.num.natAbs).length c, .slice B (limbs r.den).length d])/\Own w.heap.size w' A c (limbs r.num.natAbs)/\Own w.heap.size w' B d (limbs r.den)/\Below w.heap.size w w'
structure dP(w:World)(N:Nat)(b:Bool)(s t:Value):Prop where
 c0:w.cell? ⟨N,0,none⟩=some (.bool b)
 c1:w.cell? ⟨N,1,none⟩=some s
 c2:w.cell? ⟨N,2,none⟩=some t
 f0:w.frozen? ⟨N,0,none⟩=false
 f1:w.frozen? ⟨N,1,none⟩=false
 f2:w.frozen? ⟨N,2,none⟩=false
theorem dP.below{B N:Nat}{w w':World}{b:Bool}{s t:Value}(h:dP w N b s t)(hb:Below B w w')(hN:N<B):dP w' N b s t:=
 ⟨(hb.cell (p:=⟨N,0,none⟩) hN).trans h.c0,(hb.cell (p:=⟨N,1,none⟩) hN).trans h.c1,(hb.cell (p:=⟨N,2,none⟩) hN).trans h.c2,(hb.frozen (p:=⟨N,0,none⟩) hN).trans h.f0,(hb.frozen (p:=⟨N,1,none⟩) hN).trans h.f1,(hb.frozen (p:=⟨N,2,none⟩) hN).trans h.f2⟩
theorem dP.lt{w:World}{N:Nat}{b:Bool}{s t:Value}(h:dP w N b s t):N<w.heap.size:=aG w _ h.c0
theorem dP.keep{w w':World}{N:Nat}{b:Bool}{s t:Value}(h:dP w N b s t)(hb:Below w.heap.size w w'):dP w' N b s t:=h.below hb h.lt
theorem dP.new(w:World)(b:Bool)(s t:Value):dP (w.alloc (.cells #[.bool b,s,t] 45)) w.heap.size b s t:=by
 refine⟨?_,?_,?_,?_,?_,?_⟩<;>go_simp
theorem Nf(w:World)(p:Bool)(u v:Value):
 ∃W,w.alloc (.cells #[.bool p,u,v] 45)=W/\Below w.heap.size w W/\W.heap.size=w.heap.size+1/\dP W w.heap.size p u v:=
 ⟨_,rfl,bI _ _,by simp,dP.new _ _ _ _⟩
theorem yO(w:World)(p:Bool)(u v:Value):
 ∃W,(w.alloc (.cells #[.bool p,u,v] 45)).alloc (.cells #[.bool false, .slice none 0 0, .slice none 0 0] 45)=W/\Below w.heap.size w W/\W.heap.size=w.heap.size+2/\dP W w.heap.size p u v/\dP W (w.heap.size+1) false (.slice none 0 0) (.slice none 0 0):=by
 refine⟨_,rfl,sK _ _ _,by simp,?_,?_⟩
 ·refine⟨?_,?_,?_,?_,?_,?_⟩<;>go_simp
 ·refine⟨?_,?_,?_,?_,?_,?_⟩<;>go_simp
def AY(w:World)(n d:Int)(o:Bool)(e:Ending)(w':World):Prop:=e= .returned (.tuple #[.int .i64 n, .int .i64 d, .bool o])/\Below w.heap.size w w'
theorem AZ(p:Bool)(A B:Option Addr)(xs ys:List Nat)(c d:Nat)(w:World)(ha:bQ w A c xs)(hb:bQ w B d ys)(h:¬(val xs<=2147483647/\val ys<=2147483647)):
 Calls Tryz.prog 57 #[.agg #[.bool p, .slice A xs.length c, .slice B ys.length d]] w (AY w 0 0 false):=by
 have hB:Ba*Ba=18446744073709551616:=by decide
 obtain⟨W,hW,bC,_,hr⟩:=Nf w p (.slice A xs.length c) (.slice B ys.length d);obtain⟨r0,r1,r2,_,_,_⟩:=id hr;have lr:=hr.lt;replace ha:=ha.below bC;replace hb:=hb.below bC;obtain⟨u,eu⟩:=xeq (val xs);obtain⟨v,ev⟩:=xeq (val ys);rw[eu,ev]at h;have EU:=ah eu;have EV:=ah ev;have HB:=ah hB;have HW:=ah hW;clear eu ev hB hW;go_enter Tryz.func57,Tryz.ntmps57
 by_cases hu:u<=18446744073709551615
 ·by_cases hv:v<=18446744073709551615
  ·by_cases QT:2147483648<=u
   ·have d1:decide ((2147483648:Int)<=(u:Int))=true:=by rw[decide_eq_true_eq];omega
    have HU:=ah hu;have HV:=ah hv;clear hu hv;clear h QT;go_wp2_with fail
    rw[HW.out];refine(jO A xs c _ u ha EU.out (by rw[HB.out];have:=HU.out;omega)).mono ?_;rintro e w1 ⟨rfl,b1⟩;obtain⟨q0,q1,q2,_,_,_⟩:=hr.keep b1;go_wp2_with fail
    refine(jO B ys d _ v (hb.below b1) EV.out (by rw[HB.out];have:=HV.out;omega)).mono ?_;rintro e w2 ⟨rfl,b2⟩;go_wp2_with fail
    all_goals (go_ret3;exact⟨rfl,bC.trans ((b1.trans (b2.mono b1.size)).mono bC.size)⟩)
   ·have d1:decide ((2147483648:Int)<=(u:Int))=false:=by rw[decide_eq_false_iff_not];omega
    have d2:decide ((2147483648:Int)<=(v:Int))=true:=by rw[decide_eq_true_eq];omega
    have HU:=ah hu;have HV:=ah hv;clear hu hv;clear h QT;go_wp2_with fail
    rw[HW.out];refine(jO A xs c _ u ha EU.out (by rw[HB.out];have:=HU.out;omega)).mono ?_;rintro e w1 ⟨rfl,b1⟩;obtain⟨q0,q1,q2,_,_,_⟩:=hr.keep b1;go_wp2_with fail
    refine(jO B ys d _ v (hb.below b1) EV.out (by rw[HB.out];have:=HV.out;omega)).mono ?_;rintro e w2 ⟨rfl,b2⟩;go_wp2_with fail
    all_goals (go_ret3;exact⟨rfl,bC.trans ((b1.trans (b2.mono b1.size)).mono bC.size)⟩)
  ·clear h;have HU:=ah hu;have HV:=ah hv;clear hu hv;go_wp2_with fail
   rw[HW.out];refine(jO A xs c _ u ha EU.out (by rw[HB.out];have:=HU.out;omega)).mono ?_;rintro e w1 ⟨rfl,b1⟩;obtain⟨q0,q1,q2,_,_,_⟩:=hr.keep b1;go_wp2_with fail
   refine(yK B ys d _ v (hb.below b1) EV.out (by rw[HB.out];have:=HV.out;omega)).mono ?_;rintro e w2 ⟨rfl,b2⟩;go_wp2_with fail
   all_goals (go_ret3;exact⟨rfl,bC.trans ((b1.trans (b2.mono b1.size)).mono bC.size)⟩)
 ·clear h
  by_cases hv:v<=18446744073709551615
  ·have tk:True:=trivial;have HU:=ah hu;have HV:=ah hv;clear hu hv;go_wp2_with fail
   rw[HW.out];refine(yK A xs c _ u ha EU.out (by rw[HB.out];have:=HU.out;omega)).mono ?_;rintro e w1 ⟨rfl,b1⟩;obtain⟨q0,q1,q2,_,_,_⟩:=hr.keep b1;go_wp2_with fail
   refine(jO B ys d _ v (hb.below b1) EV.out (by rw[HB.out];have:=HV.out;omega)).mono ?_;rintro e w2 ⟨rfl,b2⟩;go_wp2_with fail
   all_goals (go_ret3;exact⟨rfl,bC.trans ((b1.trans (b2.mono b1.size)).mono bC.size)⟩)
  ·have tk:True:=trivial;have HU:=ah hu;have HV:=ah hv;clear hu hv;go_wp2_with fail
   rw[HW.out];refine(yK A xs c _ u ha EU.out (by rw[HB.out];have:=HU.out;omega)).mono ?_;rintro e w1 ⟨rfl,b1⟩;obtain⟨q0,q1,q2,_,_,_⟩:=hr.keep b1;go_wp2_with fail
   refine(yK B ys d _ v (hb.below b1) EV.out (by rw[HB.out];have:=HV.out;omega)).mono ?_;rintro e w2 ⟨rfl,b2⟩;go_wp2_with fail
   all_goals (go_ret3;exact⟨rfl,bC.trans ((b1.trans (b2.mono b1.size)).mono bC.size)⟩)
def Sm(p:Bool)(xs ys:List Nat)(n d:Int):Prop:= -2147483647<=n/\n<=2147483647/\1<=d/\d<=2147483647/\mkRat n d.toNat=rv p xs ys
theorem xE(p:Bool)(A B:Option Addr)(xs ys:List Nat)(c d:Nat)(w:World)(ha:bQ w A c xs)(hb:bQ w B d ys)(h:val xs<=2147483647/\val ys<=2147483647):
 Calls Tryz.prog 57 #[.agg #[.bool p, .slice A xs.length c, .slice B ys.length d]] w fun e w'=>∃n d,Sm p xs ys n d/\AY w n d true e w':=by
 have hB:Ba*Ba=18446744073709551616:=by decide
 obtain⟨W,hW,bC,_,hr⟩:=Nf w p (.slice A xs.length c) (.slice B ys.length d);obtain⟨r0,r1,r2,_,_,_⟩:=id hr;have lr:=hr.lt;replace ha:=ha.below bC;replace hb:=hb.below bC;obtain⟨u,eu⟩:=xeq (val xs);obtain⟨v,ev⟩:=xeq (val ys);have hiv:iv p xs=if p then -(u:Int)else u:=by rw[<-eu];rfl
 rw[eu,ev]at h;obtain⟨hu,hv⟩:=h;have d1:decide ((2147483648:Int)<=(u:Int))=false:=by rw[decide_eq_false_iff_not];omega
 have d2:decide ((2147483648:Int)<=(v:Int))=false:=by rw[decide_eq_false_iff_not];omega
 have a1:wrap64 (u:Int)=(u:Int):=IntWalk.wrap64_in _ ⟨by omega,by omega⟩;have a2:wrap64 (v:Int)=(v:Int):=IntWalk.wrap64_in _ ⟨by omega,by omega⟩;have a3:wrap64 (-(u:Int))= -(u:Int):=IntWalk.wrap64_in _ ⟨by omega,by omega⟩;have W1:=ah a1;have W2:=ah a2;have W3:=ah a3;clear a1 a2 a3;have EU:=ah eu;have EV:=ah ev;have HB:=ah hB;have HW:=ah hW;have HI:=ah hiv;have HU:=ah hu;have HV:=ah hv;clear eu ev hB hW hiv hu hv;go_enter Tryz.func57,Tryz.ntmps57
 by_cases h0:v=0
 ·have j0:(v:Int)=0:=by omega
  have HS:=ah (show Sm p xs ys 0 1 from⟨by omega,by omega,by omega,by omega,by rw[yN (EV.out.trans h0)];rfl⟩);clear h0;go_wp2_with fail
  rw[HW.out];refine(jO A xs c _ u ha EU.out (by rw[HB.out];have:=HU.out;omega)).mono ?_;rintro e w1 ⟨rfl,b1⟩;obtain⟨q0,q1,q2,_,_,_⟩:=hr.keep b1;go_wp2_with fail
  refine(jO B ys d _ v (hb.below b1) EV.out (by rw[HB.out];have:=HV.out;omega)).mono ?_;rintro e w2 ⟨rfl,b2⟩;go_wp2_with fail
  all_goals (go_ret3;exact⟨0,1,HS.out,rfl,bC.trans ((b1.trans (b2.mono b1.size)).mono bC.size)⟩)
 ·have j0:¬(v:Int)=0:=by omega
  cases p with
  |true=>
   have HS:=ah (show Sm true xs ys (-(u:Int)) v from⟨by have:=HU.out;omega,by omega,by omega,by have:=HV.out;omega,by unfold rv;rw[HI.out,EV.out];simp⟩);clear h0;go_wp2_with fail
   rw[HW.out];refine(jO A xs c _ u ha EU.out (by rw[HB.out];have:=HU.out;omega)).mono ?_;rintro e w1 ⟨rfl,b1⟩;obtain⟨q0,q1,q2,_,_,_⟩:=hr.keep b1;go_wp2_with fail
   refine(jO B ys d _ v (hb.below b1) EV.out (by rw[HB.out];have:=HV.out;omega)).mono ?_;rintro e w2 ⟨rfl,b2⟩;obtain⟨s0,s1,s2,_,_,_⟩:=hr.keep (b1.trans (b2.mono b1.size));go_wp2_with fail
   all_goals (go_ret3;exact⟨-(u:Int),v,HS.out,(show Ending.returned (.tuple #[.int .i64 (wrap64 (-wrap64 (u:Int))), .int .i64 (wrap64 (v:Int)), .bool true])=_ from by rw[W1.out,W3.out,W2.out]),bC.trans ((b1.trans (b2.mono b1.size)).mono bC.size)⟩)
  |false=>
   have HS:=ah (show Sm false xs ys (u:Int) v from⟨by omega,by have:=HU.out;omega,by omega,by have:=HV.out;omega,by unfold rv;rw[HI.out,EV.out];simp⟩);clear h0;go_wp2_with fail
   rw[HW.out];refine(jO A xs c _ u ha EU.out (by rw[HB.out];have:=HU.out;omega)).mono ?_;rintro e w1 ⟨rfl,b1⟩;obtain⟨q0,q1,q2,_,_,_⟩:=hr.keep b1;go_wp2_with fail
   refine(jO B ys d _ v (hb.below b1) EV.out (by rw[HB.out];have:=HV.out;omega)).mono ?_;rintro e w2 ⟨rfl,b2⟩;obtain⟨s0,s1,s2,_,_,_⟩:=hr.keep (b1.trans (b2.mono b1.size));go_wp2_with fail
   all_goals (go_ret3;exact⟨u,v,HS.out,(show Ending.returned (.tuple #[.int .i64 (wrap64 (u:Int)), .int .i64 (wrap64 (v:Int)), .bool true])=_ from by rw[W1.out,W2.out]),bC.trans ((b1.trans (b2.mono b1.size)).mono bC.size)⟩)
/- Contracts of rational.quotient, rational.parts. -/
theorem dD{B:Nat}{w0 w:World}{N:Nat}(h:Below B w0 w)(hN:B<=N)(u v t:Value):Below B w0 (((w.setCell ⟨N,0,none⟩ u).setCell ⟨N,1,none⟩ v).setCell ⟨N,2,none⟩ t):=by
 have h2:=bH h hN u v;exact⟨h2.os,h2.tape,h2.output,by rw[World.size_setCell];exact h2.size,fun k hk=>(Below.heap_setCell _ ⟨N,2,none⟩ t k (by show k≠N;omega)).trans (h2.block k hk)⟩
theorem Own.gY{lo:Nat}{w:World}{A:Option Addr}{c N:Nat}{xs:List Nat}{b:Bool}{B C:Option Addr}{m n k l:Nat}(h:Own lo w A c xs)(hN:dP w N b (.slice B m n) (.slice C k l))(b':Bool)(u v:Value):Own lo (((w.setCell ⟨N,0,none⟩ (.bool b')).setCell ⟨N,1,none⟩ u).setCell ⟨N,2,none⟩ v) A c xs:=by
 have h1:Own lo (w.setCell ⟨N,0,none⟩ (.bool b')) A c xs:=h.store hN.c0 (by intro z e;cases e);have h2:Own lo ((w.setCell ⟨N,0,none⟩ (.bool b')).setCell ⟨N,1,none⟩ u) A c xs:=h1.store (v:= .slice B m n) (by rw[World.cell?_setCell_other (b:=(⟨N,1,none⟩:Addr)) (h:=by simp)];exact hN.c1) (by intro z e;cases e);exact h2.store (v:= .slice C k l) (by rw[World.cell?_setCell_other (b:=(⟨N,2,none⟩:Addr)) (h:=by simp),World.cell?_setCell_other (b:=(⟨N,2,none⟩:Addr)) (h:=by simp)];exact hN.c2) (by intro z e;cases e)
theorem bQ.gY{w:World}{A:Option Addr}{c N:Nat}{xs:List Nat}{b:Bool}{B C:Option Addr}{m n k l:Nat}(h:bQ w A c xs)(hN:dP w N b (.slice B m n) (.slice C k l))(b':Bool)(u v:Value):bQ (((w.setCell ⟨N,0,none⟩ (.bool b')).setCell ⟨N,1,none⟩ u).setCell ⟨N,2,none⟩ v) A c xs:=by
 have h1:bQ (w.setCell ⟨N,0,none⟩ (.bool b')) A c xs:=h.store hN.c0 (by intro z e;cases e);have h2:bQ ((w.setCell ⟨N,0,none⟩ (.bool b')).setCell ⟨N,1,none⟩ u) A c xs:=h1.store (v:= .slice B m n) (by rw[World.cell?_setCell_other (b:=(⟨N,1,none⟩:Addr)) (h:=by simp)];exact hN.c1) (by intro z e;cases e);exact h2.store (v:= .slice C k l) (by rw[World.cell?_setCell_other (b:=(⟨N,2,none⟩:Addr)) (h:=by simp),World.cell?_setCell_other (b:=(⟨N,2,none⟩:Addr)) (h:=by simp)];exact hN.c2) (by intro z e;cases e)
theorem jE{w w1:World}{r:Rat}{N:Nat}{b:Bool}{B C:Option Addr}{m n k l:Nat}{A A':Option Addr}{c c':Nat}(hN:dP w1 N b (.slice B m n) (.slice C k l))(hl:w.heap.size<=N)(o1:Own w.heap.size w1 A c (limbs r.num.natAbs))(o2:Own w.heap.size w1 A' c' (limbs r.den))(hb:Below w.heap.size w w1):
 fu w r (.returned (.agg #[.bool (decide (r.num<0)), .slice A (limbs r.num.natAbs).length c, .slice A' (limbs r.den).length c']))
  (((w1.setCell ⟨N,0,none⟩ (.bool (decide (r.num<0)))).setCell ⟨N,1,none⟩ (.slice A (limbs r.num.natAbs).length c)).setCell ⟨N,2,none⟩ (.slice A' (limbs r.den).length c')):=
 ⟨A,c,A',c',rfl,o1.gY hN _ _ _,o2.gY hN _ _ _,dD hb hl _ _ _⟩
theorem fu.drewN{w w':World}{r:Rat}{e:Ending}(h:fu w r e w')(k:Nat):fu w r e (w'.drewN k):=by
 obtain⟨A,c,B,d,h1,h2,h3,h4⟩:=h;exact⟨A,c,B,d,h1,h2.drewN k,h3.drewN k,below_drewN h4 k⟩
theorem mw{n:Int}{d:Nat}(h:d≠0):(mkRat n d).num.natAbs=n.natAbs/Nat.gcd n.natAbs d/\((mkRat n d).num<0↔n<0)/\(mkRat n d).den=d/Nat.gcd n.natAbs d:=by
 obtain⟨h1,h2⟩:=jI (n:=n) h;have hg:0<Nat.gcd n.natAbs d:=Nat.gcd_pos_of_pos_right _ (Nat.pos_of_ne_zero h)
 have hd:((Nat.gcd n.natAbs d:Nat):Int)∣n:=by
  rw[<-Int.dvd_natAbs];exact Int.natCast_dvd_natCast.2 (Nat.gcd_dvd_left _ _)
 refine⟨?_,?_,h2⟩
 ·rw[h1,Int.natAbs_ediv_of_dvd hd,Int.natAbs_natCast]
 ·rw[h1];obtain⟨k,hk⟩:=hd;have hg':(0:Int)< ((Nat.gcd n.natAbs d:Nat):Int):=by omega
  generalize ((Nat.gcd n.natAbs d:Nat):Int)=g at hk hg';rw[hk,Int.mul_ediv_cancel_left _ (by omega)];constructor
  ·intro h3;exact Int.mul_neg_of_pos_of_neg hg' h3
  ·intro h3;rcases Int.lt_or_le k 0 with h4|h4
   ·exact h4
   ·have:=Int.mul_nonneg (Int.le_of_lt hg') h4;omega
theorem Ng(w:World):∃W,w.alloc (.cells #[.bool false, .slice none 0 0, .slice none 0 0] 45)=W/\Below w.heap.size w W/\W.heap.size=w.heap.size+1/\dP W w.heap.size false (.slice none 0 0) (.slice none 0 0):=
 ⟨_,rfl,bI _ _,by simp,dP.new _ _ _ _⟩
theorem yP(n:Int)(d:Nat)(w:World)(h1: -9223372036854775807<=n)(h2:n<=9223372036854775807)(d1:1<=d)(d2:d<=9223372036854775807)(hn:n<0):
 Calls Tryz.prog 58 #[.int .i64 n, .int .i64 (d:Int)] w (fu w (mkRat n d)):=by
 have hB:Ba*Ba=18446744073709551616:=by decide
 obtain⟨s,es⟩:=xeq (n.natAbs:Nat);obtain⟨G,eG⟩:=xeq (Nat.gcd s d:Nat);have hG:0<G:=by rw[<-eG];exact Nat.gcd_pos_of_pos_right _ (by omega)
 obtain⟨q1,e1⟩:=xeq (s/G:Nat);obtain⟨q2,e2⟩:=xeq (d/G:Nat);have hs:s<=9223372036854775807:=by omega
 have l1:q1<Ba*Ba:=by rw[hB,<-e1];exact aP (Nat.div_le_self _ _) (by omega)
 have l2:q2<Ba*Ba:=by rw[hB,<-e2];exact aP (Nat.div_le_self _ _) (by omega)
 obtain⟨r,er⟩:=xeq (mkRat n d:Rat);obtain⟨a1,a2,a3⟩:=mw (n:=n) (d:=d) (by omega);rw[er,es,eG]at a1 a3;rw[er]at a2;rw[e1]at a1;rw[e2]at a3;have Lf:decide (r.num<0)=true:=by rw[decide_eq_true_eq,a2];exact hn
 have t1:((s:Nat):Int)/ ((G:Nat):Int)=((q1:Nat):Int):=by rw[<-e1];rfl
 have t2:((d:Nat):Int)/ ((G:Nat):Int)=((q2:Nat):Int):=by rw[<-e2];rfl
 have t1':((s:Nat):Int).tdiv ((G:Nat):Int)=((q1:Nat):Int):=by rw[<-e1];rfl
 have t2':((d:Nat):Int).tdiv ((G:Nat):Int)=((q2:Nat):Int):=by rw[<-e2];rfl
 rw[er];have dn:decide (n<0)=true:=by rw[decide_eq_true_eq];exact hn
 have wn:IntKind.u64.wrap (-IntKind.u64.wrap n)=(s:Int):=by rw[IntKind.wrap_u64,IntKind.wrap_u64];omega
 have A1:=ah a1;have A2:=ah Lf;have A3:=ah a3;have EG:=ah eG;have L1:=ah l1;have L2:=ah l2;have T1:=ah t1;have T2:=ah t2;have WN:=ah wn;have HG:=ah hG;have WD:=ah (show IntKind.u64.wrap ((d:Nat):Int)=(d:Int) by rw[IntKind.wrap_u64];omega);have WS:=ah (show IntKind.u64.wrap ((s:Nat):Int)=(s:Int) by rw[IntKind.wrap_u64];omega);have HS:=ah hs;have HD:=ah d2;clear a1 a2 Lf a3 eG l1 l2 hB es er e1 e2 h1 h2 hs d2 wn;obtain⟨W,hW,bC,hsz,hr⟩:=Ng w;have HW:=ah hW;have jw:w.heap.size<W.heap.size:=by omega
 clear hW hsz;go_enter Tryz.func58,Tryz.ntmps58
 go_wp2_with fail
 rw[HW.out,WN.out,WD.out];clear HW
 go_loopw [6,7] (fun x y wi=>∃(x' y' k:Nat),x= .int .u64 x'/\y= .int .u64 y'/\x'<=18446744073709551615/\y'<=18446744073709551615/\Hid (Nat.gcd x' y'=G)/\wi=W.drewN k) (fun _ y _=>(intOf y).toNat)
 case atStart=>exact⟨d,s,0,rfl,rfl,by have:=HD.out;omega,by have:=HS.out;omega,ah (by rw[Nat.gcd_comm];exact EG.out),rfl⟩
 case round=>
  obtain⟨x',y',k,rfl,rfl,hx',hy',hg',rfl⟩:=hrel;rcases aM y' with rfl|hp
  ·obtain rfl:x'=G:=by rw[<-hg'.out,Nat.gcd_zero_right]
   have gz:((x':Int)==0)=false:=by rw[beq_eq_false_iff_ne];omega
   have hbk:Below w.heap.size w (W.drewN k):=below_drewN bC k;have JU:dP (W.drewN k) w.heap.size false (.slice none 0 0) (.slice none 0 0):=hr.keep (below_drewN (aq _ _) k);obtain⟨U,hU⟩:=xeq (W.drewN k);rw[hU]at hbk JU;rw[hU];clear hU hr bC jw;have jw:=JU.lt;have bB:Below U.heap.size U U.drew:=(aq _ _).drew;have kQ:True:=trivial;have wd:=WD.out;have wq1:IntKind.u64.wrap ((q1:Nat):Int)=(q1:Int):=by have h:=L1.out;rw[show Ba*Ba=18446744073709551616 by decide]at h;rw[IntKind.wrap_u64];omega
   have wq2:IntKind.u64.wrap ((q2:Nat):Int)=(q2:Int):=by have h:=L2.out;rw[show Ba*Ba=18446744073709551616 by decide]at h;rw[IntKind.wrap_u64];omega
   have gz2:¬(x':Int)=0:=by omega
   have gz3:¬x'=0:=by omega
   clear T1 T2 HG hg' hx' hy' HS HD WS EG hG d1 hn;go_wp2_with fail
   go_region_held3 (fun _=>True) (first|trivial|go_keep)
    (first
      |(go_at_call 94;have _t:=kQ;clear kQ;refine(cW q1 _ L1.out).mono ?_;rintro e w1 ⟨B1,c1,rfl,o1,b1⟩;have p1:=o1.mono (lo':=w.heap.size) (ay hbk.size bB.size);replace bB:=bB.trans (b1.mono bB.size))
      |(go_at_call 94;refine(cW q2 _ L2.out).mono ?_;rintro e w2 ⟨B2,c2,rfl,o2,b2⟩;have p2:=o2.mono (lo':=w.heap.size) (ay hbk.size bB.size);have gD:Below U.heap.size U w2:=bB.trans (b2.mono bB.size);clear bB;have bB:=gD;clear gD;have hf:=JU.keep bB;obtain⟨x0,x1,x2,x3,x4,x5⟩:=id hf))
   rename_i aU
   clear aU;have cE:=jE (w:=w) (r:=r) hf (aj _) (by rw[A1.out];exact p1.below b2) (by rw[A3.out];exact p2) (hbk.trans (bB.mono hbk.size));rw[A1.out,A2.out,A3.out]at cE;have dw:=ah cE;clear cE p1 p2 o1 o2 b1 b2 bB hf JU;go_wp2_with fail
   exact bodyPost_ret (v:= .agg #[.bool true, .slice B1 (limbs q1).length c1, .slice B2 (limbs q2).length c2]) (by simp[results,Tryz.results58,go_sem,x0,x1,x2]) rfl dw.out
  ·have hne:((y':Int) !=0)=true:=by rw[bne_iff_ne];omega
   have iw:((y':Int)==0)=false:=by rw[beq_eq_false_iff_ne];omega
   have e3:(x':Int).tmod (y':Int)=((x' % y':Nat):Int):=by rw[Int.tmod_eq_emod_of_nonneg (by omega)];rfl
   have hm:=Nat.mod_lt x' hp;have Ih:Hid (Nat.gcd y' (x' % y')=G):=ah (by rw[mR];exact hg'.out);obtain⟨T,eT⟩:=xeq (x' % y');rw[eT]at e3 hm Ih;clear eT;go_wp2
   go_quiet (fail)
   go_wp2
   go_roundw
   case rel=>exact⟨y',T,_,rfl,rfl,hy',by omega,Ih,World.drewN_drewN _ _ _⟩
   case measure=>simp[intOf];try omega
theorem yQ(n:Int)(d:Nat)(w:World)(h1: -9223372036854775807<=n)(h2:n<=9223372036854775807)(d1:1<=d)(d2:d<=9223372036854775807)(hn:0<=n):
 Calls Tryz.prog 58 #[.int .i64 n, .int .i64 (d:Int)] w (fu w (mkRat n d)):=by
 have hB:Ba*Ba=18446744073709551616:=by decide
 obtain⟨s,es⟩:=xeq (n.natAbs:Nat);obtain⟨G,eG⟩:=xeq (Nat.gcd s d:Nat);have hG:0<G:=by rw[<-eG];exact Nat.gcd_pos_of_pos_right _ (by omega)
 obtain⟨q1,e1⟩:=xeq (s/G:Nat);obtain⟨q2,e2⟩:=xeq (d/G:Nat);have hs:s<=9223372036854775807:=by omega
 have l1:q1<Ba*Ba:=by rw[hB,<-e1];exact aP (Nat.div_le_self _ _) (by omega)
 have l2:q2<Ba*Ba:=by rw[hB,<-e2];exact aP (Nat.div_le_self _ _) (by omega)
 obtain⟨r,er⟩:=xeq (mkRat n d:Rat);obtain⟨a1,a2,a3⟩:=mw (n:=n) (d:=d) (by omega);rw[er,es,eG]at a1 a3;rw[er]at a2;rw[e1]at a1;rw[e2]at a3;have Lf:decide (r.num<0)=false:=by rw[decide_eq_false_iff_not,a2];omega
 have t1:((s:Nat):Int)/ ((G:Nat):Int)=((q1:Nat):Int):=by rw[<-e1];rfl
 have t2:((d:Nat):Int)/ ((G:Nat):Int)=((q2:Nat):Int):=by rw[<-e2];rfl
 have t1':((s:Nat):Int).tdiv ((G:Nat):Int)=((q1:Nat):Int):=by rw[<-e1];rfl
 have t2':((d:Nat):Int).tdiv ((G:Nat):Int)=((q2:Nat):Int):=by rw[<-e2];rfl
 rw[er];have dn:decide (n<0)=false:=by rw[decide_eq_false_iff_not];omega
 obtain rfl:n=(s:Int):=by omega
 have A1:=ah a1;have A2:=ah Lf;have A3:=ah a3;have EG:=ah eG;have L1:=ah l1;have L2:=ah l2;have T1:=ah t1;have T2:=ah t2;have WN:=trivial;have HG:=ah hG;have WD:=ah (show IntKind.u64.wrap ((d:Nat):Int)=(d:Int) by rw[IntKind.wrap_u64];omega);have WS:=ah (show IntKind.u64.wrap ((s:Nat):Int)=(s:Int) by rw[IntKind.wrap_u64];omega);have HS:=ah hs;have HD:=ah d2;clear a1 a2 Lf a3 eG l1 l2 hB es er e1 e2 h1 h2 hs d2;obtain⟨W,hW,bC,hsz,hr⟩:=Ng w;have HW:=ah hW;have jw:w.heap.size<W.heap.size:=by omega
 clear hW hsz;go_enter Tryz.func58,Tryz.ntmps58
 go_wp2_with fail
 rw[HW.out]
 try rw[WS.out]
 try rw[WD.out]
 clear HW
 go_loopw [6,7] (fun x y wi=>∃(x' y' k:Nat),x= .int .u64 x'/\y= .int .u64 y'/\x'<=18446744073709551615/\y'<=18446744073709551615/\Hid (Nat.gcd x' y'=G)/\wi=W.drewN k) (fun _ y _=>(intOf y).toNat)
 case atStart=>exact⟨d,s,0,rfl,rfl,by have:=HD.out;omega,by have:=HS.out;omega,ah (by rw[Nat.gcd_comm];exact EG.out),rfl⟩
 case round=>
  obtain⟨x',y',k,rfl,rfl,hx',hy',hg',rfl⟩:=hrel;rcases aM y' with rfl|hp
  ·obtain rfl:x'=G:=by rw[<-hg'.out,Nat.gcd_zero_right]
   have gz:((x':Int)==0)=false:=by rw[beq_eq_false_iff_ne];omega
   have hbk:Below w.heap.size w (W.drewN k):=below_drewN bC k;have JU:dP (W.drewN k) w.heap.size false (.slice none 0 0) (.slice none 0 0):=hr.keep (below_drewN (aq _ _) k);obtain⟨U,hU⟩:=xeq (W.drewN k);rw[hU]at hbk JU;rw[hU];clear hU hr bC jw;have jw:=JU.lt;have bB:Below U.heap.size U U.drew:=(aq _ _).drew;have kQ:True:=trivial;have wd:=WD.out;have wq1:IntKind.u64.wrap ((q1:Nat):Int)=(q1:Int):=by have h:=L1.out;rw[show Ba*Ba=18446744073709551616 by decide]at h;rw[IntKind.wrap_u64];omega
   have wq2:IntKind.u64.wrap ((q2:Nat):Int)=(q2:Int):=by have h:=L2.out;rw[show Ba*Ba=18446744073709551616 by decide]at h;rw[IntKind.wrap_u64];omega
   have gz2:¬(x':Int)=0:=by omega
   have gz3:¬x'=0:=by omega
   clear T1 T2 HG hg' hx' hy' HS HD WS EG hG d1 hn;go_wp2_with fail
   go_region_held3 (fun _=>True) (first|trivial|go_keep)
    (first
      |(go_at_call 94;have _t:=kQ;clear kQ;refine(cW q1 _ L1.out).mono ?_;rintro e w1 ⟨B1,c1,rfl,o1,b1⟩;have p1:=o1.mono (lo':=w.heap.size) (ay hbk.size bB.size);replace bB:=bB.trans (b1.mono bB.size))
      |(go_at_call 94;refine(cW q2 _ L2.out).mono ?_;rintro e w2 ⟨B2,c2,rfl,o2,b2⟩;have p2:=o2.mono (lo':=w.heap.size) (ay hbk.size bB.size);have gD:Below U.heap.size U w2:=bB.trans (b2.mono bB.size);clear bB;have bB:=gD;clear gD;have hf:=JU.keep bB;obtain⟨x0,x1,x2,x3,x4,x5⟩:=id hf))
   rename_i aU
   clear aU;have cE:=jE (w:=w) (r:=r) hf (aj _) (by rw[A1.out];exact p1.below b2) (by rw[A3.out];exact p2) (hbk.trans (bB.mono hbk.size));rw[A1.out,A2.out,A3.out]at cE;have dw:=ah cE;clear cE p1 p2 o1 o2 b1 b2 bB hf JU;go_wp2_with fail
   exact bodyPost_ret (v:= .agg #[.bool false, .slice B1 (limbs q1).length c1, .slice B2 (limbs q2).length c2]) (by simp[results,Tryz.results58,go_sem,x0,x1,x2]) rfl dw.out
  ·have hne:((y':Int) !=0)=true:=by rw[bne_iff_ne];omega
   have iw:((y':Int)==0)=false:=by rw[beq_eq_false_iff_ne];omega
   have e3:(x':Int).tmod (y':Int)=((x' % y':Nat):Int):=by rw[Int.tmod_eq_emod_of_nonneg (by omega)];rfl
   have hm:=Nat.mod_lt x' hp;have Ih:Hid (Nat.gcd y' (x' % y')=G):=ah (by rw[mR];exact hg'.out);obtain⟨T,eT⟩:=xeq (x' % y');rw[eT]at e3 hm Ih;clear eT;go_wp2
   go_quiet (fail)
   go_wp2
   go_roundw
   case rel=>exact⟨y',T,_,rfl,rfl,hy',by omega,Ih,World.drewN_drewN _ _ _⟩
   case measure=>simp[intOf];try omega
theorem DQ(n:Int)(d:Nat)(w:World)(r:Rat)(h1: -9223372036854775807<=n)(h2:n<=9223372036854775807)(d1:1<=d)(d2:d<=9223372036854775807)(hr:mkRat n d=r):
 Calls Tryz.prog 58 #[.int .i64 n, .int .i64 (d:Int)] w (fu w r):=by
 subst hr;rcases Int.lt_or_le n 0 with h|h
 ·exact yP n d w h1 h2 d1 d2 h
 ·exact yQ n d w h1 h2 d1 d2 h
theorem mT(n e:Int)(w:World)(r:Rat)(h1: -9223372036854775807<=n)(h2:n<=9223372036854775807)(d1:1<=e)(d2:e<=9223372036854775807)(hr:mkRat n e.toNat=r):
 Calls Tryz.prog 58 #[.int .i64 n, .int .i64 e] w (fu w r):=by
 have k:=DQ n e.toNat w r h1 h2 (by omega) (by omega) hr;rw[show((e.toNat:Nat):Int)=e by omega]at k;exact k
def Lh(w:World)(r:Rat)(K:Nat)(e:Ending)(w':World):Prop:=
 ∃q A xs c B ys d,e= .returned (.tuple #[.agg #[.bool q, .slice A xs.length c], .slice B ys.length d])/\bQ w' A c xs/\bQ w' B d ys/\xs.length<=K/\ys.length<=K/\val ys≠0/\rv q xs ys=r/\Below w.heap.size w w'
theorem Ux(w:World)(p:Bool)(u v:Value):
 ∃W,(w.alloc (.cells #[.bool p,u,v] 45)).alloc (.cells #[.bool false, .slice none 0 0] 43)=W/\Below w.heap.size w W/\W.heap.size=w.heap.size+2/\dP W w.heap.size p u v/\cg W (w.heap.size+1) false (.slice none 0 0):=by
 refine⟨_,rfl,sK _ _ _,by simp,?_,?_⟩
 ·refine⟨?_,?_,?_,?_,?_,?_⟩<;>go_simp
 ·refine⟨?_,?_,?_,?_⟩<;>go_simp
theorem mU(p:Bool)(A B:Option Addr)(xs ys:List Nat)(c d:Nat)(w:World)(r:Rat)(K:Nat)(ha:bQ w A c xs)(hb:bQ w B d ys)(hs:xs.length<=K)(ht:ys.length<=K)(hK:1<=K)(hr:rv p xs ys=r):
 Calls Tryz.prog 59 #[.agg #[.bool p, .slice A xs.length c, .slice B ys.length d]] w (Lh w r K):=by
 obtain⟨W,hW,bC,hsz,h1,h2⟩:=Ux w p (.slice A xs.length c) (.slice B ys.length d);have j0:=h1.lt;have j1:=h2.lt;have HW:=ah hW;have HR:=ah hr;clear hW hsz hr;replace ha:=ha.below bC;replace hb:=hb.below bC;go_enter Tryz.func59,Tryz.ntmps59
 by_cases h0:val ys=0
 ·have hc:gq (val ys) (val [])=0:=by rw[h0];decide
  have H0:=ah h0;clear h0;go_wp2_with fail
  rw[HW.out];refine(qX B none ys [] d 0 W _ _ 0 hb (bQ.nil _ _) rfl rfl hc).mono ?_;rintro e w1 ⟨rfl,b1⟩;obtain⟨q0,q1,q2,q3⟩:=h2.keep b1;have k1:=ak j1 b1.size;go_wp2_with fail
  have hb2:=bH (bC.trans (b1.mono bC.size)) (show w.heap.size<=w.heap.size+1 by omega) (.bool false) (.slice none 0 0);have hfin:=hb2.alloc hb2.size (.cells #[.int .u32 1] 75);have fi:=((h2.keep b1).put false (.slice none 0 0)).alloc (.cells #[.int .u32 1] 75);have hl:=Wh ((w1.setCell ⟨w.heap.size+1,0,none⟩ (.bool false)).setCell ⟨w.heap.size+1,1,none⟩ (.slice none 0 0)) [1] (qW _ (by decide)) (by decide);exact bodyPost_ret (v:= .tuple #[.agg #[.bool false, .slice none 0 0], .slice (some ⟨w1.heap.size,0,none⟩) 1 1]) (by simp[results,Tryz.results59,go_sem,fi.c0,fi.c1]) rfl ⟨false,none,[],0,some ⟨w1.heap.size,0,none⟩,[1],1,rfl,bQ.nil _ _,by simpa [cellsOf] using hl,aF _,hK,by decide,by rw[<-HR.out,yN H0.out];rfl,hfin⟩
 ·have hc:gq (val ys) (val [])=1:=by rw[iE (by rw[show val []=0 from rfl];omega)]
  have H0:=ah h0;clear h0;go_wp2_with fail
  rw[HW.out];refine(qX B none ys [] d 0 W _ _ 1 hb (bQ.nil _ _) rfl rfl hc).mono ?_;rintro e w1 ⟨rfl,b1⟩;obtain⟨r0,r1,r2,r3,r4,r5⟩:=h1.keep b1;obtain⟨q0,q1,q2,q3⟩:=h2.keep b1;have k1:=ak j1 b1.size;go_wp2_with fail
  go_region
  go_wp2_with fail
  have hfin:=(bH (bC.trans (b1.mono bC.size)) (show w.heap.size<=w.heap.size+1 by omega) (.bool p) (.slice A xs.length c)).drew;have i2:=h2.keep b1;have la:=((ha.below b1).put i2 p (.slice A xs.length c)).drewN 1;have lb:=((hb.below b1).put i2 p (.slice A xs.length c)).drewN 1;exact bodyPost_ret (v:= .tuple #[.agg #[.bool p, .slice A xs.length c], .slice B ys.length d]) (by simp[results,Tryz.results59,go_sem,q0,q1]) rfl ⟨p,A,xs,c,B,ys,d,rfl,la,lb,hs,ht,H0.out,HR.out,hfin⟩
/- Contracts of rational.lowest, Norm, Sign. -/
theorem cg.Fe{N:Nat}{w:World}{b:Bool}{s:Value}(h:cg w N b s)(s':Value):cg (w.setCell ⟨N,1,none⟩ s') N b s':=by
 obtain⟨h0,h1,h2,h3⟩:=h;refine⟨?_,?_,?_,?_⟩<;>go_simp
theorem dP.Fh{N M i:Nat}{w:World}{b:Bool}{s t:Value}(h:dP w N b s t)(hM:N≠M)(u:Value):dP (w.setCell ⟨M,i,none⟩ u) N b s t:=by
 have h1:=Below.heap_setCell w ⟨M,i,none⟩ u N hM;exact⟨by rw[<-h.c0];simp only[World.cell?,h1],by rw[<-h.c1];simp only[World.cell?,h1],by rw[<-h.c2];simp only[World.cell?,h1],by rw[<-h.f0];simp only[World.frozen?,h1],by rw[<-h.f1];simp only[World.frozen?,h1],by rw[<-h.f2];simp only[World.frozen?,h1]⟩
theorem cg.Fh{N M i:Nat}{w:World}{b:Bool}{s:Value}(h:cg w N b s)(hM:N≠M)(u:Value):cg (w.setCell ⟨M,i,none⟩ u) N b s:=by
 have h1:=Below.heap_setCell w ⟨M,i,none⟩ u N hM;exact⟨by rw[<-h.c0];simp only[World.cell?,h1],by rw[<-h.c1];simp only[World.cell?,h1],by rw[<-h.f0];simp only[World.frozen?,h1],by rw[<-h.f1];simp only[World.frozen?,h1]⟩
theorem Uy(w:World)(p:Bool)(u:Value):
 ∃W,(w.alloc (.cells #[.bool p,u] 43)).alloc (.cells #[.bool false, .slice none 0 0, .slice none 0 0] 45)=W/\Below w.heap.size w W/\W.heap.size=w.heap.size+2/\cg W w.heap.size p u/\dP W (w.heap.size+1) false (.slice none 0 0) (.slice none 0 0):=by
 refine⟨_,rfl,sK _ _ _,by simp,?_,?_⟩
 ·refine⟨?_,?_,?_,?_⟩<;>go_simp
 ·refine⟨?_,?_,?_,?_,?_,?_⟩<;>go_simp
theorem dP.put{N:Nat}{w:World}{b:Bool}{s t:Value}(h:dP w N b s t)(b':Bool)(s' t':Value):dP (((w.setCell ⟨N,0,none⟩ (.bool b')).setCell ⟨N,1,none⟩ s').setCell ⟨N,2,none⟩ t') N b' s' t':=by
 obtain⟨h0,h1,h2,h3,h4,h5⟩:=h;refine⟨?_,?_,?_,?_,?_,?_⟩<;>go_simp
theorem Li{w w1:World}{N:Nat}(hl:w.heap.size<=N)(hb:Below w.heap.size w w1):
 fu w 0 (.returned (.agg #[.bool false, .slice none 0 0, .slice (some ⟨w1.heap.size,0,none⟩) 1 1]))
  ((((w1.setCell ⟨N,0,none⟩ (.bool false)).setCell ⟨N,1,none⟩ (.slice none 0 0)).setCell ⟨N,2,none⟩ (.slice (some ⟨w1.heap.size,0,none⟩) 1 1)).alloc (.cells #[.int .u32 1] 75)):=by
 have h3:=dD hb hl (.bool false) (.slice none 0 0) (.slice (some ⟨w1.heap.size,0,none⟩) 1 1);have hrow:=(Row.new (((w1.setCell ⟨N,0,none⟩ (.bool false)).setCell ⟨N,1,none⟩ (.slice none 0 0)).setCell ⟨N,2,none⟩ (.slice (some ⟨w1.heap.size,0,none⟩) 1 1)) [1]).own (lo:=w.heap.size) (qW _ (by decide)) h3.size (by decide);have e1:limbs 1=[1]:=jl [1] (by decide) (by decide);refine⟨none,0,some ⟨w1.heap.size,0,none⟩,1,?_,?_,?_,h3.alloc h3.size _⟩
 ·show _=Ending.returned (.agg #[.bool (decide ((0:Int)<0)), .slice none (limbs 0).length 0, .slice _ (limbs 1).length 1])
  rw[e1,bM];rfl
 ·show Own _ _ _ _ (limbs 0)
  rw[bM];exact Own.nil _ _ _
 ·show Own _ _ _ _ (limbs 1)
  rw[e1]
  simpa [cellsOf] using hrow
theorem qj(p:Bool)(A B:Option Addr)(xs ys:List Nat)(c d:Nat)(w:World)(r:Rat)(K:Nat)(ha:bQ w A c xs)(hb:bQ w B d ys)(hs:xs.length<=K)(ht:ys.length<=K)(hK:K<=70368744177660)(h0:val ys≠0)(hr:rv p xs ys=r):
 Calls Tryz.prog 61 #[.agg #[.bool p, .slice A xs.length c], .slice B ys.length d] w (fu w r):=by
 obtain⟨n,en⟩:=xeq (iv p xs);obtain⟨D,eD⟩:=xeq (val ys);have zn:(limbs n.natAbs).length<=K:=by rw[<-en];exact jk ha.lb hs
 have zD:(limbs D).length<=K:=by rw[<-eD];exact ay (bh hb.lb) ht
 unfold rv at hr;rw[en,eD]at hr;rw[eD]at h0;obtain⟨a1,a2,a3⟩:=mw (n:=n) h0;rw[hr]at a1 a2 a3;obtain⟨G,eG⟩:=xeq (Nat.gcd n.natAbs D);rw[eG]at a1 a3;have hG:0<G:=by rw[<-eG];exact Nat.gcd_pos_of_pos_right _ (by omega)
 have zG:(limbs G).length<=K:=DN zn zD eG (aj _);have Lf:decide (r.num<0)=decide (n<0):=decide_eq_decide.2 a2;have EN:=ah en;have ED:=ah eD;have EG:=ah eG;have R1:=ah a1;have R2:=ah Lf;have R3:=ah a3;have HR:=ah hr;have H0:=ah h0;clear en eD eG a1 a2 Lf a3 hr h0;obtain⟨W,hW,bC,hsz,i2,i4⟩:=Uy w p (.slice A xs.length c);have j2:=i2.lt;have j4:=i4.lt;have HW:=ah hW;clear hW hsz;replace ha:=ha.below bC;replace hb:=hb.below bC;go_enter Tryz.func61,Tryz.ntmps61
 go_wp2_with fail
 rw[HW.out];refine(O9 p A xs c _ n K ha hs EN.out (by omega)).mono ?_;rintro e w1 ⟨A1,c1,rfl,r1,b1⟩;go_wp2_with fail
 refine(Uh B ys d _ D K (hb.below b1) ht ED.out (by omega)).mono ?_;rintro e w2 ⟨A2,c2,rfl,r2,b2⟩;have b02:=b1.trans (b2.mono b1.size);have t2:=i2.keep b02;have t4:=i4.keep b02;have o1:=(r1.below b2).mono (lo':=w.heap.size) bC.size;have o2:=r2.mono (lo':=w.heap.size) (ay bC.size b1.size);have hb2:=bC.trans (b02.mono bC.size);obtain⟨x0,x1,x2,x3⟩:=id t2;have s1:=o1.put t2 (decide (n<0)) (.slice A1 (limbs n.natAbs).length c1);have s2:=o2.put t2 (decide (n<0)) (.slice A1 (limbs n.natAbs).length c1);have v2:=t2.put (decide (n<0)) (.slice A1 (limbs n.natAbs).length c1);have v4:=(t4.Fh (M:=w.heap.size) (i:=0) (by omega) (.bool (decide (n<0)))).Fh (M:=w.heap.size) (i:=1) (by omega) (.slice A1 (limbs n.natAbs).length c1);have fq:=bH hb2 (aj _) (.bool (decide (n<0))) (.slice A1 (limbs n.natAbs).length c1);obtain⟨w3,hw3⟩:=xeq ((w2.setCell ⟨w.heap.size,0,none⟩ (.bool (decide (n<0)))).setCell ⟨w.heap.size,1,none⟩ (.slice A1 (limbs n.natAbs).length c1));rw[hw3]at s1 s2 v2 v4 fq;have k2:=v2.lt;have k4:=v4.lt;clear r1 r2 b1 b2 b02 t2 t4 o1 o2 i2 i4 hb2 ha hb;obtain⟨y0,y1,y2,y3⟩:=id v2;obtain⟨z0,z1,z2,z3,z4,z5⟩:=id v4
 by_cases hz:n.natAbs=0
 ·have hn0:n=0:=by omega
  have hl:(limbs n.natAbs).length=0:=by rw[hz,bM];rfl
  have hl2:((limbs n.natAbs).length:Int)=0:=by omega
  have hr0:r=0:=by rw[<-HR.out,hn0];exact Rat.zero_mkRat _
  have Yg:=ah hr0;clear hz hr0 hn0 hl;go_wp2_with fail
  clear hw3;have fi:=(v4.put false (.slice none 0 0) (.slice (some ⟨w3.heap.size,0,none⟩) 1 1)).keep (bI _ (.cells #[.int .u32 1] 75));have cE:=Li (w:=w) (N:=w.heap.size+1) (by omega) fq;rw[Yg.out];exact bodyPost_ret (v:= .agg #[.bool false, .slice none 0 0, .slice (some ⟨w3.heap.size,0,none⟩) 1 1]) (by simp[results,Tryz.results61,go_sem,fi.c0,fi.c1,fi.c2]) rfl cE
 ·have hp:0< (limbs n.natAbs).length:=List.length_pos_iff.2 (fun e=>hz (by have:=bV.1 e;exact this));have hz2:¬((limbs n.natAbs).length:Int)=0:=by omega
  clear hz;go_wp2_with fail
  refine(Zw A1 A2 (limbs n.natAbs) (limbs D) c1 c2 _ n.natAbs D G K K s1.lim s2.lim zn zD (aV _) (aV _) EG.out hK hK).mono ?_;rintro e w4 ⟨A3,c3,rfl,r3,b3⟩;have Lj:=v2.keep b3;have Lk:=v4.keep b3;have s1':=s1.below b3;have s2':=s2.below b3;have hb4:=fq.trans (b3.mono fq.size);have o3:=r3.mono (lo':=w.heap.size) fq.size;clear x0 x1 x2 x3 y0 y1 y2 y3 z0 z1 z2 z3 z4 z5 v2 v4 s1 s2 b3 r3 hw3;obtain⟨y0,y1,y2,y3⟩:=id Lj;obtain⟨z0,z1,z2,z3,z4,z5⟩:=id Lk
  by_cases hg1:G=1
  ·have e1:limbs G=[1]:=by rw[hg1];exact jl [1] (by decide) (by decide)
   have hl1:((limbs G).length:Int)=1:=by rw[e1];rfl
   obtain⟨bg,og,eA,_,hbg,hcg⟩:=o3.cells (by omega);have hc0:=(hcg 0 (by omega)).1;rw[Nat.add_zero,e1]at hc0;have aj4:w4.cell? ⟨bg,og,none⟩=some (.int .u32 1):=hc0;subst eA;have Q1:=ah (show r.num.natAbs=n.natAbs by rw[R1.out,hg1,Nat.div_one]);have Q3:=ah (show r.den=D by rw[R3.out,hg1,Nat.div_one]);have i0:(0:Int)< ((limbs G).length:Int):=by omega
   clear hcg hc0 e1 hg1 o3;have cE:=jE (w:=w) (r:=r) Lk (show w.heap.size<=w.heap.size+1 by omega) (A:=A1) (c:=c1) (A':=A2) (c':=c2) (by rw[Q1.out];exact s1') (by rw[Q3.out];exact s2') hb4;rw[Q1.out,R2.out,Q3.out]at cE;have dw:=ah cE;clear cE;go_wp2_with fail
   exact bodyPost_ret (v:= .agg #[.bool (decide (n<0)), .slice A1 (limbs n.natAbs).length c1, .slice A2 (limbs D).length c2]) (by simp[results,Tryz.results61,go_sem,z0,z1,z2]) rfl dw.out
  ·have hgn:G≠0:=by omega
   by_cases hl1:(limbs G).length=1
   ·obtain⟨x,ex⟩:=List.length_eq_one_iff.1 hl1
    have hx:x≠1:=by
     intro h1;have hv:=aV G;rw[ex,h1]at hv;exact hg1 (by rw[<-hv];rfl)
    have hl2:((limbs G).length:Int)=1:=by omega
    obtain⟨bg,og,eA,hlo,hbg,hcg⟩:=id (o3.cells (by omega));have hc0:=(hcg 0 (by omega)).1;rw[Nat.add_zero,ex]at hc0;have aj4:w4.cell? ⟨bg,og,none⟩=some (.int .u32 ((x:Nat):Int)):=hc0;have hx2:((x:Int) !=1)=true:=by rw[bne_iff_ne];omega
    have i0:(0:Int)< ((limbs G).length:Int):=by omega
    subst eA;clear hcg hc0 ex hl1 hx;have e1:=Nat.div_le_self n.natAbs G;obtain⟨N',eN⟩:=xeq (n.natAbs/G);obtain⟨D',Uz⟩:=xeq (D/G);have Q1:=ah (show r.num.natAbs=N' by rw[R1.out,eN]);have Q3:=ah (show r.den=D' by rw[R3.out,Uz]);have Pq:=ah eN;have ED':=ah Uz;clear eN Uz e1;go_wp2_with fail
    refine(qh A1 (some ⟨bg,og,none⟩) (limbs n.natAbs) (limbs G) c1 c3 _ n.natAbs G N' (n.natAbs % G) K s1'.lim o3.lim zn (aV _) (aV _) (by omega) Pq.out rfl (by omega)).mono ?_;rintro e w5 ⟨A5,c5,A6,c6,rfl,r5,r6,b5⟩;have u2:=Lj.keep b5;have u4:=Lk.keep b5;have q2:=s2'.below b5;have q3:=o3.below b5;have q5:=r5.mono (lo':=w.heap.size) hb4.size;have gj:=hb4.trans (b5.mono hb4.size);obtain⟨y0,y1,y2,y3⟩:=id u2;have k2':=u2.lt;have k4':=u4.lt;have p2:=q2.store (p:=⟨w.heap.size,1,none⟩) (u:= .slice A5 (limbs N').length c5) u2.c1 (by intro z e;cases e);have p3:=q3.store (p:=⟨w.heap.size,1,none⟩) (u:= .slice A5 (limbs N').length c5) u2.c1 (by intro z e;cases e);have p5:=q5.store (p:=⟨w.heap.size,1,none⟩) (u:= .slice A5 (limbs N').length c5) u2.c1 (by intro z e;cases e);have t2:=u2.Fe (.slice A5 (limbs N').length c5);have t4:=u4.Fh (M:=w.heap.size) (i:=1) (by omega) (.slice A5 (limbs N').length c5);have eC:=gj.setCell (p:=⟨w.heap.size,1,none⟩) (aj _) (.slice A5 (limbs N').length c5);obtain⟨w6,iB⟩:=xeq (w5.setCell ⟨w.heap.size,1,none⟩ (.slice A5 (limbs N').length c5));rw[iB]at p2 p3 p5 t2 t4 eC;clear r5 r6 b5 u2 u4 q2 q3 q5 gj s1' s2' o3 Lj Lk hb4;go_wp2_with fail
    refine(qh A2 (some ⟨bg,og,none⟩) (limbs D) (limbs G) c2 c3 _ D G D' (D % G) K p2.lim p3.lim zD (aV _) (aV _) (by omega) ED'.out rfl (by omega)).mono ?_;rintro e w7 ⟨A7,c7,A8,c8,rfl,r7,r8,b7⟩;clear iB y0 y1 y2 y3;have f2:=t2.keep b7;have f4:=t4.keep b7;have f5:=p5.below b7;have f7:=r7.mono (lo':=w.heap.size) eC.size;have fW:=eC.trans (b7.mono eC.size);obtain⟨y0,y1,y2,y3⟩:=id f2;obtain⟨x0,x1,x2,x3,x4,x5⟩:=id f4;have m2:=f2.lt;have m4:=f4.lt;clear r7 r8 b7 p2 p3 p5 t2 t4;have cE:=jE (w:=w) (r:=r) f4 (show w.heap.size<=w.heap.size+1 by omega) (A:=A5) (c:=c5) (A':=A7) (c':=c7) (by rw[Q1.out];exact f5) (by rw[Q3.out];exact f7) fW;rw[Q1.out,R2.out,Q3.out]at cE;have dw:=ah cE;clear cE;go_wp2_with fail
    exact bodyPost_ret (v:= .agg #[.bool (decide (n<0)), .slice A5 (limbs N').length c5, .slice A7 (limbs D').length c7]) (by simp[results,Tryz.results61,go_sem,x0,x1,x2]) rfl dw.out
   ·have hl2:(((limbs G).length:Int) !=1)=true:=by rw[bne_iff_ne];omega
    clear hl1;have e1:=Nat.div_le_self n.natAbs G;obtain⟨N',eN⟩:=xeq (n.natAbs/G);obtain⟨D',Uz⟩:=xeq (D/G);have Q1:=ah (show r.num.natAbs=N' by rw[R1.out,eN]);have Q3:=ah (show r.den=D' by rw[R3.out,Uz]);have Pq:=ah eN;have ED':=ah Uz;clear eN Uz e1;go_wp2_with fail
    refine(qh A1 A3 (limbs n.natAbs) (limbs G) c1 c3 _ n.natAbs G N' (n.natAbs % G) K s1'.lim o3.lim zn (aV _) (aV _) (by omega) Pq.out rfl (by omega)).mono ?_;rintro e w5 ⟨A5,c5,A6,c6,rfl,r5,r6,b5⟩;have u2:=Lj.keep b5;have u4:=Lk.keep b5;have q2:=s2'.below b5;have q3:=o3.below b5;have q5:=r5.mono (lo':=w.heap.size) hb4.size;have gj:=hb4.trans (b5.mono hb4.size);obtain⟨y0,y1,y2,y3⟩:=id u2;have k2':=u2.lt;have k4':=u4.lt;have p2:=q2.store (p:=⟨w.heap.size,1,none⟩) (u:= .slice A5 (limbs N').length c5) u2.c1 (by intro z e;cases e);have p3:=q3.store (p:=⟨w.heap.size,1,none⟩) (u:= .slice A5 (limbs N').length c5) u2.c1 (by intro z e;cases e);have p5:=q5.store (p:=⟨w.heap.size,1,none⟩) (u:= .slice A5 (limbs N').length c5) u2.c1 (by intro z e;cases e);have t2:=u2.Fe (.slice A5 (limbs N').length c5);have t4:=u4.Fh (M:=w.heap.size) (i:=1) (by omega) (.slice A5 (limbs N').length c5);have eC:=gj.setCell (p:=⟨w.heap.size,1,none⟩) (aj _) (.slice A5 (limbs N').length c5);obtain⟨w6,iB⟩:=xeq (w5.setCell ⟨w.heap.size,1,none⟩ (.slice A5 (limbs N').length c5));rw[iB]at p2 p3 p5 t2 t4 eC;clear r5 r6 b5 u2 u4 q2 q3 q5 gj s1' s2' o3 Lj Lk hb4;go_wp2_with fail
    refine(qh A2 A3 (limbs D) (limbs G) c2 c3 _ D G D' (D % G) K p2.lim p3.lim zD (aV _) (aV _) (by omega) ED'.out rfl (by omega)).mono ?_;rintro e w7 ⟨A7,c7,A8,c8,rfl,r7,r8,b7⟩;clear iB y0 y1 y2 y3;have f2:=t2.keep b7;have f4:=t4.keep b7;have f5:=p5.below b7;have f7:=r7.mono (lo':=w.heap.size) eC.size;have fW:=eC.trans (b7.mono eC.size);obtain⟨y0,y1,y2,y3⟩:=id f2;obtain⟨x0,x1,x2,x3,x4,x5⟩:=id f4;have m2:=f2.lt;have m4:=f4.lt;clear r7 r8 b7 p2 p3 p5 t2 t4;have cE:=jE (w:=w) (r:=r) f4 (show w.heap.size<=w.heap.size+1 by omega) (A:=A5) (c:=c5) (A':=A7) (c':=c7) (by rw[Q1.out];exact f5) (by rw[Q3.out];exact f7) fW;rw[Q1.out,R2.out,Q3.out]at cE;have dw:=ah cE;clear cE;go_wp2_with fail
    exact bodyPost_ret (v:= .agg #[.bool (decide (n<0)), .slice A5 (limbs N').length c5, .slice A7 (limbs D').length c7]) (by simp[results,Tryz.results61,go_sem,x0,x1,x2]) rfl dw.out
/- Contracts of rational.Norm, Sign, floor, Floor. -/
theorem gE{w W w1:World}{r:Rat}{N:Nat}{b:Bool}{B C:Option Addr}{m n k l:Nat}{A A':Option Addr}{c c':Nat}(hN:dP w1 N b (.slice B m n) (.slice C k l))(hl:w.heap.size<=N)(o1:Own W.heap.size w1 A c (limbs r.num.natAbs))(o2:Own W.heap.size w1 A' c' (limbs r.den))(hW:w.heap.size<=W.heap.size)(hb:Below w.heap.size w w1):
 fu w r (.returned (.agg #[.bool (decide (r.num<0)), .slice A (limbs r.num.natAbs).length c, .slice A' (limbs r.den).length c']))
  (((w1.setCell ⟨N,0,none⟩ (.bool (decide (r.num<0)))).setCell ⟨N,1,none⟩ (.slice A (limbs r.num.natAbs).length c)).setCell ⟨N,2,none⟩ (.slice A' (limbs r.den).length c')):=
 jE hN hl (o1.mono hW) (o2.mono hW) hb
theorem qm(p:Bool)(A B:Option Addr)(xs ys:List Nat)(c d:Nat)(w:World)(r:Rat)(K:Nat)(ha:bQ w A c xs)(hb:bQ w B d ys)(hs:xs.length<=K)(ht:ys.length<=K)(h1:1<=K)(hK:K<=70368744177660)(hr:rv p xs ys=r):
 Calls Tryz.prog 56 #[.agg #[.bool p, .slice A xs.length c, .slice B ys.length d]] w (fu w r):=by
 obtain⟨W,hW,bC,hsz,i1,i2⟩:=yO w p (.slice A xs.length c) (.slice B ys.length d);have j1:=i1.lt;have j2:=i2.lt;obtain⟨x0,x1,x2,_,_,_⟩:=id i1;have HW:=ah hW;have HR:=ah hr;clear hW hsz hr;replace ha:=ha.below bC;replace hb:=hb.below bC
 by_cases sy:val xs<=2147483647/\val ys<=2147483647
 ·have HSM:=ah sy;clear sy;go_enter Tryz.func56,Tryz.ntmps56
  go_wp2_with fail
  rw[HW.out];refine(xE p A B xs ys c d _ ha hb HSM.out).mono ?_;rintro e w1 ⟨n,q,⟨s1,s2,s3,s4,s5⟩,rfl,b1⟩;have Kf:=ah (s5.trans HR.out);clear s5;go_wp2_with fail
  refine(mT n q _ r (by omega) (by omega) s3 (by omega) Kf.out).mono ?_;rintro e w2 ⟨A2,c2,B2,d2,rfl,r1,r2,b2⟩;have b02:=b1.trans (b2.mono b1.size);have t2:=i2.keep b02;obtain⟨y0,y1,y2,y3,y4,y5⟩:=id t2;have cE:=gE (W:=w1) t2 (by omega) r1 r2 (ay bC.size b1.size) (bC.trans (b02.mono bC.size));have dw:=ah cE;clear cE;go_wp2_with fail
  exact bodyPost_ret (v:= .agg #[.bool (decide (r.num<0)), .slice A2 (limbs r.num.natAbs).length c2, .slice B2 (limbs r.den).length d2]) (by simp[results,Tryz.results56,go_sem,y0,y1,y2]) rfl dw.out
 ·have HSM:=ah sy;clear sy;go_enter Tryz.func56,Tryz.ntmps56
  go_wp2_with fail
  rw[HW.out];refine(AZ p A B xs ys c d _ ha hb HSM.out).mono ?_;rintro e w1 ⟨rfl,b1⟩;obtain⟨z0,z1,z2,_,_,_⟩:=i1.keep b1;go_wp2_with fail
  refine(mU p A B xs ys c d _ r K (ha.below b1) (hb.below b1) hs ht h1 HR.out).mono ?_;rintro e w2 ⟨q,A',xs',c',B',ys',d',rfl,la,lb,hs',ht',hne,Pr,b2⟩;go_wp2_with fail
  refine(qj q A' B' xs' ys' c' d' _ r K la lb hs' ht' hK hne Pr).mono ?_;rintro e w3 ⟨A2,c2,B2,d2,rfl,r1,r2,b3⟩;have b02:=b1.trans (b2.mono b1.size);have b03:=b02.trans (b3.mono b02.size);have t2:=i2.keep b03;obtain⟨y0,y1,y2,y3,y4,y5⟩:=id t2;have cE:=gE (W:=w2) t2 (by omega) r1 r2 (ay bC.size b02.size) (bC.trans (b03.mono bC.size));have dw:=ah cE;clear cE;go_wp2_with fail
  exact bodyPost_ret (v:= .agg #[.bool (decide (r.num<0)), .slice A2 (limbs r.num.natAbs).length c2, .slice B2 (limbs r.den).length d2]) (by simp[results,Tryz.results56,go_sem,y0,y1,y2]) rfl dw.out
theorem xG{n:Int}{d:Nat}(h:d≠0):fZ n=fZ (mkRat n d).num:=by
 obtain⟨_,a2,_⟩:=mw (n:=n) h;have a0:n=0↔(mkRat n d).num=0:=by rw[<-Rat.mkRat_eq_zero (n:=n) h];exact Rat.num_eq_zero.symm
 unfold fZ
 by_cases h1:n<0
 ·rw[if_pos h1,if_pos (a2.2 h1)]
 ·rw[if_neg h1,if_neg (fun h2=>h1 (a2.1 h2))]
  by_cases h3:n=0
  ·rw[if_neg (by omega),if_neg (by have:=a0.1 h3;omega)]
  ·rw[if_pos (by omega),if_pos (by
    have h4:(mkRat n d).num≠0:=fun e=>h3 (a0.2 e);have h5:¬(mkRat n d).num<0:=fun h2=>h1 (a2.1 h2);omega)]
theorem sW(p:Bool)(A B:Option Addr)(xs ys:List Nat)(c d:Nat)(w:World)(r:Rat)(s:Int)(ha:bQ w A c xs)(hb:bQ w B d ys)(hr:rv p xs ys=r)(hs:fZ r.num=s):
 Calls Tryz.prog 50 #[.agg #[.bool p, .slice A xs.length c, .slice B ys.length d]] w (pF w s):=by
 obtain⟨W,hW,bC,hsz,i1⟩:=Nf w p (.slice A xs.length c) (.slice B ys.length d);have j1:=i1.lt;obtain⟨x0,x1,x2,_,_,_⟩:=id i1;have HW:=ah hW;clear hW hsz;replace ha:=ha.below bC;replace hb:=hb.below bC;go_enter Tryz.func50,Tryz.ntmps50
 go_wp2_with fail
 rw[HW.out];refine(mU p A B xs ys c d _ r (xs.length+ys.length+1) ha hb (by omega) (by omega) (by omega) hr).mono ?_;rintro e w1 ⟨q,A',xs',c',B',ys',d',rfl,la,lb,hs',ht',hne,Pr,b1⟩
 have es:fZ (iv q xs')=s:=by
  rw[<-hs,<-Pr];exact xG hne
 have ES:=ah es;have hi:=cg.new w1 q (.slice A' xs'.length c');have la2:=la.below (bI w1 (.cells #[.bool q, .slice A' xs'.length c'] 43));clear es;go_wp2_with fail
 refine(Dw q A' xs' c' _ la2).mono ?_;rintro e w2 ⟨rfl,b2⟩;rw[ES.out];have b02:=(bC.trans (b1.mono bC.size));have b03:=(b02.alloc b02.size (.cells #[.bool q, .slice A' xs'.length c'] 43));go_wp2_with fail
 go_ret;exact⟨rfl,b03.trans (b2.mono b03.size)⟩
/- Contracts of rational.floor, Floor. -/
/- Contracts of rational.Floor, Round. -/
/- Contracts of rational.Size, Round. -/
theorem Ij(v o:Int)(w:World)(h1: -9223372036854775808<=v)(h2:v<=9223372036854775807)(h:v=o):Calls Tryz.prog 86 #[.int .i64 v] w (bW w o):=by
 subst h;exact Ib v w h1 h2
end Go.Proofs.YtkmpoleajjgfaaaGreat
