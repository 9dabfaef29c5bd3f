/- Parts of the proof, in order. -/
import Derived.Test.YtkmpoleajjgfaaaGreatQ9
namespace Go.Proofs.YtkmpoleajjgfaaaGreat
open Go.RowKit Gm
set_option maxRecDepth 100000
set_option maxHeartbeats 16000000
theorem Ps{B:Nat}{w w':World}(h:Below B w w':=by first|with_reducible exact bB|with_reducible exact Below.Ae bB _|with_reducible exact(Below.Ae (aq _ _) _).drew|with_reducible exact(Below.Ae (Below.Ae (aq _ _) _) _).drew|with_reducible exact Below.Ae (Below.Ae bB _) _|with_reducible exact Below.Fg bB (by omega) _ _|with_reducible exact Below.Fg (Below.Ae bB _) (by omega) _ _|with_reducible exact Below.Ae (Below.Fg bB (by omega) _ _) _|with_reducible exact Below.Fg (Below.Ae (Below.Ae bB _) _) (by omega) _ _|with_reducible exact Below.Fg (Below.Fg bB (by omega) _ _) (by omega) _ _|with_reducible exact Below.Fg (Below.Fg (Below.Ae bB _) (by omega) _ _) (by omega) _ _|with_reducible exact Below.Fg (Below.Fg (Below.Ae (Below.Ae bB _) _) (by omega) _ _) (by omega) _ _|with_reducible exact Below.Fg (Below.Ae (Below.Fg bB (by omega) _ _) _) (by omega) _ _|with_reducible exact Below.Fg (Below.Ae (Below.Fg (Below.Ae bB _) (by omega) _ _) _) (by omega) _ _|with_reducible exact Below.Ae (Below.Fg (Below.Ae bB _) (by omega) _ _) _):Below B w w':=h
/- Contract of rational.Mul. -/
theorem mz(p:Bool)(A B:Option Addr)(xs ys:List Nat)(c d:Nat)(w:World)(ha:bQ w A c xs)(hb:bQ w B d ys):
 Calls Tryz.prog 57 #[.agg #[.bool p, .slice A xs.length c, .slice B ys.length d]] w fun e w'=>∃n d o,e= .returned (.tuple #[.int .i64 n, .int .i64 d, .bool o])/\(o=true->Sm p xs ys n d)/\Below w.heap.size w w':=by
 by_cases h:val xs<=2147483647/\val ys<=2147483647
 ·refine(xE p A B xs ys c d w ha hb h).mono ?_;rintro e w' ⟨n,q,hs,rfl,b⟩;exact⟨n,q,true,rfl,fun _=>hs,b⟩
 ·refine(AZ p A B xs ys c d w ha hb h).mono ?_;rintro e w' ⟨rfl,b⟩;exact⟨0,0,false,rfl,fun h=>(by cases h),b⟩
theorem Lm(w:World)(p q:Bool)(u v s t:Value):
 ∃W,((w.alloc (.cells #[.bool p,u,v] 45)).alloc (.cells #[.bool q,s,t] 45)).alloc (.cells #[.bool false, .slice none 0 0, .slice none 0 0] 45)=W/\Below w.heap.size w W/\W.heap.size=w.heap.size+3/\dP W w.heap.size p u v/\dP W (w.heap.size+1) q s t/\dP W (w.heap.size+1+1) false (.slice none 0 0) (.slice none 0 0):=by
 refine⟨_,rfl,(((aq _ _).alloc (aj _) _).alloc (by simp) _).alloc (by simp;omega) _,by simp,?_,?_,?_⟩
 ·refine⟨?_,?_,?_,?_,?_,?_⟩<;>go_simp
 ·refine⟨?_,?_,?_,?_,?_,?_⟩<;>go_simp
 ·refine⟨?_,?_,?_,?_,?_,?_⟩<;>go_simp
theorem iJ{a b:Int}{A B:Int}(h1: -A<=a)(h2:a<=A)(h3: -B<=b)(h4:b<=B)(hA:0<=A)(hB:0<=B): -(A*B)<=a*b/\a*b<=A*B:=by
 have h:(a*b).natAbs<=(A*B).natAbs:=by
  rw[Int.natAbs_mul,Int.natAbs_mul];exact Nat.mul_le_mul (by omega) (by omega)
 have hp:=Int.mul_nonneg hA hB;omega
theorem Sm.mul{p q:Bool}{xs ys us vs:List Nat}{n d m e:Int}(h:Sm p xs ys n d)(k:Sm q us vs m e): -4611686014132420609<=n*m/\n*m<=4611686014132420609/\1<=d*e/\d*e<=4611686014132420609/\mkRat (n*m) (d*e).toNat=rv p xs ys*rv q us vs:=by
 obtain⟨h1,h2,h3,h4,h5⟩:=h;obtain⟨k1,k2,k3,k4,k5⟩:=k;obtain⟨a1,a2⟩:=iJ (A:=2147483647) (B:=2147483647) (by omega) h2 (by omega) k2 (by omega) (by omega);obtain⟨b1,b2⟩:=iJ (a:=d) (b:=e) (A:=2147483647) (B:=2147483647) (by omega) h4 (by omega) k4 (by omega) (by omega);have c1:0<d*e:=Int.mul_pos (by omega) (by omega);refine⟨by omega,by omega,by omega,by omega,?_⟩;rw[<-h5,<-k5,Rat.mkRat_mul_mkRat,Int.toNat_mul (by omega) (by omega)]
theorem UA(p q:Bool)(A B C E:Option Addr)(xs ys us vs:List Nat)(c d f g:Nat)(w:World)(r s t:Rat)(K:Nat)(ha:bQ w A c xs)(hb:bQ w B d ys)(hc:bQ w C f us)(he:bQ w E g vs)(k1:xs.length<=K)(k2:ys.length<=K)(k3:us.length<=K)(k4:vs.length<=K)(h1:1<=K)(hK:K<=35184372088830)(hr:rv p xs ys=r)(hs:rv q us vs=s)(ht:r*s=t):
 Calls Tryz.prog 31 #[.agg #[.bool p, .slice A xs.length c, .slice B ys.length d], .agg #[.bool q, .slice C us.length f, .slice E vs.length g]] w (fu w t):=by
 obtain⟨W,hW,bC,hsz,i2,i3,i4⟩:=Lm w p q (.slice A xs.length c) (.slice B ys.length d) (.slice C us.length f) (.slice E vs.length g);have j2:=i2.lt;have j3:=i3.lt;have j4:=i4.lt;obtain⟨x0,x1,x2,_,_,_⟩:=id i2;obtain⟨y0,y1,y2,_,_,_⟩:=id i3;have HW:=ah hW;have HR:=ah hr;have HS:=ah hs;have HT:=ah ht;clear hW hsz hr hs ht;replace ha:=ha.below bC;replace hb:=hb.below bC;replace hc:=hc.below bC;replace he:=he.below bC;go_enter Tryz.func31,Tryz.ntmps31
 go_wp2_with fail
 rw[HW.out];refine(mz p A B xs ys c d _ ha hb).mono ?_;rintro e w1 ⟨n1,d1,o1,rfl,Wl,b1⟩;clear y0 y1 y2 x0 x1 x2;obtain⟨y0,y1,y2,_,_,_⟩:=i3.keep b1;have SM1:=ah Wl;clear Wl;go_wp2_with fail
 refine(mz q C E us vs f g _ (hc.below b1) (he.below b1)).mono ?_;rintro e w2 ⟨n2,d2,o2,rfl,sm2,b2⟩;have SG:=ah sm2;clear sm2 y0 y1 y2;have b02:=b1.trans (b2.mono b1.size);replace ha:=ha.below b02;replace hb:=hb.below b02;replace hc:=hc.below b02;replace he:=he.below b02;replace i2:=i2.keep b02;replace i3:=i3.keep b02;replace i4:=i4.keep b02;have hb2:=bC.trans (b02.mono bC.size);clear b1 b2 b02 bC j2 j3 j4;have j2:=i2.lt;have j3:=i3.lt;have j4:=i4.lt;go_upto_region 3 with fail
 go_cut [30] (fun s wx=>s= .bool (o1 && o2)/\w2=wx)
 case first=>
  cases o1<;>cases o2<;>(go_wp2_with fail;go_meet;exact⟨rfl,rfl⟩)
 case rest=>
  obtain⟨rfl,rfl⟩:=hcut
  by_cases Pt:(o1 && o2)=true
  rotate_left
  ·have F3:(o1 && o2)=false:=by simpa using Pt
   rw[F3];clear Pt F3;obtain⟨x0,x1,x2,_,_,_⟩:=id i2;go_wp2_with fail
   refine(mU p A B xs ys c d _ r K ha hb k1 k2 h1 HR.out).mono ?_;rintro e w3 ⟨p',A',xs',c',B',ys',d',rfl,la,lb,e1,e2,e3,e4,b3⟩;have v11:=cg.new w3 p' (.slice A' xs'.length c');have bo:=bI w3 (.cells #[.bool p', .slice A' xs'.length c'] 43);obtain⟨w4,iG⟩:=xeq (w3.alloc (.cells #[.bool p', .slice A' xs'.length c'] 43));rw[iG]at v11 bo;have b24:=b3.trans (bo.mono b3.size);have la4:=la.below bo;have lb4:=lb.below bo;replace i3:=i3.keep b24;replace i4:=i4.keep b24;replace hc:=hc.below b24;replace he:=he.below b24;replace hb2:=hb2.trans (b24.mono hb2.size);clear x0 x1 x2 la lb b3 bo b24 i2 ha hb;obtain⟨y0,y1,y2,_,_,_⟩:=id i3;have j3':=i3.lt;go_wp2_with fail
   refine(mU q C E us vs f g _ s K hc he k3 k4 h1 HS.out).mono ?_;rintro e w5 ⟨q',C',F4,f',E',vs',g',rfl,lc,le,g1,g2,g3,g4,b5⟩;have v13:=cg.new w5 q' (.slice C' F4.length f');have bo:=bI w5 (.cells #[.bool q', .slice C' F4.length f'] 43);obtain⟨w6,iB⟩:=xeq (w5.alloc (.cells #[.bool q', .slice C' F4.length f'] 43));rw[iB]at v13 bo;have b46:=b5.trans (bo.mono b5.size);have Oe:=la4.below b46;have Ju:=lb4.below b46;have Og:=lc.below bo;have Kg:=le.below bo;have wj:=v11.keep b46;replace i4:=i4.keep b46;replace hb2:=hb2.trans (b46.mono hb2.size);clear y0 y1 y2 la4 lb4 lc le v11 b5 bo b46 i3 hc he;obtain⟨x0,x1,_,_⟩:=id wj;obtain⟨y0,y1,_,_⟩:=id v13;have m1:=wj.lt;have m3:=v13.lt;obtain⟨N,eN⟩:=xeq (iv p' xs'*iv q' F4:Int);obtain⟨D,eD⟩:=xeq (val ys'*val vs':Nat);have zN:(limbs N.natAbs).length<=70368744177660:=gM (jk Oe.lb e1) (jk Og.lb g1) eN (by omega);have zD:(limbs D).length<=70368744177660:=oH (ay (bh Ju.lb) e2) (ay (bh Kg.lb) g2) eD (by omega);have hD:D≠0:=by rw[<-eD];exact Nat.mul_ne_zero e3 g3
   have hm:mkRat N D=t:=by rw[<-eN,<-eD,<-HT.out,<-e4,<-g4];exact(Rat.mkRat_mul_mkRat _ _ _ _).symm
   have EN:=ah eN;have ED:=ah eD;have HM:=ah hm;clear eN eD hm;go_wp2_with fail
   refine(yH p' q' A' C' xs' F4 c' f' _ _ _ N K K Oe Og e1 g1 rfl rfl EN.out (by omega)).mono ?_;rintro e w7 ⟨A7,c7,rfl,r7,b7⟩;go_wp2_with fail
   refine(RK B' E' ys' vs' d' g' _ _ _ D K K (Ju.below b7) (Kg.below b7) e2 g2 rfl rfl ED.out (by omega)).mono ?_;rintro e w8 ⟨A8,c8,rfl,r8,b8⟩;go_wp2_with fail
   refine(qj _ A7 A8 (limbs N.natAbs) (limbs D) c7 c8 _ t 70368744177660 (r7.lim.below b8) r8.lim zN zD (aj _) (by rw[aV];exact hD) (by unfold rv;rw[dS,aV];exact HM.out)).mono ?_;rintro e w9 ⟨A3,c3,B3,d3,rfl,r1,r2,b9⟩;have b68:=b7.trans (b8.mono b7.size);have b69:=b68.trans (b9.mono b68.size);have t4:=i4.keep b69;obtain⟨z0,z1,z2,z3,z4,z5⟩:=id t4;have dw:=ah (gE (W:=w8) t4 (by omega) r1 r2 (ay hb2.size b68.size) (hb2.trans (b69.mono hb2.size)));clear r1 r2 r7 r8 b7 b8 b9 b68 b69 t4;go_wp2_with fail
   exact bodyPost_ret (v:= .agg #[.bool (decide (t.num<0)), .slice A3 (limbs t.num.natAbs).length c3, .slice B3 (limbs t.den).length d3]) (by simp[results,Tryz.results31,go_sem,z0,z1,z2]) rfl dw.out
  ·obtain⟨rfl,rfl⟩:o1=true/\o2=true:=by simpa using Pt
   clear Pt;obtain⟨a1,a2,a3,a4,a5⟩:=(SM1.out rfl).mul (SG.out rfl);obtain⟨P,eP⟩:=xeq (n1*n2);obtain⟨Q,eQ⟩:=xeq (d1*d2);rw[eP,eQ]at a5;rw[eP]at a1 a2;rw[eQ]at a3 a4;have f1:wrap64 (n1*n2)=P:=by rw[eP];exact IntWalk.wrap64_in _ ⟨by omega,by omega⟩
   have f2:wrap64 (d1*d2)=Q:=by rw[eQ];exact IntWalk.wrap64_in _ ⟨by omega,by omega⟩
   have f1':IntKind.i64.wrap (n1*n2)=P:=by rw[eP];exact IntWalk.i64_in _ (by omega)
   have f2':IntKind.i64.wrap (d1*d2)=Q:=by rw[eQ];exact IntWalk.i64_in _ (by omega)
   have HA:=ah a5;clear eP eQ a5;go_wp2_with fail
   refine(mT P Q _ t (by omega) (by omega) a3 (by omega) (by rw[HA.out,HR.out,HS.out];exact HT.out)).mono ?_;rintro e w3 ⟨A3,c3,B3,d3,rfl,r1,r2,b3⟩;have t4:=i4.keep b3;obtain⟨z0,z1,z2,z3,z4,z5⟩:=id t4;have dw:=ah (gE (W:=w2) t4 (by omega) r1 r2 hb2.size (hb2.trans (b3.mono hb2.size)));clear r1 r2 b3 t4;go_wp2_with fail
   exact bodyPost_ret (v:= .agg #[.bool (decide (t.num<0)), .slice A3 (limbs t.num.natAbs).length c3, .slice B3 (limbs t.den).length d3]) (by simp[results,Tryz.results31,go_sem,z0,z1,z2]) rfl dw.out
/- Contract of rational.Add. -/
theorem kT{w:World}{N o M:Nat}(h:N≠M)(u v s:Value):(((w.setCell ⟨M,0,none⟩ u).setCell ⟨M,1,none⟩ v).setCell ⟨M,2,none⟩ s).cell? ⟨N,o,none⟩=w.cell? ⟨N,o,none⟩:=by
 rw[World.cell?_setCell_other (h:=by intro e;injection e with e;exact h e.symm),iM h]
theorem uI(n m:Int){d:Nat}(h:d≠0):mkRat n d+mkRat m d=mkRat (n+m) d:=by
 rw[Rat.mkRat_add_mkRat _ _ h h,<-Int.add_mul,Rat.mkRat_mul_right h]
theorem qn{r:Rat}:fZ r.num=0↔r=0:=by
 rw[<-Rat.num_eq_zero];unfold fZ;split<;>(try split)<;>omega
theorem Sm.add{p q:Bool}{xs ys us vs:List Nat}{n d m e:Int}(h:Sm p xs ys n d)(k:Sm q us vs m e):(-4611686014132420609<=n*e/\n*e<=4611686014132420609)/\(-4611686014132420609<=m*d/\m*d<=4611686014132420609)/\(1<=d*e/\d*e<=4611686014132420609)/\mkRat (n*e+m*d) (d*e).toNat=rv p xs ys+rv q us vs:=by
 obtain⟨h1,h2,h3,h4,h5⟩:=h;obtain⟨k1,k2,k3,k4,k5⟩:=k;obtain⟨a1,a2⟩:=iJ (a:=n) (b:=e) (A:=2147483647) (B:=2147483647) (by omega) h2 (by omega) k4 (by omega) (by omega);obtain⟨c1,c2⟩:=iJ (a:=m) (b:=d) (A:=2147483647) (B:=2147483647) (by omega) k2 (by omega) h4 (by omega) (by omega);obtain⟨b1,b2⟩:=iJ (a:=d) (b:=e) (A:=2147483647) (B:=2147483647) (by omega) h4 (by omega) k4 (by omega) (by omega);have c3:0<d*e:=Int.mul_pos (by omega) (by omega);refine⟨⟨by omega,by omega⟩,⟨by omega,by omega⟩,⟨by omega,by omega⟩,?_⟩;rw[<-h5,<-k5,Rat.mkRat_add_mkRat _ _ (by omega) (by omega),Int.toNat_mul (by omega) (by omega),show((d.toNat:Nat):Int)=d by omega,show((e.toNat:Nat):Int)=e by omega]
theorem UB(p q:Bool)(A B C E:Option Addr)(xs ys us vs:List Nat)(c d f g:Nat)(w:World)(r s t:Rat)(K:Nat)(ha:bQ w A c xs)(hb:bQ w B d ys)(hc:bQ w C f us)(he:bQ w E g vs)(k1:xs.length<=K)(k2:ys.length<=K)(k3:us.length<=K)(k4:vs.length<=K)(h1:1<=K)(hK:K<=35184372088800)(hr:rv p xs ys=r)(hs:rv q us vs=s)(ht:r+s=t):
 Calls Tryz.prog 29 #[.agg #[.bool p, .slice A xs.length c, .slice B ys.length d], .agg #[.bool q, .slice C us.length f, .slice E vs.length g]] w (fu w t):=by
 obtain⟨W,hW,bC,hsz,i2,i3,i4⟩:=Lm w p q (.slice A xs.length c) (.slice B ys.length d) (.slice C us.length f) (.slice E vs.length g);have j2:=i2.lt;have j3:=i3.lt;have j4:=i4.lt;obtain⟨x0,x1,x2,_,_,_⟩:=id i2;have HW:=ah hW;have HR:=ah hr;have HS:=ah hs;have HT:=ah ht;clear hW hsz hr hs ht;replace ha:=ha.below bC;replace hb:=hb.below bC;replace hc:=hc.below bC;replace he:=he.below bC;go_enter Tryz.func29,Tryz.ntmps29
 go_wp2_with fail
 rw[HW.out];obtain⟨sr,er⟩:=xeq (fZ r.num);obtain⟨ss,es⟩:=xeq (fZ s.num);refine(sW p A B xs ys c d _ r sr ha hb HR.out er).mono ?_;rintro e w1 ⟨rfl,b1⟩;replace i2:=i2.keep b1;replace i3:=i3.keep b1;replace i4:=i4.keep b1;replace ha:=ha.below b1;replace hb:=hb.below b1;replace hc:=hc.below b1;replace he:=he.below b1;have hb1:=bC.trans (b1.mono bC.size);clear x0 x1 x2 b1 bC j2 j3 j4;have j2:=i2.lt;have j3:=i3.lt;have j4:=i4.lt;obtain⟨y0,y1,y2,_,_,_⟩:=id i3
 by_cases hr0:sr=0
 ·have RN:s=t:=by rw[<-HT.out,qn.1 (er.trans hr0),Rat.zero_add]
  have HZ:=ah (HS.out.trans RN);clear RN er es;go_wp2_with fail
  refine(qm q C E us vs f g _ t K hc he k3 k4 h1 (by omega) HZ.out).mono ?_;rintro e w3 ⟨A3,c3,B3,d3,rfl,r1,r2,b3⟩;have t4:=i4.keep b3;obtain⟨z0,z1,z2,z3,z4,z5⟩:=id t4;have dw:=ah (gE (W:=w1) t4 (by omega) r1 r2 hb1.size (hb1.trans (b3.mono hb1.size)));clear r1 r2 b3 t4;go_wp2_with fail
  exact bodyPost_ret (v:= .agg #[.bool (decide (t.num<0)), .slice A3 (limbs t.num.natAbs).length c3, .slice B3 (limbs t.den).length d3]) (by simp[results,Tryz.results29,go_sem,z0,z1,z2]) rfl dw.out
 have ER:=ah er;clear er;go_wp2_with fail
 refine(sW q C E us vs f g _ s ss hc he HS.out es).mono ?_;rintro e w2 ⟨rfl,b2⟩;replace i2:=i2.keep b2;replace i3:=i3.keep b2;replace i4:=i4.keep b2;replace ha:=ha.below b2;replace hb:=hb.below b2;replace hc:=hc.below b2;replace he:=he.below b2;have hb2:=hb1.trans (b2.mono hb1.size);clear y0 y1 y2 b2 hb1 j2 j3 j4;have j2:=i2.lt;have j3:=i3.lt;have j4:=i4.lt;obtain⟨x0,x1,x2,_,_,_⟩:=id i2
 by_cases hs0:ss=0
 ·have RN:r=t:=by rw[<-HT.out,qn.1 (es.trans hs0),Rat.add_zero]
  have HZ:=ah (HR.out.trans RN);clear RN es;go_wp2_with fail
  refine(qm p A B xs ys c d _ t K ha hb k1 k2 h1 (by omega) HZ.out).mono ?_;rintro e w3 ⟨A3,c3,B3,d3,rfl,r1,r2,b3⟩;have t4:=i4.keep b3;obtain⟨z0,z1,z2,z3,z4,z5⟩:=id t4;have dw:=ah (gE (W:=w2) t4 (by omega) r1 r2 hb2.size (hb2.trans (b3.mono hb2.size)));clear r1 r2 b3 t4;go_wp2_with fail
  exact bodyPost_ret (v:= .agg #[.bool (decide (t.num<0)), .slice A3 (limbs t.num.natAbs).length c3, .slice B3 (limbs t.den).length d3]) (by simp[results,Tryz.results29,go_sem,z0,z1,z2]) rfl dw.out
 clear es;go_wp2_with fail
 refine(mz p A B xs ys c d _ ha hb).mono ?_;rintro e u1 ⟨n1,d1,o1,rfl,Wl,b1⟩;clear x0 x1 x2;obtain⟨y0,y1,y2,_,_,_⟩:=i3.keep b1;have SM1:=ah Wl;clear Wl;go_wp2_with fail
 refine(mz q C E us vs f g _ (hc.below b1) (he.below b1)).mono ?_;rintro e u2 ⟨n2,d2,o2,rfl,sm2,b2⟩;have SG:=ah sm2;clear sm2 y0 y1 y2;have b02:=b1.trans (b2.mono b1.size);replace ha:=ha.below b02;replace hb:=hb.below b02;replace hc:=hc.below b02;replace he:=he.below b02;replace i2:=i2.keep b02;replace i3:=i3.keep b02;replace i4:=i4.keep b02;replace hb2:=hb2.trans (b02.mono hb2.size);clear b1 b2 b02 j2 j3 j4 hr0 hs0;have j2:=i2.lt;have j3:=i3.lt;have j4:=i4.lt;go_upto_region 7 with fail
 go_cut [41] (fun s wx=>s= .bool (o1 && o2)/\u2=wx)
 case first=>
  cases o1<;>cases o2<;>(go_wp2_with fail;go_meet;exact⟨rfl,rfl⟩)
 case rest=>
  obtain⟨rfl,rfl⟩:=hcut
  by_cases Pt:(o1 && o2)=true
  rotate_left
  ·have F3:(o1 && o2)=false:=by simpa using Pt
   rw[F3];clear Pt F3;obtain⟨x0,x1,x2,_,_,_⟩:=id i2;go_wp2_with fail
   refine(mU p A B xs ys c d _ r K ha hb k1 k2 h1 HR.out).mono ?_;rintro e w3 ⟨p',A',xs',c',B',ys',d',rfl,la,lb,e1,e2,e3,e4,b3⟩;have v11:=cg.new w3 p' (.slice A' xs'.length c');have bo:=bI w3 (.cells #[.bool p', .slice A' xs'.length c'] 43);obtain⟨w4,iG⟩:=xeq (w3.alloc (.cells #[.bool p', .slice A' xs'.length c'] 43));rw[iG]at v11 bo;have b24:=b3.trans (bo.mono b3.size);have la4:=la.below bo;have lb4:=lb.below bo;replace i3:=i3.keep b24;replace i4:=i4.keep b24;replace hc:=hc.below b24;replace he:=he.below b24;replace hb2:=hb2.trans (b24.mono hb2.size);clear x0 x1 x2 la lb b3 bo b24 i2 ha hb;obtain⟨y0,y1,y2,_,_,_⟩:=id i3;have j3':=i3.lt;go_wp2_with fail
   refine(mU q C E us vs f g _ s K hc he k3 k4 h1 HS.out).mono ?_;rintro e w5 ⟨q',C',F4,f',E',vs',g',rfl,lc,le,g1,g2,g3,g4,b5⟩;have v13:=cg.new w5 q' (.slice C' F4.length f');have bo:=bI w5 (.cells #[.bool q', .slice C' F4.length f'] 43);obtain⟨w6,iB⟩:=xeq (w5.alloc (.cells #[.bool q', .slice C' F4.length f'] 43));rw[iB]at v13 bo;have b46:=b5.trans (bo.mono b5.size);have Oe:=la4.below b46;have Ju:=lb4.below b46;have Og:=lc.below bo;have Kg:=le.below bo;have wj:=v11.keep b46;replace i4:=i4.keep b46;replace hb2:=hb2.trans (b46.mono hb2.size);clear y0 y1 y2 la4 lb4 lc le v11 b5 bo b46 i3 hc he;obtain⟨x0,x1,_,_⟩:=id wj;obtain⟨y0,y1,_,_⟩:=id v13;have m1:=wj.lt;have m3:=v13.lt;clear SM1 SG;obtain⟨cm,ecm⟩:=xeq (gq (val ys') (val vs'));go_wp2_with fail
   refine(qX B' E' ys' vs' d' g' _ _ _ cm Ju Kg rfl rfl ecm).mono ?_;rintro e w7 ⟨rfl,b7⟩;clear iG iB;replace Oe:=Oe.below b7;replace Ju:=Ju.below b7;replace Og:=Og.below b7;replace Kg:=Kg.below b7;replace wj:=wj.keep b7;replace v13:=v13.keep b7;replace i4:=i4.keep b7;replace hb2:=hb2.trans (b7.mono hb2.size);clear x0 x1 y0 y1 m1 m3 b7;obtain⟨x0,x1,_,_⟩:=id wj;obtain⟨y0,y1,_,_⟩:=id v13;have m1:=wj.lt;have m3:=v13.lt;have m44:=i4.lt
   by_cases hcm:cm=0
   ·have Zy:val ys'=val vs':=by
     rw[<-ecm]at hcm;unfold gq at hcm;split at hcm
     ·omega
     ·split at hcm<;>omega
    obtain⟨N,eN⟩:=xeq (iv p' xs'+iv q' F4:Int);have zN:(limbs N.natAbs).length<=70368744177660:=sR (jk Oe.lb e1) (jk Og.lb g1) eN (by omega) (by omega);have hm:mkRat N (val ys')=t:=by rw[<-eN,<-HT.out,<-e4,<-g4];unfold rv;rw[<-Zy];exact(uI _ _ e3).symm
    have EN:=ah eN;have HM:=ah hm;clear eN hm Zy ecm;go_wp2_with fail
    refine(K0 p' q' A' C' xs' F4 c' f' _ _ _ N K K Oe Og e1 g1 rfl rfl EN.out (by omega) (by omega)).mono ?_;rintro e w8 ⟨A7,c7,rfl,r7,b8⟩;go_wp2_with fail
    refine(qj _ A7 B' (limbs N.natAbs) ys' c7 d' _ t 70368744177660 r7.lim (Ju.below b8) zN (by omega) (aj _) e3 (by unfold rv;rw[dS];exact HM.out)).mono ?_;rintro e w9 ⟨A3,c3,B3,d3,rfl,r1,r2,b9⟩;have b89:=b8.trans (b9.mono b8.size);have t4:=i4.keep b89;obtain⟨z0,z1,z2,z3,z4,z5⟩:=id t4;have dw:=ah (gE (W:=w8) t4 (by omega) r1 r2 (ay hb2.size b8.size) (hb2.trans (b89.mono hb2.size)));clear r1 r2 t4;go_wp2_with fail
    exact bodyPost_ret (v:= .agg #[.bool (decide (t.num<0)), .slice A3 (limbs t.num.natAbs).length c3, .slice B3 (limbs t.den).length d3]) (by simp[results,Tryz.results29,go_sem,z0,z1,z2]) rfl dw.out
   ·clear ecm;obtain⟨N1,Kh⟩:=xeq (iv p' xs'*iv false vs':Int);obtain⟨N2,Wm⟩:=xeq (iv q' F4*iv false ys':Int);obtain⟨N,eN⟩:=xeq (N1+N2:Int);obtain⟨D,eD⟩:=xeq (val ys'*val vs':Nat);have z1:(limbs N1.natAbs).length<=70368744177650:=gM (jk Oe.lb e1) (jk Kg.lb g2) Kh (by omega);have z2:(limbs N2.natAbs).length<=70368744177650:=gM (jk Og.lb g1) (jk Ju.lb e2) Wm (by omega);have zN:(limbs N.natAbs).length<=70368744177660:=sR z1 z2 eN (by omega) (by omega);have zD:(limbs D).length<=70368744177660:=oH (ay (bh Ju.lb) e2) (ay (bh Kg.lb) g2) eD (by omega);have hD:D≠0:=by rw[<-eD];exact Nat.mul_ne_zero e3 g3
    have hm:mkRat N D=t:=by
     rw[<-eN,<-Kh,<-Wm,<-eD,<-HT.out,<-e4,<-g4];unfold rv;rw[Rat.mkRat_add_mkRat _ _ e3 g3]
     rfl
    have E1:=ah Kh;have E2:=ah Wm;have EN:=ah eN;have ED:=ah eD;have HM:=ah hm;clear Kh Wm eN eD hm;have kQ:True:=trivial;go_upto_region 13 with fail
    have bB:Below w7.heap.size w7 w7.drew:=(aq _ _).drew
    go_cut [15] (fun s15 wx=>∃g15 Ax cx,s15= .pointer (some ⟨g15,0,none⟩)/\cg wx g15 (decide (N<0)) (.slice Ax (limbs N.natAbs).length cx)/\bQ wx Ax cx (limbs N.natAbs)/\Below w7.heap.size w7 wx/\w7.heap.size<=g15)
    case first=>
     clear HT HM HR HS hb2 i4 ED zD hD hcm
     go_region_held3 (fun w'=>w'.cell? ⟨w3.heap.size,0,none⟩=some (.bool p')/\w'.cell? ⟨w3.heap.size,1,none⟩=some (.slice A' xs'.length c')/\w'.cell? ⟨w5.heap.size,0,none⟩=some (.bool q')/\w'.cell? ⟨w5.heap.size,1,none⟩=some (.slice C' F4.length f'))
      (first|(with_reducible exact⟨bn bB m1 x0,bn bB m1 x1,bn bB m3 y0,bn bB m3 y1⟩)|(refine⟨bn (W:=w7) ?_ m1 x0,bn (W:=w7) ?_ m1 x1,bn (W:=w7) ?_ m3 y0,bn (W:=w7) ?_ m3 y1⟩<;>(exact Ps)))
      (first
        |(go_at_call 63;have _t:=kQ;clear kQ;refine(yH p' false A' E' xs' vs' c' g' _ _ _ N1 K K ?_ ?_ e1 g2 rfl rfl E1.out (by omega)).mono ?_;(with_reducible refine Oe.below ?_;(exact Ps));(with_reducible refine Kg.below ?_;(exact Ps));rintro e v1 ⟨B1,h1',rfl,r1,s1⟩;have gD:Below w7.heap.size w7 v1:=uH (by(exact Ps)) s1;have q1:=gD.size;have z1':=s1.size;(try simp at z1');(try(have i1:cg v1 w7.heap.size false (.slice none 0 0):=(cg.new w7.drew false (.slice none 0 0)).keep s1;obtain⟨i1a,i1b,i1c,i1d⟩:=id i1));clear bB;have bB:=gD;clear gD)
        |(go_at_call 63;refine(yH q' false C' B' F4 ys' f' d' _ _ _ N2 K K ?_ ?_ g1 e2 rfl rfl E2.out (by omega)).mono ?_;(with_reducible refine Og.below ?_;(exact Ps));(with_reducible refine Ju.below ?_;(exact Ps));rintro e v2 ⟨B2,h2',rfl,r2,s2⟩;have gD:Below w7.heap.size w7 v2:=uH (by(exact Ps)) s2;have q2:=gD.size;have z2':=s2.size;(try simp at z2');have l1:bQ v2 B1 h1' (limbs N1.natAbs):=(by first|with_reducible exact r1.lim.below s2|with_reducible exact(r1.lim.below (bI _ _)).below s2);(try(have i2:cg v2 w7.heap.size false (.slice none 0 0):=i1.keep s2;obtain⟨i2a,i2b,i2c,i2d⟩:=id i2));(try(have i3:cg v2 v1.heap.size false (.slice none 0 0):=(cg.new v1 false (.slice none 0 0)).keep s2;obtain⟨i3a,i3b,i3c,i3d⟩:=id i3));clear bB;have bB:=gD;clear gD)
        |(go_at_call 62;refine(K0 _ _ B1 B2 (limbs N1.natAbs) (limbs N2.natAbs) h1' h2' _ N1 N2 N 70368744177650 70368744177650 ?_ ?_ z1 z2 (dS N1) (dS N2) EN.out (by omega) (by omega)).mono ?_;(first|with_reducible exact l1|with_reducible exact l1.below (bI _ _));(first|with_reducible exact r2.lim|with_reducible exact r2.lim.below (bI _ _));rintro e v3 ⟨B3,h3',rfl,r3,s3⟩;have gD:Below w7.heap.size w7 v3:=uH (by(exact Ps)) s3;have q3:=gD.size;have z3':=s3.size;(try simp at z3');have l3:=r3.lim;(try(have i4:cg v3 w7.heap.size false (.slice none 0 0):=i2.keep s3;obtain⟨i4a,i4b,i4c,i4d⟩:=id i4));(try(have i5:cg v3 v1.heap.size false (.slice none 0 0):=i3.keep s3;obtain⟨i5a,i5b,i5c,i5d⟩:=id i5));(try(have i6:cg v3 v2.heap.size false (.slice none 0 0):=(cg.new v2 false (.slice none 0 0)).keep s3;obtain⟨i6a,i6b,i6c,i6d⟩:=id i6));clear bB;have bB:=gD;clear gD))
     all_goals (go_wp2_with fail;go_meet;refine⟨_,B3,h3',rfl,?_,?_,?_,?_⟩)
     all_goals (first|(with_reducible refine cg.mk ?_ ?_ ?_ ?_<;>(go_simp;done))|(exact Ps)|((repeat (first|with_reducible refine bQ.below ?_ (bI _ _)|(with_reducible refine bQ.FY ?_ ?_;rotate_left;focus(go_simp;done))|(with_reducible refine bQ.FZ ?_ ?_;rotate_left;focus(go_simp;done))));first|with_reducible exact l3)|omega)
    case rest=>
     obtain⟨g15,Ax,cx,rfl,i15,l15,hB,hg15⟩:=hcut;clear bB kQ;replace Ju:=Ju.below hB;replace Kg:=Kg.below hB;replace i4:=i4.keep hB;replace hb2:=hb2.trans (hB.mono hb2.size);have m15:=i15.lt;have c15:=i15.c0;have c16:=i15.c1;have m4:=i4.lt;have n15:g15≠w.heap.size+1+1:=by omega
     clear x0 x1 y0 y1 Oe Og wj v13 hB;have bB:Below wc.heap.size wc wc.drew:=(aq _ _).drew;go_wp2_with fail
     go_region_held3 (fun w'=>w'.cell? ⟨g15,0,none⟩=some (.bool (decide (N<0)))/\w'.cell? ⟨g15,1,none⟩=some (.slice Ax (limbs N.natAbs).length cx))
      (first|(with_reducible exact⟨bn bB m15 c15,bn bB m15 c16⟩)|(with_reducible exact⟨(kT n15 _ _ _).trans (bn bB m15 c15),(kT n15 _ _ _).trans (bn bB m15 c16)⟩)|go_keep)
      (first
        |(go_at_call 64;refine(RK B' E' ys' vs' d' g' _ _ _ D K K ?_ ?_ e2 g2 rfl rfl ED.out (by omega)).mono ?_;exact Ju.below bB;exact Kg.below bB;rintro e v1 ⟨B1,h1',rfl,r1,s1⟩;replace bB:=bB.trans (s1.mono bB.size))
        |(go_at_call 61;refine(qj _ Ax B1 (limbs N.natAbs) (limbs D) cx h1' _ t 70368744177660 ?_ ?_ zN zD (aj _) (by rw[aV];exact hD) (by unfold rv;rw[dS,aV];exact HM.out)).mono ?_;exact l15.below bB;exact r1.lim;rintro e v2 ⟨A3,c3,B3,d3,rfl,r2,r3,s2⟩;have o2:=r2.mono (lo':=w.heap.size) (ay hb2.size bB.size);have o3:=r3.mono (lo':=w.heap.size) (ay hb2.size bB.size);have gD:Below wc.heap.size wc v2:=bB.trans (s2.mono bB.size);clear bB;have bB:=gD;clear gD;have t4:=i4.keep bB;obtain⟨z0,z1',z2',z3,z4,z5⟩:=id t4))
     rename_i aU
     clear aU;have dw:=ah (jE (w:=w) t4 (by omega) o2 o3 (hb2.trans (bB.mono hb2.size)));clear r2 r3 o2 o3 t4 bB;go_wp2_with fail
     exact bodyPost_ret (v:= .agg #[.bool (decide (t.num<0)), .slice A3 (limbs t.num.natAbs).length c3, .slice B3 (limbs t.den).length d3]) (by simp[results,Tryz.results29,go_sem,z0,z1',z2']) rfl dw.out
  ·obtain⟨rfl,rfl⟩:o1=true/\o2=true:=by simpa using Pt
   clear Pt;obtain⟨⟨a1,a2⟩,⟨a3,a4⟩,⟨a5,a6⟩,a7⟩:=(SM1.out rfl).add (SG.out rfl);obtain⟨P,eP⟩:=xeq (n1*d2);obtain⟨R,eR⟩:=xeq (n2*d1);obtain⟨Q,eQ⟩:=xeq (d1*d2);obtain⟨Y,eY⟩:=xeq (P+R);rw[eP,eR,eQ,eY]at a7;rw[eP]at a1 a2;rw[eR]at a3 a4;rw[eQ]at a5 a6;have f1:wrap64 (n1*d2)=P:=by rw[eP];exact IntWalk.wrap64_in _ ⟨by omega,by omega⟩
   have f2:wrap64 (d1*d2)=Q:=by rw[eQ];exact IntWalk.wrap64_in _ ⟨by omega,by omega⟩
   have f3:wrap64 (n2*d1)=R:=by rw[eR];exact IntWalk.wrap64_in _ ⟨by omega,by omega⟩
   have f4:wrap64 (P+R)=Y:=by rw[eY];exact IntWalk.wrap64_in _ ⟨by omega,by omega⟩
   have f1':IntKind.i64.wrap (n1*d2)=P:=by rw[eP];exact IntWalk.i64_in _ (by omega)
   have f2':IntKind.i64.wrap (d1*d2)=Q:=by rw[eQ];exact IntWalk.i64_in _ (by omega)
   have f3':IntKind.i64.wrap (n2*d1)=R:=by rw[eR];exact IntWalk.i64_in _ (by omega)
   have f4':IntKind.i64.wrap (P+R)=Y:=by rw[eY];exact IntWalk.i64_in _ (by omega)
   have HA:=ah a7;have y1: -9223372036854775807<=Y/\Y<=9223372036854775807:=by omega
   clear eP eQ eR a7;go_wp2_with fail
   first
    |refine(mT Y Q _ t y1.1 y1.2 a5 (by omega) (by rw[HA.out,HR.out,HS.out];exact HT.out)).mono ?_
    |(rw[eY];refine(mT Y Q _ t y1.1 y1.2 a5 (by omega) (by rw[HA.out,HR.out,HS.out];exact HT.out)).mono ?_)
   rintro e w3 ⟨A3,c3,B3,d3,rfl,r1,r2,b3⟩;have t4:=i4.keep b3;obtain⟨z0,z1,z2,z3,z4,z5⟩:=id t4;have dw:=ah (gE (W:=u2) t4 (by omega) r1 r2 hb2.size (hb2.trans (b3.mono hb2.size)));clear r1 r2 b3 t4;go_wp2_with fail
   exact bodyPost_ret (v:= .agg #[.bool (decide (t.num<0)), .slice A3 (limbs t.num.natAbs).length c3, .slice B3 (limbs t.den).length d3]) (by simp[results,Tryz.results29,go_sem,z0,z1,z2]) rfl dw.out
/- Contracts of the reference of layer 3: Zero, Make (denominators that are not negative), Norm, Equal, Of. -/
theorem Fj{w:World}{N o M:Nat}(h:N≠M)(u v s:Value):(((w.setCell ⟨M,0,none⟩ u).setCell ⟨M,1,none⟩ v).setCell ⟨M,2,none⟩ s).cell? ⟨N,o,none⟩=w.cell? ⟨N,o,none⟩:=by
 rw[World.cell?_setCell_other (h:=by intro e;injection e with e;exact h e.symm),iM h]
theorem mA:limbs 1=[1]:=jl [1] (by decide) (by decide)
theorem qp{D:Nat}:limbs D=[1]↔D=1:=by
 constructor
 ·intro h;have:=aV D;rw[h]at this;rw[<-this];rfl
 ·intro h;rw[h];exact mA
theorem F6(w:World):Calls Tryz.prog 9 #[] w (fu w 0):=by
 have b1:=sK w (.cells #[.bool false, .slice (some ⟨w.heap.size+1,0,none⟩) 0 0, .slice (some ⟨w.heap.size+1+1,0,none⟩) 1 1] 45) (.cells #[] 75);have hrow:=(Row.new ((w.alloc (.cells #[.bool false, .slice (some ⟨w.heap.size+1,0,none⟩) 0 0, .slice (some ⟨w.heap.size+1+1,0,none⟩) 1 1] 45)).alloc (.cells #[] 75)) [1]).own (lo:=w.heap.size) (qW _ (by decide)) b1.size (by decide);have fi:=((dP.new w false (.slice (some ⟨w.heap.size+1,0,none⟩) 0 0) (.slice (some ⟨w.heap.size+1+1,0,none⟩) 1 1)).keep (bI _ (.cells #[] 75))).keep (bI _ (.cells #[.int .u32 1] 75))
 have dw:=ah (show fu w 0 (.returned (.agg #[.bool false, .slice (some ⟨w.heap.size+1,0,none⟩) 0 0, .slice (some ⟨w.heap.size+1+1,0,none⟩) 1 1])) (((w.alloc (.cells #[.bool false, .slice (some ⟨w.heap.size+1,0,none⟩) 0 0, .slice (some ⟨w.heap.size+1+1,0,none⟩) 1 1] 45)).alloc (.cells #[] 75)).alloc (.cells #[.int .u32 1] 75))from⟨some ⟨w.heap.size+1,0,none⟩,0,some ⟨w.heap.size+1+1,0,none⟩,1,by
  show _=Ending.returned (.agg #[.bool (decide ((0:Int)<0)), .slice _ (limbs 0).length 0, .slice _ (limbs 1).length 1])
  rw[mA,bM];rfl,by
  show Own _ _ _ _ (limbs 0)
  rw[bM];exact Own.nil _ _ _,by
  show Own _ _ _ _ (limbs 1)
  rw[mA]
  simpa [cellsOf] using hrow,b1.alloc b1.size _⟩)
 clear b1 hrow;go_enter Tryz.func9,Tryz.ntmps9
 go_wp2_with fail
 exact bodyPost_ret (v:= .agg #[.bool false, .slice (some ⟨w.heap.size+1,0,none⟩) 0 0, .slice (some ⟨w.heap.size+1+1,0,none⟩) 1 1]) (by simp[results,Tryz.results9,go_sem,fi.c0,fi.c1,fi.c2]) rfl dw.out
theorem UC(w:World)(p q:Bool)(u v:Value):
 ∃W,((w.alloc (.cells #[.bool p,u] 43)).alloc (.cells #[.bool q,v] 43)).alloc (.cells #[.bool false, .slice none 0 0, .slice none 0 0] 45)=W/\Below w.heap.size w W/\W.heap.size=w.heap.size+3/\cg W w.heap.size p u/\cg W (w.heap.size+1) q v/\dP W (w.heap.size+1+1) false (.slice none 0 0) (.slice none 0 0):=by
 refine⟨_,rfl,(((aq _ _).alloc (aj _) _).alloc (by simp) _).alloc (by simp;omega) _,by simp,?_,?_,?_⟩
 ·refine⟨?_,?_,?_,?_⟩<;>go_simp
 ·refine⟨?_,?_,?_,?_⟩<;>go_simp
 ·refine⟨?_,?_,?_,?_,?_,?_⟩<;>go_simp
theorem F7(w:World)(p q:Bool)(u v:Value):
 ∃W,(w.alloc (.cells #[.bool p,u] 43)).alloc (.cells #[.bool q,v] 43)=W/\Below w.heap.size w W/\cg W w.heap.size p u/\cg W (w.heap.size+1) q v:=by
 refine⟨_,rfl,((aq _ _).alloc (aj _) _).alloc (by simp) _,?_,?_⟩
 ·refine⟨?_,?_,?_,?_⟩<;>go_simp
 ·refine⟨?_,?_,?_,?_⟩<;>go_simp
theorem F8(p q:Bool)(A B:Option Addr)(xs ys:List Nat)(c d:Nat)(w:World)(n:Int)(D:Nat)(r:Rat)(K:Nat)(ha:bQ w A c xs)(hb:bQ w B d ys)(hs:xs.length<=K)(ht:ys.length<=K)(hK:K<=70368744177650)(en:iv p xs=n)(eD:iv q ys=(D:Int))(hr:mkRat n D=r):
 Calls Tryz.prog 66 #[.agg #[.bool p, .slice A xs.length c], .agg #[.bool q, .slice B ys.length d]] w (fu w r):=by
 obtain⟨W,hW,bC,hsz,i2,i3,i4⟩:=UC w p q (.slice A xs.length c) (.slice B ys.length d);have j2:=i2.lt;have j3:=i3.lt;have j4:=i4.lt;have zn:(limbs n.natAbs).length<=K:=by rw[<-en];exact jk ha.lb hs
 obtain⟨E,eE⟩:=xeq ((D:Int):Int);rw[eE]at eD;have zE:(limbs E.natAbs).length<=K:=by rw[<-eD];exact jk hb.lb ht
 have hEn:E.natAbs=D:=by omega
 have hE0:decide (E<0)=false:=by rw[decide_eq_false_iff_not];omega
 have HW:=ah hW;have HR:=ah hr;have EN:=ah en;have ED:=ah eD;have EE:=ah eE;have UD:=ah hEn;clear hW hsz hr en eD eE hEn;replace ha:=ha.below bC;replace hb:=hb.below bC;have x0:=i3.c0;have x1:=i3.c1;go_enter Tryz.func66,Tryz.ntmps66
 by_cases h0:D=0
 ·have wk:fZ E=0:=by rw[<-EE.out,h0];decide
  have hr0:r=0:=by rw[<-HR.out,h0];exact Rat.mkRat_zero _
  have Yg:=ah hr0;clear hr0 h0;go_wp2_with fail
  rw[HW.out];refine(yM q B ys d _ E 0 hb (by omega) ED.out wk).mono ?_;rintro e w1 ⟨rfl,b1⟩;go_wp2_with fail
  refine(F6 _).mono ?_;rw[<-Yg.out];rintro e w2 ⟨A1,c1,B1,d1,rfl,r1,r2,b2⟩;have b02:=b1.trans (b2.mono b1.size);have t4:=i4.keep b02;obtain⟨z0,z1,z2,z3,z4,z5⟩:=id t4;have dw:=ah (gE (w:=w) (W:=w1) t4 (by omega) r1 r2 (ay bC.size b1.size) (bC.trans (b02.mono bC.size)));clear r1 r2 b1 b2 b02 t4;go_wp2_with fail
  exact bodyPost_ret (v:= .agg #[.bool (decide (r.num<0)), .slice A1 (limbs r.num.natAbs).length c1, .slice B1 (limbs r.den).length d1]) (by simp[results,Tryz.results66,go_sem,z0,z1,z2]) rfl dw.out
 have wk:fZ E=1:=by rw[<-EE.out];unfold fZ;split<;>(try split)<;>omega
 go_wp2_with fail
 rw[HW.out];refine(yM q B ys d _ E 1 hb (by omega) ED.out wk).mono ?_;rintro e w1 ⟨rfl,b1⟩;clear x0 x1 wk;replace i2:=i2.keep b1;replace i3:=i3.keep b1;replace i4:=i4.keep b1;replace ha:=ha.below b1;replace hb:=hb.below b1;have hb1:=bC.trans (b1.mono bC.size);clear b1 bC j2 j3 j4;have x0:=i3.c0;have x1:=i3.c1;go_wp2_with fail
 refine(yI q B ys d _ E K hb ht ED.out (by omega)).mono ?_;rintro e w2 ⟨A5,c5,rfl,r5,b2⟩;have jw2:w.heap.size+1+1<w2.heap.size:=ak i4.lt b2.size;rw[hE0];have i5:=cg.new w2 false (.slice A5 (limbs E.natAbs).length c5);have bo:=bI w2 (.cells #[.bool false, .slice A5 (limbs E.natAbs).length c5] 43);obtain⟨w3,hw3⟩:=xeq (w2.alloc (.cells #[.bool false, .slice A5 (limbs E.natAbs).length c5] 43));rw[hw3]at i5 bo;have b13:=b2.trans (bo.mono b2.size);have o5:=(r5.below bo).mono (lo':=w.heap.size) hb1.size;replace i2:=i2.keep b13;replace i3:=i3.keep b13;replace i4:=i4.keep b13;replace ha:=ha.below b13;replace hb:=hb.below b13;have fq:=hb1.trans (b13.mono hb1.size);clear x0 x1 r5 b2 bo b13 hb1;have y0:=i5.c0;have y1:=i5.c1;have m5:=i5.lt;have hl1:=Wh w3 [1] (qW _ (by decide)) (by decide);have bl1:=bI w3 (.cells (cellsOf [1]) 75);go_wp2_with fail
 refine(KX A5 _ (limbs E.natAbs) [1] c5 _ _ (o5.lim.below bl1) hl1 (by omega) (by decide)).mono ?_;rintro e w4 ⟨rfl,k,iG⟩
 have b34:Below w3.heap.size w3 w4:=by
  rw[iG];exact below_drewN bl1 k
 replace i2:=i2.keep b34;replace i3:=i3.keep b34;replace i4:=i4.keep b34;replace i5:=i5.keep b34;replace ha:=ha.below b34;replace hb:=hb.below b34;replace o5:=o5.below b34;have hb4:=fq.trans (b34.mono fq.size);clear iG b34 hw3 hl1 bl1 fq y0 y1 m5;have m2:=i2.lt;have m3:=i3.lt;have m4:=i4.lt;have m5:=i5.lt
 by_cases h1:D=1
 ·have hd:decide (limbs E.natAbs=[1])=true:=decide_eq_true (qp.2 (UD.out.trans h1));rw[hd];obtain⟨a1,a2,a3⟩:=mw (n:=n) (d:=D) h0;rw[HR.out]at a1 a2 a3;have Zz:r.num.natAbs=n.natAbs:=by rw[a1,h1,Nat.gcd_one_right,Nat.div_one]
  have Lf:decide (r.num<0)=decide (n<0):=decide_eq_decide.2 a2;have ZA:r.den=E.natAbs:=by rw[a3,h1,Nat.gcd_one_right,Nat.div_one,UD.out,h1]
  have UE:=ah Zz;have A2':=ah Lf;have RP:=ah ZA;clear hd a1 a2 a3 Zz Lf ZA h1 h0;have x0:=i2.c0;have x1:=i2.c1;have y1:=i5.c1;have n2:w.heap.size≠w.heap.size+1+1:=by omega
  have n5:w2.heap.size≠w.heap.size+1+1:=by omega
  have bB:Below w4.heap.size w4 w4.drew:=(aq _ _).drew;go_wp2_with fail
  go_region_held3 (fun w'=>w'.cell? ⟨w.heap.size,0,none⟩=some (.bool p)/\w'.cell? ⟨w.heap.size,1,none⟩=some (.slice A xs.length c)/\w'.cell? ⟨w2.heap.size,1,none⟩=some (.slice A5 (limbs E.natAbs).length c5))
   (first|(with_reducible exact⟨bn bB m2 x0,bn bB m2 x1,bn bB m5 y1⟩)|(with_reducible exact⟨(Fj n2 _ _ _).trans (bn bB m2 x0),(Fj n2 _ _ _).trans (bn bB m2 x1),(Fj n5 _ _ _).trans (bn bB m5 y1)⟩)|go_keep)
   (first
     |(go_at_call 65;refine(yI p A xs c _ n K ?_ hs EN.out (by omega)).mono ?_;exact ha.below bB;rintro e v1 ⟨B1,f1,rfl,q1,s1⟩;have p1:=q1.mono (lo':=w.heap.size) (ay hb4.size bB.size);have gD:Below w4.heap.size w4 v1:=bB.trans (s1.mono bB.size);clear bB;have bB:=gD;clear gD;have t4:=i4.keep bB;obtain⟨z0,z1,z2,z3,z4,z5⟩:=id t4))
  rename_i aU
  clear aU;have cE:=jE (w:=w) (r:=r) t4 (by omega) (A:=B1) (c:=f1) (A':=A5) (c':=c5) (by rw[UE.out];exact p1) (by rw[RP.out];exact o5.below bB) (hb4.trans (bB.mono hb4.size));rw[UE.out,A2'.out,RP.out]at cE;have dw:=ah cE;clear cE q1 s1 p1 t4 bB;go_wp2_with fail
  exact bodyPost_ret (v:= .agg #[.bool (decide (n<0)), .slice B1 (limbs n.natAbs).length f1, .slice A5 (limbs E.natAbs).length c5]) (by simp[results,Tryz.results66,go_sem,z0,z1,z2]) rfl dw.out
 have hd:decide (limbs E.natAbs=[1])=false:=decide_eq_false (fun h=>h1 (UD.out.symm.trans (qp.1 h)));rw[hd];clear hd h1;obtain⟨a1,a3⟩:=jI (n:=n) (d:=D) h0;rw[HR.out]at a1 a3;obtain⟨G,eG⟩:=xeq (((Nat.gcd n.natAbs E.natAbs:Nat):Int):Int)
 have hG:G≠0:=by
  have:=Nat.gcd_pos_of_pos_right n.natAbs (show 0<E.natAbs by have:=UD.out;omega);omega
 have zG:(limbs G.natAbs).length<=K:=by rw[<-eG,Int.natAbs_natCast];exact DN zn zE rfl (aj _)
 obtain⟨N',eN⟩:=xeq (n/G:Int);obtain⟨N2,Wm⟩:=xeq (n % G:Int);obtain⟨E',eE'⟩:=xeq (E/G:Int);obtain⟨E2,eE2⟩:=xeq (E % G:Int);have Zz:r.num=N':=by rw[a1,<-eN,<-eG,UD.out]
 have hEd:E'=((D/Nat.gcd n.natAbs D:Nat):Int):=by rw[<-eE',<-eG,UD.out,<-EE.out];rfl
 have ZA:r.den=E'.natAbs:=by rw[a3,hEd,Int.natAbs_natCast]
 have akc:decide (E'<0)=false:=by rw[decide_eq_false_iff_not,hEd];omega
 have UE:=ah Zz;have RP:=ah ZA;have EG:=ah eG;have Pq:=ah eN;have EN2:=ah Wm;have EE':=ah eE';have EE2:=ah eE2;clear a1 a3 Zz ZA eG eN Wm eE' eE2 hEd h0;have x0:=i2.c0;have x1:=i2.c1;have y0:=i3.c0;have y1:=i3.c1;go_wp2_with fail
 refine(Pp p q A B xs ys c d _ n E G K K ha hb hs ht EN.out ED.out EG.out (by omega) (by omega)).mono ?_;rintro e w5 ⟨A6,c6,rfl,r6,b5⟩;have i6:=cg.new w5 (decide (G<0)) (.slice A6 (limbs G.natAbs).length c6);have bo:=bI w5 (.cells #[.bool (decide (G<0)), .slice A6 (limbs G.natAbs).length c6] 43);obtain⟨w6,iB⟩:=xeq (w5.alloc (.cells #[.bool (decide (G<0)), .slice A6 (limbs G.natAbs).length c6] 43));rw[iB]at i6 bo;have b46:=b5.trans (bo.mono b5.size);have l6:=r6.lim.below bo;replace i2:=i2.keep b46;replace i3:=i3.keep b46;replace i4:=i4.keep b46;replace ha:=ha.below b46;replace hb:=hb.below b46;have eC:=hb4.trans (b46.mono hb4.size);clear x0 x1 y0 y1 r6 b5 bo b46 hb4 m2 m3 m4 m5 i5 o5;have x0:=i2.c0;have x1:=i2.c1;have y0:=i6.c0;have y1:=i6.c1;have m2:=i2.lt;have m6:=i6.lt;go_wp2_with fail
 refine(uG p _ A A6 xs (limbs G.natAbs) c c6 _ n G N' N2 K K ha l6 hs zG EN.out (dS G) hG Pq.out EN2.out (by omega) (by omega)).mono ?_;rintro e w7 ⟨A7,c7,A8,c8,rfl,r7,r8,b7⟩;obtain⟨w8,Af,bo,i7,i8⟩:=F7 w7 (decide (N'<0)) (decide (N2<0)) (.slice A7 (limbs N'.natAbs).length c7) (.slice A8 (limbs N2.natAbs).length c8);have b68:=b7.trans (bo.mono b7.size);have o7:=(r7.below bo).mono (lo':=w.heap.size) eC.size;replace i3:=i3.keep b68;replace i4:=i4.keep b68;replace i6:=i6.keep b68;replace hb:=hb.below b68;replace l6:=l6.below b68;have jV:=eC.trans (b68.mono eC.size);clear x0 x1 y0 y1 r7 r8 b7 bo b68 eC m2 m6 iB i2 ha;have x0:=i3.c0;have x1:=i3.c1;have y0:=i6.c0;have y1:=i6.c1;have m3:=i3.lt;have m6:=i6.lt;go_wp2_with fail
 refine(uG q _ B A6 ys (limbs G.natAbs) d c6 _ E G E' E2 K K hb l6 ht zG ED.out (dS G) hG EE'.out EE2.out (by omega) (by omega)).mono ?_;rintro e w9 ⟨A9,c9,A10,c10,rfl,r9,r10,b9⟩;rw[akc];obtain⟨wA,hwA,bo,i10,i11⟩:=F7 w9 false (decide (E2<0)) (.slice A9 (limbs E'.natAbs).length c9) (.slice A10 (limbs E2.natAbs).length c10);have ZB:=b9.trans (bo.mono b9.size);have o9:=(r9.below bo).mono (lo':=w.heap.size) jV.size;have f4:=i4.keep ZB;have f7:=i7.keep ZB;have p7:=o7.below ZB;have hbA:=jV.trans (ZB.mono jV.size);clear x0 x1 y0 y1 r9 r10 b9 bo ZB jV m3 m6 Af i3 i6 hb l6 i4 i7 o7;have x0:=f7.c0;have x1:=f7.c1;have y0:=i10.c0;have y1:=i10.c1;have m7:=f7.lt;have m10:=i10.lt;have m4:=f4.lt;obtain⟨z0,z1,z2,z3,z4,z5⟩:=id f4;have cE:=jE (w:=w) (r:=r) f4 (by omega) (A:=A7) (c:=c7) (A':=A9) (c':=c9) (by rw[UE.out];exact p7) (by rw[RP.out];exact o9) hbA;rw[UE.out,RP.out]at cE;have dw:=ah cE;clear cE;go_wp2_with fail
 exact bodyPost_ret (v:= .agg #[.bool (decide (N'<0)), .slice A7 (limbs N'.natAbs).length c7, .slice A9 (limbs E'.natAbs).length c9]) (by simp[results,Tryz.results66,go_sem,z0,z1,z2]) rfl dw.out
/- Contracts of the reference of layer 3: Norm, Equal, Of, Size. -/
theorem Ln(b s t:Value)(w:World):(Instr.field 45 (.agg #[b,s,t]) 0).run Tryz.prog w= .ok (.agg #[b,s]) w:=by
 simp[Instr.field,run_underlying Tryz.underlying45,asAgg,part,go_sem]
theorem Lr(p:Bool)(A B:Option Addr)(xs ys:List Nat)(c d:Nat)(w:World)(r:Rat)(K:Nat)(ha:bQ w A c xs)(hb:bQ w B d ys)(hs:xs.length<=K)(ht:ys.length<=K)(hK:K<=70368744177650)(hr:rv p xs ys=r):
 Calls Tryz.prog 33 #[.agg #[.bool p, .slice A xs.length c, .slice B ys.length d]] w (fu w r):=by
 obtain⟨W,hW,bC,hsz,i1,i2⟩:=yO w p (.slice A xs.length c) (.slice B ys.length d);have j1:=i1.lt;have j2:=i2.lt;obtain⟨x0,x1,x2,_,_,_⟩:=id i1;have HW:=ah hW;have HR:=ah hr;clear hW hsz hr;replace ha:=ha.below bC;replace hb:=hb.below bC;go_enter Tryz.func33,Tryz.ntmps33
 go_wp2_with fail
 rw[HW.out];refine(F8 p false A B xs ys c d _ (iv p xs) (val ys) r K ha hb hs ht hK rfl rfl HR.out).mono ?_;rintro e w1 ⟨A1,c1,B1,d1,rfl,r1,r2,b1⟩;have t2:=i2.keep b1;obtain⟨y0,y1,y2,y3,y4,y5⟩:=id t2;have dw:=ah (gE (W:=W) t2 (by omega) r1 r2 bC.size (bC.trans (b1.mono bC.size)));clear r1 r2 b1 t2;go_wp2_with fail
 exact bodyPost_ret (v:= .agg #[.bool (decide (r.num<0)), .slice A1 (limbs r.num.natAbs).length c1, .slice B1 (limbs r.den).length d1]) (by simp[results,Tryz.results33,go_sem,y0,y1,y2]) rfl dw.out
theorem ZC(n d:Int)(w:World)(r:Rat)(h1: -9223372036854775808<=n)(h2:n<=9223372036854775807)(d1:1<=d)(d2:d<=9223372036854775807)(hr:mkRat n d.toNat=r):
 Calls Tryz.prog 35 #[.int .i64 n, .int .i64 d] w (fu w r):=by
 obtain⟨W,hW,bC,hsz,i0⟩:=Ng w;have j0:=i0.lt;have zn:(limbs n.natAbs).length<=2:=iI (by rw[show Ba*Ba=18446744073709551616 by decide];omega);have zd:(limbs d.natAbs).length<=2:=iI (by rw[show Ba*Ba=18446744073709551616 by decide];omega);obtain⟨n',en⟩:=xeq n;obtain⟨d',ed⟩:=xeq d;have zn':(limbs n'.natAbs).length<=2:=by rw[<-en];exact zn
 have zd':(limbs d'.natAbs).length<=2:=by rw[<-ed];exact zd
 have hd':(d'.toNat:Int)=d':=by omega
 have hr':mkRat n' d'.toNat=r:=by rw[<-en,<-ed];exact hr
 have HW:=ah hW;have HR:=ah hr';have HD:=ah hd';have EN:=ah en;have ED:=ah ed;clear hW hsz hr hr' zn zd hd' en ed;go_enter Tryz.func35,Tryz.ntmps35
 go_wp2_with fail
 rw[HW.out];refine(uq n n' _ h1 h2 EN.out).mono ?_;rintro e w1 ⟨A1,c1,rfl,r1,b1⟩;go_wp2_with fail
 refine(uq d d' _ (by omega) d2 ED.out).mono ?_;rintro e w2 ⟨A2,c2,rfl,r2,b2⟩;go_wp2_with fail
 refine(F8 _ _ A1 A2 (limbs n'.natAbs) (limbs d'.natAbs) c1 c2 _ n' d'.toNat r 2 (r1.lim.below b2) r2.lim zn' zd' (by omega) (dS n') (by rw[dS];exact HD.out.symm) HR.out).mono ?_;rintro e w3 ⟨A3,c3,B3,d3,rfl,q1,q2,b3⟩;have b02:=b1.trans (b2.mono b1.size);have b03:=b02.trans (b3.mono b02.size);have t0:=i0.keep b03;obtain⟨y0,y1,y2,y3,y4,y5⟩:=id t0;have dw:=ah (gE (W:=w2) t0 (aj _) q1 q2 (ay bC.size b02.size) (bC.trans (b03.mono bC.size)));clear r1 r2 q1 q2 b1 b2 b3 b02 b03 t0;go_wp2_with fail
 exact bodyPost_ret (v:= .agg #[.bool (decide (r.num<0)), .slice A3 (limbs r.num.natAbs).length c3, .slice B3 (limbs r.den).length d3]) (by simp[results,Tryz.results35,go_sem,y0,y1,y2]) rfl dw.out
/- law03's awake returns true. -/
/- Contracts of rational.Neg, Inv; FromInt of reference 03. -/
theorem dP.int{w:World}{N:Nat}{b:Bool}{s t:Value}(h:dP w N b s t):cg w N b s:=⟨h.c0,h.c1,h.f0,h.f1⟩
theorem UF(p:Bool)(A B:Option Addr)(xs ys:List Nat)(c d:Nat)(w:World)(r t:Rat)(K:Nat)(ha:bQ w A c xs)(hb:bQ w B d ys)(hs:xs.length<=K)(ht:ys.length<=K)(h1:1<=K)(hK:K<=70368744177660)(hr:rv p xs ys=r)(hn: -r=t):
 Calls Tryz.prog 42 #[.agg #[.bool p, .slice A xs.length c, .slice B ys.length d]] w (fu w t):=by
 obtain⟨W,hW,bC,hsz,i1,i2⟩:=yO w p (.slice A xs.length c) (.slice B ys.length d);have j1:=i1.lt;have j2:=i2.lt;obtain⟨x0,x1,x2,_,_,_⟩:=id i1;have zn:(limbs r.num.natAbs).length<=K:=by rw[<-hr];exact xD ha.lb hs
 have e1: -r.num=t.num:=by rw[<-hn,Rat.neg_num]
 have e2:t.den=r.den:=by rw[<-hn,Rat.neg_den]
 obtain⟨N,eN⟩:=xeq t.num;have HW:=ah hW;have HR:=ah hr;have E1:=ah (e1.trans eN);have E2:=ah e2;have EN:=ah eN;clear hW hsz hr hn e1 e2 eN;replace ha:=ha.below bC;replace hb:=hb.below bC;go_enter Tryz.func42,Tryz.ntmps42
 go_wp2_with fail
 rw[HW.out];refine(qm p A B xs ys c d _ r K ha hb hs ht h1 hK HR.out).mono ?_;rintro e w1 ⟨A1,c1,B1,d1,rfl,r1,r2,s1⟩;have i3:=dP.new w1 (decide (r.num<0)) (.slice A1 (limbs r.num.natAbs).length c1) (.slice B1 (limbs r.den).length d1);have bo:=bI w1 (.cells #[.bool (decide (r.num<0)), .slice A1 (limbs r.num.natAbs).length c1, .slice B1 (limbs r.den).length d1] 45);obtain⟨w2,hw2⟩:=xeq (w1.alloc (.cells #[.bool (decide (r.num<0)), .slice A1 (limbs r.num.natAbs).length c1, .slice B1 (limbs r.den).length d1] 45));rw[hw2]at i3 bo;have jw1:w.heap.size+1<w1.heap.size:=ak j2 s1.size;have b02:=s1.trans (bo.mono s1.size);have l1:=r1.lim.below bo;have o2:=(r2.below bo).mono (lo':=w.heap.size) bC.size;have k2:=i2.keep b02;have hb2:=bC.trans (b02.mono bC.size);clear x0 x1 x2 r1 r2 s1 bo b02 bC i1 i2 ha hb;obtain⟨y0,y1,y2,y3,y4,y5⟩:=id i3;have m3:=i3.lt;go_wp2_with fail
 refine(Ua _ A1 (limbs r.num.natAbs) c1 _ r.num N K l1 zn (dS r.num) E1.out (by omega)).mono ?_;rintro e w3 ⟨A4,c4,rfl,r4,b3⟩;clear hw2 y0 y1 y2 y3 y4 y5;have f3:=i3.keep b3;have f2:=k2.keep b3;have p2:=o2.below b3;have p4:=r4.mono (lo':=w.heap.size) hb2.size;have fq:=hb2.trans (b3.mono hb2.size);obtain⟨y0,y1,y2,y3,y4,y5⟩:=id f3;obtain⟨z0,z1,z2,z3,z4,z5⟩:=id f2;have m3':=f3.lt;have m2':=f2.lt;have n23:w.heap.size+1≠w1.heap.size:=by omega
 have v2:=(f2.Fh (M:=w1.heap.size) (i:=0) n23 (.bool (decide (N<0)))).Fh (M:=w1.heap.size) (i:=1) n23 (.slice A4 (limbs N.natAbs).length c4);have q4:=p4.put f3.int (decide (N<0)) (.slice A4 (limbs N.natAbs).length c4);have q2:=p2.put f3.int (decide (N<0)) (.slice A4 (limbs N.natAbs).length c4);have hb4:=bH fq (show w.heap.size<=w1.heap.size by omega) (.bool (decide (N<0))) (.slice A4 (limbs N.natAbs).length c4);have cE:=jE (w:=w) (r:=t) v2 (by omega) (by rw[EN.out];exact q4) (by rw[E2.out];exact q2) hb4;rw[EN.out,E2.out]at cE;have dw:=ah cE;clear cE q4 q2 v2 p2 p4 hb4 fq;go_wp2_with fail
 exact bodyPost_ret (v:= .agg #[.bool (decide (N<0)), .slice A4 (limbs N.natAbs).length c4, .slice B1 (limbs r.den).length d1]) (by simp[results,Tryz.results42,go_sem,z0,z1,z2]) rfl dw.out
def sZ(w:World)(r:Rat)(e:Ending)(w':World):Prop:=
 ∃A c B d,e= .returned (.tuple #[.agg #[.bool (decide (r.num<0)), .slice A (limbs r.num.natAbs).length c, .slice B (limbs r.den).length d], .bool true])/\Own w.heap.size w' A c (limbs r.num.natAbs)/\Own w.heap.size w' B d (limbs r.den)/\Below w.heap.size w w'
theorem xH{r:Rat}(h:r≠0):decide (r⁻¹.num<0)=decide (r.num<0)/\r⁻¹.num.natAbs=r.den/\r⁻¹.den=r.num.natAbs:=by
 have hn:r.num≠0:=fun e=>h (Rat.num_eq_zero.1 e);have hd:0<r.den:=Nat.pos_of_ne_zero r.den_nz;rw[Rat.num_inv,Rat.den_inv,if_neg hn];rcases Int.lt_or_gt_of_ne hn with h1|h1
 ·rw[Int.sign_eq_neg_one_of_neg h1];refine⟨?_,by omega,rfl⟩;rw[decide_eq_true h1,decide_eq_true (by omega)]
 ·rw[Int.sign_eq_one_of_pos h1];refine⟨?_,by omega,rfl⟩;rw[decide_eq_false (by omega),decide_eq_false (by omega)]
theorem Pv(p:Bool)(A B:Option Addr)(xs ys:List Nat)(c d:Nat)(w:World)(r t:Rat)(K:Nat)(ha:bQ w A c xs)(hb:bQ w B d ys)(hs:xs.length<=K)(ht:ys.length<=K)(h1:1<=K)(hK:K<=70368744177660)(hr:rv p xs ys=r)(h0:r≠0)(hi:r⁻¹=t):
 Calls Tryz.prog 117 #[.agg #[.bool p, .slice A xs.length c, .slice B ys.length d]] w (sZ w t):=by
 obtain⟨W,hW,bC,hsz,i1,i2⟩:=yO w p (.slice A xs.length c) (.slice B ys.length d);have j1:=i1.lt;have j2:=i2.lt;obtain⟨x0,x1,x2,_,_,_⟩:=id i1;obtain⟨a1,a2,a3⟩:=xH h0;rw[hi]at a1 a2 a3;obtain⟨sg,kZ⟩:=xeq (fZ r.num);have wk:¬sg=0:=fun e=>h0 (qn.1 (kZ.trans e));have HW:=ah hW;have HR:=ah hr;have UE:=ah a1;have A2':=ah a2;have RP:=ah a3;have ESG:=ah kZ;clear hW hsz hr h0 hi a1 a2 a3 kZ;replace ha:=ha.below bC;replace hb:=hb.below bC;go_enter Tryz.func117,Tryz.ntmps117
 go_wp2_with fail
 rw[HW.out];refine(sW p A B xs ys c d _ r sg ha hb HR.out ESG.out).mono ?_;rintro e w1 ⟨rfl,b1⟩;clear x0 x1 x2;obtain⟨x0,x1,x2,_,_,_⟩:=i1.keep b1;go_wp2_with fail
 refine(qm p A B xs ys c d _ r K (ha.below b1) (hb.below b1) hs ht h1 hK HR.out).mono ?_;rintro e w2 ⟨A2,c2,B2,d2,rfl,r1,r2,b2⟩;have i4:=dP.new w2 (decide (r.num<0)) (.slice A2 (limbs r.num.natAbs).length c2) (.slice B2 (limbs r.den).length d2);have bo:=bI w2 (.cells #[.bool (decide (r.num<0)), .slice A2 (limbs r.num.natAbs).length c2, .slice B2 (limbs r.den).length d2] 45);obtain⟨w3,hw3⟩:=xeq (w2.alloc (.cells #[.bool (decide (r.num<0)), .slice A2 (limbs r.num.natAbs).length c2, .slice B2 (limbs r.den).length d2] 45));rw[hw3]at i4 bo;have b02:=b1.trans (b2.mono b1.size);have b03:=b02.trans (bo.mono b02.size);have t2:=i2.keep b03;have o1:=(r1.below bo).mono (lo':=w.heap.size) (ay bC.size b1.size);have o2:=(r2.below bo).mono (lo':=w.heap.size) (ay bC.size b1.size);have fq:=bC.trans (b03.mono bC.size);obtain⟨y0,y1,y2,y3,y4,y5⟩:=id t2;obtain⟨z0,z1,z2,_,_,_⟩:=id i4;have m2:=t2.lt;have m4:=i4.lt;have q1:=o1.gY t2 (decide (r.num<0)) (.slice B2 (limbs r.den).length d2) (.slice A2 (limbs r.num.natAbs).length c2);have q2:=o2.gY t2 (decide (r.num<0)) (.slice B2 (limbs r.den).length d2) (.slice A2 (limbs r.num.natAbs).length c2);have hb4:=dD fq (show w.heap.size<=w.heap.size+1 by omega) (.bool (decide (r.num<0))) (.slice B2 (limbs r.den).length d2) (.slice A2 (limbs r.num.natAbs).length c2);have dw:=ah (show sZ w t (.returned (.tuple #[.agg #[.bool (decide (r.num<0)), .slice B2 (limbs r.den).length d2, .slice A2 (limbs r.num.natAbs).length c2], .bool true])) _ from⟨B2,d2,A2,c2,by rw[UE.out,A2'.out,RP.out],by rw[A2'.out];exact q2,by rw[RP.out];exact q1,hb4⟩);clear q1 q2 hb4 fq o1 o2 r1 r2 b1 b2 bo b02 b03 t2 i4;go_wp2_with fail
 exact bodyPost_ret (v:= .tuple #[.agg #[.bool (decide (r.num<0)), .slice B2 (limbs r.den).length d2, .slice A2 (limbs r.num.natAbs).length c2], .bool true]) (by simp[results,Tryz.results117,go_sem,y0,y1,y2]) rfl dw.out
/- Integers and rational numbers as opaque values: what they mean, and what worlds leave of them. -/
def Sz(r:Rat)(K:Nat):Prop:=(limbs r.num.natAbs).length<=K/\(limbs r.den).length<=K
def CS(n:Int)(K:Nat):Prop:=(limbs n.natAbs).length<=K
def bG(w:World)(b s t:Value)(r:Rat)(K:Nat):Prop:=
 ∃p A xs c B ys d,b= .bool p/\s= .slice A xs.length c/\t= .slice B ys.length d/\bQ w A c xs/\bQ w B d ys/\xs.length<=K/\ys.length<=K/\1<=K/\rv p xs ys=r
def dU(w:World)(b s:Value)(n:Int)(K:Nat):Prop:=
 ∃p A xs c,b= .bool p/\s= .slice A xs.length c/\bQ w A c xs/\xs.length<=K/\iv p xs=n
def cV(lo:Nat)(w:World)(b s t:Value)(r:Rat):Prop:=
 ∃A c B d,b= .bool (decide (r.num<0))/\s= .slice A (limbs r.num.natAbs).length c/\t= .slice B (limbs r.den).length d/\Own lo w A c (limbs r.num.natAbs)/\Own lo w B d (limbs r.den)
def dV(lo:Nat)(w:World)(b s:Value)(n:Int):Prop:=
 ∃A c,b= .bool (decide (n<0))/\s= .slice A (limbs n.natAbs).length c/\Own lo w A c (limbs n.natAbs)
def iY(v:Value):Prop:=∀z,v≠ .int .u32 z
theorem iY.b(p:Bool):iY (.bool p):=by intro z e;cases e
theorem iY.s(A:Option Addr)(n c:Nat):iY (.slice A n c):=by intro z e;cases e
section
variable {w w':World}{lo lo':Nat}{b s t:Value}{r:Rat}{n:Int}{K L:Nat}
theorem Sz.mono(h:Sz r K)(hk:K<=L):Sz r L:=⟨ay h.1 hk,ay h.2 hk⟩
theorem CS.mono(h:CS n K)(hk:K<=L):CS n L:=ay h hk
theorem Sz.one(h:Sz r K):1<=K:=ay (by
 have h1:limbs r.den≠[]:=fun e=>r.den_nz (bV.1 e)
 cases hl:limbs r.den with
 |nil=>exact absurd hl h1
 |cons x l=>simp) h.2
theorem Sz.num(h:Sz r K):CS r.num K:=h.1
theorem Sz.den(h:Sz r K):CS (r.den:Int) K:=by unfold CS;rw[Int.natAbs_natCast];exact h.2
theorem bG.one(h:bG w b s t r K):1<=K:=by obtain⟨p,A,xs,c,B,ys,d,rfl,rfl,rfl,ha,hb,hs,ht,h1,hr⟩:=h;exact h1
theorem bG.sz(h:bG w b s t r K):Sz r K:=by
 obtain⟨p,A,xs,c,B,ys,d,rfl,rfl,rfl,ha,hb,hs,ht,h1,hr⟩:=h;rw[<-hr];exact⟨xD ha.lb hs,Ii hb.lb ht h1⟩
theorem dU.sz(h:dU w b s n K):CS n K:=by
 obtain⟨p,A,xs,c,rfl,rfl,ha,hs,hn⟩:=h;rw[<-hn];exact jk ha.lb hs
theorem bG.keep(h:bG w b s t r K)(hb:Below w.heap.size w w'):bG w' b s t r K:=by
 obtain⟨p,A,xs,c,B,ys,d,rfl,rfl,rfl,ha,hd,hs,ht,h1,hr⟩:=h;exact⟨p,A,xs,c,B,ys,d,rfl,rfl,rfl,ha.below hb,hd.below hb,hs,ht,h1,hr⟩
theorem dU.keep(h:dU w b s n K)(hb:Below w.heap.size w w'):dU w' b s n K:=by
 obtain⟨p,A,xs,c,rfl,rfl,ha,hs,hn⟩:=h;exact⟨p,A,xs,c,rfl,rfl,ha.below hb,hs,hn⟩
theorem cV.keep(h:cV lo w b s t r)(hb:Below w.heap.size w w'):cV lo w' b s t r:=by
 obtain⟨A,c,B,d,rfl,rfl,rfl,ha,hd⟩:=h;exact⟨A,c,B,d,rfl,rfl,rfl,ha.below hb,hd.below hb⟩
theorem dV.keep(h:dV lo w b s n)(hb:Below w.heap.size w w'):dV lo w' b s n:=by
 obtain⟨A,c,rfl,rfl,ha⟩:=h;exact⟨A,c,rfl,rfl,ha.below hb⟩
theorem bG.mono(h:bG w b s t r K)(hk:K<=L):bG w b s t r L:=by
 obtain⟨p,A,xs,c,B,ys,d,rfl,rfl,rfl,ha,hd,hs,ht,h1,hr⟩:=h;exact⟨p,A,xs,c,B,ys,d,rfl,rfl,rfl,ha,hd,ay hs hk,ay ht hk,ay h1 hk,hr⟩
theorem dU.mono(h:dU w b s n K)(hk:K<=L):dU w b s n L:=by
 obtain⟨p,A,xs,c,rfl,rfl,ha,hs,hn⟩:=h;exact⟨p,A,xs,c,rfl,rfl,ha,ay hs hk,hn⟩
theorem cV.mono(h:cV lo w b s t r)(hl:lo'<=lo):cV lo' w b s t r:=by
 obtain⟨A,c,B,d,rfl,rfl,rfl,ha,hd⟩:=h;exact⟨A,c,B,d,rfl,rfl,rfl,ha.mono hl,hd.mono hl⟩
theorem dV.mono(h:dV lo w b s n)(hl:lo'<=lo):dV lo' w b s n:=by
 obtain⟨A,c,rfl,rfl,ha⟩:=h;exact⟨A,c,rfl,rfl,ha.mono hl⟩
theorem cV.is(h:cV lo w b s t r)(hz:Sz r K):bG w b s t r K:=by
 have h1:=hz.one;obtain⟨A,c,B,d,rfl,rfl,rfl,ha,hd⟩:=h;exact⟨_,A,_,c,B,_,d,rfl,rfl,rfl,ha.lim,hd.lim,hz.1,hz.2,h1,Le r⟩
theorem dV.is(h:dV lo w b s n)(hz:CS n K):dU w b s n K:=by
 obtain⟨A,c,rfl,rfl,ha⟩:=h;exact⟨_,A,_,c,rfl,rfl,ha.lim,hz,dS n⟩
theorem cV.num(h:cV lo w b s t r):dV lo w b s r.num:=by
 obtain⟨A,c,B,d,rfl,rfl,rfl,ha,hd⟩:=h;exact⟨A,c,rfl,rfl,ha⟩
theorem cV.den(h:cV lo w b s t r):dV lo w (.bool false) t (r.den:Int):=by
 obtain⟨A,c,B,d,rfl,rfl,rfl,ha,hd⟩:=h;exact⟨B,d,by rw[decide_eq_false (by omega)],rfl,hd⟩
theorem cV.of(h:dV lo w b s r.num)(h2:dV lo w (.bool false) t (r.den:Int)):cV lo w b s t r:=by
 obtain⟨A,c,rfl,rfl,ha⟩:=h;obtain⟨B,d,_,rfl,hd⟩:=h2;exact⟨A,c,B,d,rfl,rfl,rfl,ha,hd⟩
theorem cV.store{p:Addr}{u v:Value}(h:cV lo w b s t r)(hp:w.cell? p=some v)(hv:iY v):cV lo (w.setCell p u) b s t r:=by
 obtain⟨A,c,B,d,rfl,rfl,rfl,ha,hd⟩:=h;exact⟨A,c,B,d,rfl,rfl,rfl,ha.store hp hv,hd.store hp hv⟩
theorem dV.store{p:Addr}{u v:Value}(h:dV lo w b s n)(hp:w.cell? p=some v)(hv:iY v):dV lo (w.setCell p u) b s n:=by
 obtain⟨A,c,rfl,rfl,ha⟩:=h;exact⟨A,c,rfl,rfl,ha.store hp hv⟩
theorem bG.store{p:Addr}{u v:Value}(h:bG w b s t r K)(hp:w.cell? p=some v)(hv:iY v):bG (w.setCell p u) b s t r K:=by
 obtain⟨p,A,xs,c,B,ys,d,rfl,rfl,rfl,ha,hd,hs,ht,h1,hr⟩:=h;exact⟨p,A,xs,c,B,ys,d,rfl,rfl,rfl,ha.store hp hv,hd.store hp hv,hs,ht,h1,hr⟩
theorem dU.store{p:Addr}{u v:Value}(h:dU w b s n K)(hp:w.cell? p=some v)(hv:iY v):dU (w.setCell p u) b s n K:=by
 obtain⟨p,A,xs,c,rfl,rfl,ha,hs,hn⟩:=h;exact⟨p,A,xs,c,rfl,rfl,ha.store hp hv,hs,hn⟩
theorem bG.nol(h:bG w b s t r K):iY b/\iY s/\iY t:=by
 obtain⟨p,A,xs,c,B,ys,d,rfl,rfl,rfl,ha,hd,hs,ht,h1,hr⟩:=h;exact⟨iY.b _,iY.s _ _ _,iY.s _ _ _⟩
theorem cV.nol(h:cV lo w b s t r):iY b/\iY s/\iY t:=by
 obtain⟨A,c,B,d,rfl,rfl,rfl,ha,hd⟩:=h;exact⟨iY.b _,iY.s _ _ _,iY.s _ _ _⟩
theorem dU.nol(h:dU w b s n K):iY b/\iY s:=by
 obtain⟨p,A,xs,c,rfl,rfl,ha,hs,hn⟩:=h;exact⟨iY.b _,iY.s _ _ _⟩
theorem dV.nol(h:dV lo w b s n):iY b/\iY s:=by
 obtain⟨A,c,rfl,rfl,ha⟩:=h;exact⟨iY.b _,iY.s _ _ _⟩
theorem bG.zero(w:World)(h:1<=K):bG w (.bool false) (.slice none 0 0) (.slice none 0 0) 0 K:=
 ⟨false,none,[],0,none,[],0,rfl,rfl,rfl,bQ.nil _ _,bQ.nil _ _,aF _,aF _,h,yN rfl⟩
theorem dU.zero(w:World):dU w (.bool false) (.slice none 0 0) 0 K:=⟨false,none,[],0,rfl,rfl,bQ.nil _ _,aF _,rfl⟩
end
structure cK(w:World)(N:Nat)(b s t:Value):Prop where
 c0:w.cell? ⟨N,0,none⟩=some b
 c1:w.cell? ⟨N,1,none⟩=some s
 c2:w.cell? ⟨N,2,none⟩=some t
 f0:w.frozen? ⟨N,0,none⟩=false
 f1:w.frozen? ⟨N,1,none⟩=false
 f2:w.frozen? ⟨N,2,none⟩=false
structure tJ(w:World)(N:Nat)(b s:Value):Prop where
 c0:w.cell? ⟨N,0,none⟩=some b
 c1:w.cell? ⟨N,1,none⟩=some s
 f0:w.frozen? ⟨N,0,none⟩=false
 f1:w.frozen? ⟨N,1,none⟩=false
section
variable {w w':World}{N M:Nat}{b s t b' s' t':Value}{r:Rat}{n:Int}{K:Nat}
theorem cK.lt(h:cK w N b s t):N<w.heap.size:=aG w _ h.c0
theorem tJ.lt(h:tJ w N b s):N<w.heap.size:=aG w _ h.c0
theorem cK.keep(h:cK w N b s t)(hb:Below w.heap.size w w'):cK w' N b s t:=
 have hN:=h.lt
 ⟨(hb.cell (p:=⟨N,0,none⟩) hN).trans h.c0,(hb.cell (p:=⟨N,1,none⟩) hN).trans h.c1,(hb.cell (p:=⟨N,2,none⟩) hN).trans h.c2,(hb.frozen (p:=⟨N,0,none⟩) hN).trans h.f0,(hb.frozen (p:=⟨N,1,none⟩) hN).trans h.f1,(hb.frozen (p:=⟨N,2,none⟩) hN).trans h.f2⟩
theorem tJ.keep(h:tJ w N b s)(hb:Below w.heap.size w w'):tJ w' N b s:=
 have hN:=h.lt
 ⟨(hb.cell (p:=⟨N,0,none⟩) hN).trans h.c0,(hb.cell (p:=⟨N,1,none⟩) hN).trans h.c1,(hb.frozen (p:=⟨N,0,none⟩) hN).trans h.f0,(hb.frozen (p:=⟨N,1,none⟩) hN).trans h.f1⟩
theorem cK.new(w:World)(b s t:Value):cK (w.alloc (.cells #[b,s,t] 45)) w.heap.size b s t:=by
 refine⟨?_,?_,?_,?_,?_,?_⟩<;>go_simp
theorem tJ.new(w:World)(b s:Value):tJ (w.alloc (.cells #[b,s] 43)) w.heap.size b s:=by
 refine⟨?_,?_,?_,?_⟩<;>go_simp
theorem cK.put(h:cK w N b s t)(b' s' t':Value):cK (((w.setCell ⟨N,0,none⟩ b').setCell ⟨N,1,none⟩ s').setCell ⟨N,2,none⟩ t') N b' s' t':=by
 obtain⟨h0,h1,h2,h3,h4,h5⟩:=h;refine⟨?_,?_,?_,?_,?_,?_⟩<;>go_simp
theorem tJ.put(h:tJ w N b s)(b' s':Value):tJ ((w.setCell ⟨N,0,none⟩ b').setCell ⟨N,1,none⟩ s') N b' s':=by
 obtain⟨h0,h1,h2,h3⟩:=h;refine⟨?_,?_,?_,?_⟩<;>go_simp
theorem cK.far{i:Nat}(h:cK w N b s t)(hM:N≠M)(u:Value):cK (w.setCell ⟨M,i,none⟩ u) N b s t:=by
 have h1:=Below.heap_setCell w ⟨M,i,none⟩ u N hM;exact⟨by rw[<-h.c0];simp only[World.cell?,h1],by rw[<-h.c1];simp only[World.cell?,h1],by rw[<-h.c2];simp only[World.cell?,h1],by rw[<-h.f0];simp only[World.frozen?,h1],by rw[<-h.f1];simp only[World.frozen?,h1],by rw[<-h.f2];simp only[World.frozen?,h1]⟩
theorem tJ.far{i:Nat}(h:tJ w N b s)(hM:N≠M)(u:Value):tJ (w.setCell ⟨M,i,none⟩ u) N b s:=by
 have h1:=Below.heap_setCell w ⟨M,i,none⟩ u N hM;exact⟨by rw[<-h.c0];simp only[World.cell?,h1],by rw[<-h.c1];simp only[World.cell?,h1],by rw[<-h.f0];simp only[World.frozen?,h1],by rw[<-h.f1];simp only[World.frozen?,h1]⟩
theorem cK.Cq(h:cK w N b s t)(hM:N≠M)(u v x:Value):cK (((w.setCell ⟨M,0,none⟩ u).setCell ⟨M,1,none⟩ v).setCell ⟨M,2,none⟩ x) N b s t:=((h.far hM u).far hM v).far hM x
theorem tJ.Cq(h:tJ w N b s)(hM:N≠M)(u v x:Value):tJ (((w.setCell ⟨M,0,none⟩ u).setCell ⟨M,1,none⟩ v).setCell ⟨M,2,none⟩ x) N b s:=((h.far hM u).far hM v).far hM x
theorem cV.gY{lo:Nat}{x y z:Value}(h:cV lo w x y z r)(hN:cK w N b s t)(k:iY b/\iY s/\iY t)(b' s' t':Value):cV lo (((w.setCell ⟨N,0,none⟩ b').setCell ⟨N,1,none⟩ s').setCell ⟨N,2,none⟩ t') x y z r:=by
 have h1:cV lo (w.setCell ⟨N,0,none⟩ b') x y z r:=h.store hN.c0 k.1;have h2:cV lo ((w.setCell ⟨N,0,none⟩ b').setCell ⟨N,1,none⟩ s') x y z r:=h1.store (v:=s) (by rw[World.cell?_setCell_other (b:=(⟨N,1,none⟩:Addr)) (h:=by simp)];exact hN.c1) k.2.1;exact h2.store (v:=t) (by rw[World.cell?_setCell_other (b:=(⟨N,2,none⟩:Addr)) (h:=by simp),World.cell?_setCell_other (b:=(⟨N,2,none⟩:Addr)) (h:=by simp)];exact hN.c2) k.2.2
theorem dV.gY{lo:Nat}{x y:Value}(h:dV lo w x y n)(hN:cK w N b s t)(k:iY b/\iY s/\iY t)(b' s' t':Value):dV lo (((w.setCell ⟨N,0,none⟩ b').setCell ⟨N,1,none⟩ s').setCell ⟨N,2,none⟩ t') x y n:=by
 have h1:dV lo (w.setCell ⟨N,0,none⟩ b') x y n:=h.store hN.c0 k.1;have h2:dV lo ((w.setCell ⟨N,0,none⟩ b').setCell ⟨N,1,none⟩ s') x y n:=h1.store (v:=s) (by rw[World.cell?_setCell_other (b:=(⟨N,1,none⟩:Addr)) (h:=by simp)];exact hN.c1) k.2.1;exact h2.store (v:=t) (by rw[World.cell?_setCell_other (b:=(⟨N,2,none⟩:Addr)) (h:=by simp),World.cell?_setCell_other (b:=(⟨N,2,none⟩:Addr)) (h:=by simp)];exact hN.c2) k.2.2
theorem bG.gY{x y z:Value}(h:bG w x y z r K)(hN:cK w N b s t)(k:iY b/\iY s/\iY t)(b' s' t':Value):bG (((w.setCell ⟨N,0,none⟩ b').setCell ⟨N,1,none⟩ s').setCell ⟨N,2,none⟩ t') x y z r K:=by
 have h1:bG (w.setCell ⟨N,0,none⟩ b') x y z r K:=h.store hN.c0 k.1;have h2:bG ((w.setCell ⟨N,0,none⟩ b').setCell ⟨N,1,none⟩ s') x y z r K:=h1.store (v:=s) (by rw[World.cell?_setCell_other (b:=(⟨N,1,none⟩:Addr)) (h:=by simp)];exact hN.c1) k.2.1;exact h2.store (v:=t) (by rw[World.cell?_setCell_other (b:=(⟨N,2,none⟩:Addr)) (h:=by simp),World.cell?_setCell_other (b:=(⟨N,2,none⟩:Addr)) (h:=by simp)];exact hN.c2) k.2.2
theorem dU.gY{x y:Value}(h:dU w x y n K)(hN:cK w N b s t)(k:iY b/\iY s/\iY t)(b' s' t':Value):dU (((w.setCell ⟨N,0,none⟩ b').setCell ⟨N,1,none⟩ s').setCell ⟨N,2,none⟩ t') x y n K:=by
 have h1:dU (w.setCell ⟨N,0,none⟩ b') x y n K:=h.store hN.c0 k.1;have h2:dU ((w.setCell ⟨N,0,none⟩ b').setCell ⟨N,1,none⟩ s') x y n K:=h1.store (v:=s) (by rw[World.cell?_setCell_other (b:=(⟨N,1,none⟩:Addr)) (h:=by simp)];exact hN.c1) k.2.1;exact h2.store (v:=t) (by rw[World.cell?_setCell_other (b:=(⟨N,2,none⟩:Addr)) (h:=by simp),World.cell?_setCell_other (b:=(⟨N,2,none⟩:Addr)) (h:=by simp)];exact hN.c2) k.2.2
theorem dV.iL{lo:Nat}{x y:Value}(h:dV lo w x y n)(hN:tJ w N b s)(k:iY b/\iY s)(b' s':Value):dV lo ((w.setCell ⟨N,0,none⟩ b').setCell ⟨N,1,none⟩ s') x y n:=by
 have h1:dV lo (w.setCell ⟨N,0,none⟩ b') x y n:=h.store hN.c0 k.1;exact h1.store (v:=s) (by rw[World.cell?_setCell_other (b:=(⟨N,1,none⟩:Addr)) (h:=by simp)];exact hN.c1) k.2
theorem cV.iL{lo:Nat}{x y z:Value}(h:cV lo w x y z r)(hN:tJ w N b s)(k:iY b/\iY s)(b' s':Value):cV lo ((w.setCell ⟨N,0,none⟩ b').setCell ⟨N,1,none⟩ s') x y z r:=by
 have h1:cV lo (w.setCell ⟨N,0,none⟩ b') x y z r:=h.store hN.c0 k.1;exact h1.store (v:=s) (by rw[World.cell?_setCell_other (b:=(⟨N,1,none⟩:Addr)) (h:=by simp)];exact hN.c1) k.2
theorem dU.iL{x y:Value}(h:dU w x y n K)(hN:tJ w N b s)(k:iY b/\iY s)(b' s':Value):dU ((w.setCell ⟨N,0,none⟩ b').setCell ⟨N,1,none⟩ s') x y n K:=by
 have h1:dU (w.setCell ⟨N,0,none⟩ b') x y n K:=h.store hN.c0 k.1;exact h1.store (v:=s) (by rw[World.cell?_setCell_other (b:=(⟨N,1,none⟩:Addr)) (h:=by simp)];exact hN.c1) k.2
theorem bG.iL{x y z:Value}(h:bG w x y z r K)(hN:tJ w N b s)(k:iY b/\iY s)(b' s':Value):bG ((w.setCell ⟨N,0,none⟩ b').setCell ⟨N,1,none⟩ s') x y z r K:=by
 have h1:bG (w.setCell ⟨N,0,none⟩ b') x y z r K:=h.store hN.c0 k.1;exact h1.store (v:=s) (by rw[World.cell?_setCell_other (b:=(⟨N,1,none⟩:Addr)) (h:=by simp)];exact hN.c1) k.2
end
theorem ng:iY (.bool false)/\iY (.slice none 0 0)/\iY (.slice none 0 0):=⟨iY.b _,iY.s _ _ _,iY.s _ _ _⟩
def nV(w:World)(r:Rat)(e:Ending)(w':World):Prop:=∃b s t,e= .returned (.agg #[b,s,t])/\cV w.heap.size w' b s t r/\Below w.heap.size w w'
def UG(w:World)(n:Int)(e:Ending)(w':World):Prop:=∃b s,e= .returned (.agg #[b,s])/\dV w.heap.size w' b s n/\Below w.heap.size w w'
def F9(w:World)(r:Rat)(e:Ending)(w':World):Prop:=∃b s t,e= .returned (.tuple #[.agg #[b,s,t], .bool true])/\cV w.heap.size w' b s t r/\Below w.heap.size w w'
theorem fu.r{w w':World}{r:Rat}{e:Ending}(h:fu w r e w'):nV w r e w':=by
 obtain⟨A,c,B,d,rfl,h1,h2,h3⟩:=h;exact⟨_,_,_,rfl,⟨A,c,B,d,rfl,rfl,rfl,h1,h2⟩,h3⟩
theorem bW.z{w w':World}{n:Int}{e:Ending}(h:bW w n e w'):UG w n e w':=by
 obtain⟨A,c,rfl,h1,h2⟩:=h;exact⟨_,_,rfl,⟨A,c,rfl,rfl,h1⟩,h2⟩
theorem sZ.r{w w':World}{r:Rat}{e:Ending}(h:sZ w r e w'):F9 w r e w':=by
 obtain⟨A,c,B,d,rfl,h1,h2,h3⟩:=h;exact⟨_,_,_,rfl,⟨A,c,B,d,rfl,rfl,rfl,h1,h2⟩,h3⟩
theorem Bb{w w1:World}{lo:Nat}{r:Rat}{N:Nat}{b s t:Value}(hN:cK w1 N (.bool false) (.slice none 0 0) (.slice none 0 0))(hl:w.heap.size<=N)(o:cV lo w1 b s t r)(hlo:w.heap.size<=lo)(hb:Below w.heap.size w w1):
 nV w r (.returned (.agg #[b,s,t])) (((w1.setCell ⟨N,0,none⟩ b).setCell ⟨N,1,none⟩ s).setCell ⟨N,2,none⟩ t):=
 ⟨b,s,t,rfl,(o.mono hlo).gY hN ng _ _ _,dD hb hl _ _ _⟩
theorem UH{w w1:World}{lo:Nat}{r:Rat}{N:Nat}{b s t:Value}(hN:cK w1 N (.bool false) (.slice none 0 0) (.slice none 0 0))(hl:w.heap.size<=N)(o:cV lo w1 b s t r)(hlo:w.heap.size<=lo)(hb:Below w.heap.size w w1):
 F9 w r (.returned (.tuple #[.agg #[b,s,t], .bool true])) (((w1.setCell ⟨N,0,none⟩ b).setCell ⟨N,1,none⟩ s).setCell ⟨N,2,none⟩ t):=
 ⟨b,s,t,rfl,(o.mono hlo).gY hN ng _ _ _,dD hb hl _ _ _⟩
theorem wu.st{v:Value}(h:v.oneCell'=true):∀(a:Addr) (m:Mode) (w:World),(Go.store a v m).run Tryz.prog w=stored Tryz.prog w a v m:=fun a m w=>run_store Tryz.prog w a v m h
theorem bG.st{w:World}{b s t:Value}{r:Rat}{K:Nat}(h:bG w b s t r K):(∀(a:Addr) (m:Mode) (w:World),(Go.store a b m).run Tryz.prog w=stored Tryz.prog w a b m)/\(∀(a:Addr) (m:Mode) (w:World),(Go.store a s m).run Tryz.prog w=stored Tryz.prog w a s m)/\(∀(a:Addr) (m:Mode) (w:World),(Go.store a t m).run Tryz.prog w=stored Tryz.prog w a t m):=by
 obtain⟨p,A,xs,c,B,ys,d,rfl,rfl,rfl,ha,hd,hs,ht,h1,hr⟩:=h;exact⟨wu.st rfl,wu.st rfl,wu.st rfl⟩
theorem cV.st{lo:Nat}{w:World}{b s t:Value}{r:Rat}(h:cV lo w b s t r):(∀(a:Addr) (m:Mode) (w:World),(Go.store a b m).run Tryz.prog w=stored Tryz.prog w a b m)/\(∀(a:Addr) (m:Mode) (w:World),(Go.store a s m).run Tryz.prog w=stored Tryz.prog w a s m)/\(∀(a:Addr) (m:Mode) (w:World),(Go.store a t m).run Tryz.prog w=stored Tryz.prog w a t m):=by
 obtain⟨A,c,B,d,rfl,rfl,rfl,ha,hd⟩:=h;exact⟨wu.st rfl,wu.st rfl,wu.st rfl⟩
theorem dU.st{w:World}{b s:Value}{n:Int}{K:Nat}(h:dU w b s n K):(∀(a:Addr) (m:Mode) (w:World),(Go.store a b m).run Tryz.prog w=stored Tryz.prog w a b m)/\(∀(a:Addr) (m:Mode) (w:World),(Go.store a s m).run Tryz.prog w=stored Tryz.prog w a s m):=by
 obtain⟨p,A,xs,c,rfl,rfl,ha,hs,hn⟩:=h;exact⟨wu.st rfl,wu.st rfl⟩
theorem dV.st{lo:Nat}{w:World}{b s:Value}{n:Int}(h:dV lo w b s n):(∀(a:Addr) (m:Mode) (w:World),(Go.store a b m).run Tryz.prog w=stored Tryz.prog w a b m)/\(∀(a:Addr) (m:Mode) (w:World),(Go.store a s m).run Tryz.prog w=stored Tryz.prog w a s m):=by
 obtain⟨A,c,rfl,rfl,ha⟩:=h;exact⟨wu.st rfl,wu.st rfl⟩
theorem bG.cl{w:World}{b s t:Value}{r:Rat}{K:Nat}(h:bG w b s t r K):(∀cs,b= .agg cs->False)/\(∀cs,s= .agg cs->False)/\(∀cs,t= .agg cs->False):=by
 obtain⟨p,A,xs,c,B,ys,d,rfl,rfl,rfl,ha,hd,hs,ht,h1,hr⟩:=h;exact⟨(by intro _ e;cases e),(by intro _ e;cases e),(by intro _ e;cases e)⟩
theorem cV.cl{lo:Nat}{w:World}{b s t:Value}{r:Rat}(h:cV lo w b s t r):(∀cs,b= .agg cs->False)/\(∀cs,s= .agg cs->False)/\(∀cs,t= .agg cs->False):=by
 obtain⟨A,c,B,d,rfl,rfl,rfl,ha,hd⟩:=h;exact⟨(by intro _ e;cases e),(by intro _ e;cases e),(by intro _ e;cases e)⟩
theorem dU.cl{w:World}{b s:Value}{n:Int}{K:Nat}(h:dU w b s n K):(∀cs,b= .agg cs->False)/\(∀cs,s= .agg cs->False):=by
 obtain⟨p,A,xs,c,rfl,rfl,ha,hs,hn⟩:=h;exact⟨(by intro _ e;cases e),(by intro _ e;cases e)⟩
theorem dV.cl{lo:Nat}{w:World}{b s:Value}{n:Int}(h:dV lo w b s n):(∀cs,b= .agg cs->False)/\(∀cs,s= .agg cs->False):=by
 obtain⟨A,c,rfl,rfl,ha⟩:=h;exact⟨(by intro _ e;cases e),(by intro _ e;cases e)⟩
/- Contracts of integer, rational and of their references in terms of opaque values. -/
theorem yS{w:World}{b s b' s':Value}{m n:Int}{K:Nat}{q:Int}(h:dU w b s m K)(h':dU w b' s' n K)(hK:K<=1099511627776)(e:m*n=q):Calls Tryz.prog 63 #[.agg #[b,s], .agg #[b',s']] w (UG w q):=by
 obtain⟨p,A,xs,c,rfl,rfl,ha,hs,hm⟩:=h;obtain⟨p',A',xs',c',rfl,rfl,ha',hs',hm'⟩:=h';exact(yH p p' A A' xs xs' c c' w m n q K K ha ha' hs hs' hm hm' e (by omega)).mono fun _ _ h=>h.z
theorem Lu{w:World}{b s b' s':Value}{m n:Int}{K:Nat}{q:Int}(h:dU w b s m K)(h':dU w b' s' n K)(_hK:K<=1099511627776)(e:jN m n=q):Calls Tryz.prog 165 #[.agg #[b,s], .agg #[b',s']] w (pF w q):=by
 obtain⟨p,A,xs,c,rfl,rfl,ha,hs,hm⟩:=h;obtain⟨p',A',xs',c',rfl,rfl,ha',hs',hm'⟩:=h';exact(DB p p' q A A' xs xs' c c' w ha ha' (by rw[hm,hm'];exact e)).mono fun _ _ h=>h
theorem Lv{w:World}{b s:Value}{m:Int}{K:Nat}{q:Int}(h:dU w b s m K)(hK:K<=1099511627776)(e:fZ m=q):Calls Tryz.prog 32 #[.agg #[b,s]] w (pF w q):=by
 obtain⟨p,A,xs,c,rfl,rfl,ha,hs,hm⟩:=h;exact(yM p A xs c w m q ha (by omega) hm e).mono fun _ _ h=>h
theorem DR{w:World}{v q:Int}(h1: -9223372036854775808<=v)(h2:v<=9223372036854775807)(e:v=q):Calls Tryz.prog 86 #[.int .i64 v] w (UG w q):=
 (Ij v q w h1 h2 e).mono fun _ _ h=>h.z
def ZE(w:World)(q r:Int)(e:Ending)(w':World):Prop:=∃b s b' s',e= .returned (.tuple #[.agg #[b,s], .agg #[b',s'], .bool true])/\dV w.heap.size w' b s q/\dV w.heap.size w' b' s' r/\Below w.heap.size w w'
theorem jD.z{w w':World}{q r:Int}{e:Ending}(h:jD w q r e w'):ZE w q r e w':=by
 obtain⟨A,c,B,d,rfl,h1,h2,h3⟩:=h;exact⟨_,_,_,_,rfl,⟨A,c,rfl,rfl,h1⟩,⟨B,d,rfl,rfl,h2⟩,h3⟩
theorem yT{w:World}{b s t:Value}{r:Rat}{K:Nat}{q:Rat}(h:bG w b s t r K)(hK:K<=1099511627776)(e:r=q):Calls Tryz.prog 56 #[.agg #[b,s,t]] w (nV w q):=by
 obtain⟨p,A,xs,c,B,ys,d,rfl,rfl,rfl,ha,hb,hs,ht,h1,hr⟩:=h;exact(qm p A B xs ys c d w q K ha hb hs ht h1 (by omega) (hr.trans e)).mono fun _ _ h=>h.r
theorem Lw{w:World}{b s t:Value}{r:Rat}{K:Nat}{q:Rat}(h:bG w b s t r K)(hK:K<=1099511627776)(e: -r=q):Calls Tryz.prog 42 #[.agg #[b,s,t]] w (nV w q):=by
 obtain⟨p,A,xs,c,B,ys,d,rfl,rfl,rfl,ha,hb,hs,ht,h1,hr⟩:=h;exact(UF p A B xs ys c d w r q K ha hb hs ht h1 (by omega) hr e).mono fun _ _ h=>h.r
theorem fN{w:World}{b s t:Value}{r:Rat}{K:Nat}{q:Int}(h:bG w b s t r K)(_hK:K<=1099511627776)(e:fZ r.num=q):Calls Tryz.prog 50 #[.agg #[b,s,t]] w (pF w q):=by
 obtain⟨p,A,xs,c,B,ys,d,rfl,rfl,rfl,ha,hb,hs,ht,h1,hr⟩:=h;exact(sW p A B xs ys c d w r q ha hb hr e).mono fun _ _ h=>h
theorem kI{w:World}{b s t b' s' t':Value}{r r':Rat}{K:Nat}{q:Rat}(h:bG w b s t r K)(h':bG w b' s' t' r' K)(hK:K<=1099511627776)(e:r+r'=q):Calls Tryz.prog 29 #[.agg #[b,s,t], .agg #[b',s',t']] w (nV w q):=by
 obtain⟨p,A,xs,c,B,ys,d,rfl,rfl,rfl,ha,hb,hs,ht,h1,hr⟩:=h;obtain⟨p',A',xs',c',B',ys',d',rfl,rfl,rfl,ha',hb',hs',ht',h1',hr'⟩:=h';exact(UB p p' A B A' B' xs ys xs' ys' c d c' d' w r r' q K ha hb ha' hb' hs ht hs' ht' h1 (by omega) hr hr' e).mono fun _ _ h=>h.r
theorem iT{w:World}{b s t b' s' t':Value}{r r':Rat}{K:Nat}{q:Rat}(h:bG w b s t r K)(h':bG w b' s' t' r' K)(hK:K<=1099511627776)(e:r*r'=q):Calls Tryz.prog 31 #[.agg #[b,s,t], .agg #[b',s',t']] w (nV w q):=by
 obtain⟨p,A,xs,c,B,ys,d,rfl,rfl,rfl,ha,hb,hs,ht,h1,hr⟩:=h;obtain⟨p',A',xs',c',B',ys',d',rfl,rfl,rfl,ha',hb',hs',ht',h1',hr'⟩:=h';exact(UA p p' A B A' B' xs ys xs' ys' c d c' d' w r r' q K ha hb ha' hb' hs ht hs' ht' h1 (by omega) hr hr' e).mono fun _ _ h=>h.r
theorem Pw{w:World}{b s t:Value}{r:Rat}{K:Nat}{q:Rat}(h:bG w b s t r K)(hK:K<=1099511627776)(h0:r≠0)(e:r⁻¹=q):Calls Tryz.prog 117 #[.agg #[b,s,t]] w (F9 w q):=by
 obtain⟨p,A,xs,c,B,ys,d,rfl,rfl,rfl,ha,hb,hs,ht,h1,hr⟩:=h;exact(Pv p A B xs ys c d w r q K ha hb hs ht h1 (by omega) hr h0 e).mono fun _ _ h=>h.r
theorem Lx{w:World}{b s t:Value}{r:Rat}{K:Nat}{q:Rat}(h:bG w b s t r K)(hK:K<=1099511627776)(e:r=q):Calls Tryz.prog 33 #[.agg #[b,s,t]] w (nV w q):=by
 obtain⟨p,A,xs,c,B,ys,d,rfl,rfl,rfl,ha,hb,hs,ht,h1,hr⟩:=h;exact(Lr p A B xs ys c d w q K ha hb hs ht (by omega) (hr.trans e)).mono fun _ _ h=>h.r
theorem Ga{w:World}:Calls Tryz.prog 9 #[] w (nV w 0):=(F6 w).mono fun _ _ h=>h.r
theorem Ly{w:World}{n d:Int}{q:Rat}(h1: -9223372036854775808<=n)(h2:n<=9223372036854775807)(d1:1<=d)(d2:d<=9223372036854775807)(e:mkRat n d.toNat=q):Calls Tryz.prog 35 #[.int .i64 n, .int .i64 d] w (nV w q):=
 (ZC n d w q h1 h2 d1 d2 e).mono fun _ _ h=>h.r
/- Contracts of cmp.Compare, rational.Compare, Sub. -/
theorem Gb(x:Int)(w:World):Calls Tryz.prog 68 #[.int .i64 x] w (Zk w false):=by
 go_enter Tryz.func68,Tryz.ntmps68
 go_wp2
 go_ret;exact⟨by simp,aq _ _⟩
theorem Gc(x:Int)(w:World):Calls Tryz.prog 170 #[.int .i64 x] w (Zk w false):=by
 go_enter Tryz.func170,Tryz.ntmps170
 go_wp2
 go_ret;exact⟨by simp,aq _ _⟩
theorem ZF{x y q:Int}{w:World}(e:jN x y=q):Calls Tryz.prog 81 #[.int .i64 x, .int .i64 y] w (pF w q):=by
 unfold jN at e;go_enter Tryz.func81,Tryz.ntmps81
 go_wp2_with fail
 refine(Gb x _).mono ?_;rintro e w1 ⟨rfl,g1⟩;go_wp2_with fail
 refine(Gb y _).mono ?_;rintro e w2 ⟨rfl,g2⟩;have hb:=g1.trans (g2.mono g1.size)
 by_cases h1:x<y
 ·rw[if_pos h1]at e;go_wp2_with fail
  go_ret;exact⟨by rw[<-e];rfl,hb⟩
 ·rw[if_neg h1]at e
  by_cases h2:y<x
  ·rw[if_pos h2]at e;go_wp2_with fail
   go_ret;exact⟨by rw[<-e];rfl,hb⟩
  ·rw[if_neg h2]at e;go_wp2_with fail
   go_ret;exact⟨by rw[<-e];rfl,hb⟩
theorem ZG{x y q:Int}{w:World}(e:jN x y=q):Calls Tryz.prog 164 #[.int .i64 x, .int .i64 y] w (pF w q):=by
 unfold jN at e;go_enter Tryz.func164,Tryz.ntmps164
 go_wp2_with fail
 refine(Gc x _).mono ?_;rintro e w1 ⟨rfl,g1⟩;go_wp2_with fail
 refine(Gc y _).mono ?_;rintro e w2 ⟨rfl,g2⟩;have hb:=g1.trans (g2.mono g1.size)
 by_cases h1:x<y
 ·rw[if_pos h1]at e;go_wp2_with fail
  go_ret;exact⟨by rw[<-e];rfl,hb⟩
 ·rw[if_neg h1]at e
  by_cases h2:y<x
  ·rw[if_pos h2]at e;go_wp2_with fail
   go_ret;exact⟨by rw[<-e];rfl,hb⟩
  ·rw[if_neg h2]at e;go_wp2_with fail
   go_ret;exact⟨by rw[<-e];rfl,hb⟩
def wv(r s:Rat):Int:=if r<s then -1 else if s<r then 1 else 0
theorem mk_pos{n:Int}{d:Nat}(h:d≠0):0<mkRat n d↔0<n:=by
 rw[Rat.lt_iff]
 show 0* ((mkRat n d).den:Int)< (mkRat n d).num*1↔_
 rw[Int.zero_mul,Int.mul_one];have:=xG (n:=n) h;unfold fZ at this;split at this<;>(try split at this)<;>(try split at this)<;>(try split at this)<;>omega
theorem RQ{n m:Int}{d e:Nat}(h1:d≠0)(h2:e≠0):mkRat n d<mkRat m e↔n* (e:Int)<m* (d:Int):=by
 have k:mkRat m e-mkRat n d=mkRat (m* (d:Int) -n* (e:Int)) (e*d):=by
  rw[<-Rat.divInt_ofNat,<-Rat.divInt_ofNat,Rat.divInt_sub_divInt _ _ (by omega) (by omega),<-Int.natCast_mul,Rat.divInt_ofNat]
 rw[Rat.lt_iff_sub_pos,k,mk_pos (Nat.mul_ne_zero h2 h1)];omega
theorem tj{n m:Int}{d e:Nat}(h1:d≠0)(h2:e≠0):wv (mkRat n d) (mkRat m e)=jN (n* (e:Int)) (m* (d:Int)):=by
 unfold wv jN;simp only[RQ h1 h2,RQ h2 h1]
theorem DS{r s:Rat}(h:fZ r.num<fZ s.num):r<s:=by
 rw[Rat.lt_iff];have a:0< (r.den:Int):=by have:=r.den_nz;omega
 have b:0< (s.den:Int):=by have:=s.den_nz;omega
 unfold fZ at h
 by_cases h1:r.num<0
 ·have k1:r.num* (s.den:Int)<0:=Int.mul_neg_of_neg_of_pos h1 b
  by_cases h2:s.num<0
  ·rw[if_pos h1,if_pos h2]at h;omega
  ·have k2:0<=s.num* (r.den:Int):=Int.mul_nonneg (by omega) (by omega);omega
 ·rw[if_neg h1]at h
  by_cases h3:0<r.num
  ·rw[if_pos h3]at h;split at h<;>(try split at h)<;>omega
  ·have h4:r.num=0:=by omega
   rw[if_neg h3]at h
   by_cases h2:s.num<0
   ·rw[if_pos h2]at h;omega
   ·by_cases h5:0<s.num
    ·rw[h4,Int.zero_mul];exact Int.mul_pos h5 a
    ·rw[if_neg h2,if_neg h5]at h;omega
theorem Lz{r s:Rat}(h:fZ r.num≠fZ s.num):wv r s=jN (fZ r.num) (fZ s.num):=by
 rcases Int.lt_or_gt_of_ne h with h1|h1
 ·unfold wv jN;rw[if_pos (DS h1),if_pos h1]
 ·unfold wv jN;rw[if_neg (Rat.not_lt.2 (Rat.le_of_lt (DS h1))),if_pos (DS h1),if_neg (by omega),if_pos h1]
theorem Sm.cmp{p q:Bool}{xs ys us vs:List Nat}{n d m e:Int}(h:Sm p xs ys n d)(k:Sm q us vs m e):(-4611686014132420609<=n*e/\n*e<=4611686014132420609)/\(-4611686014132420609<=m*d/\m*d<=4611686014132420609)/\jN (n*e) (m*d)=wv (rv p xs ys) (rv q us vs):=by
 obtain⟨a1,a2,_,_⟩:=Sm.add h k;obtain⟨h1,h2,h3,h4,h5⟩:=h;obtain⟨k1,k2,k3,k4,k5⟩:=k;refine⟨a1,a2,?_⟩;rw[<-h5,<-k5,tj (by omega) (by omega),show((d.toNat:Nat):Int)=d by omega,show((e.toNat:Nat):Int)=e by omega]
def SmR(r:Rat)(n d:Int):Prop:= -2147483647<=n/\n<=2147483647/\1<=d/\d<=2147483647/\mkRat n d.toNat=r
theorem Ge{w:World}{b s t:Value}{r:Rat}{K:Nat}(h:bG w b s t r K):Calls Tryz.prog 57 #[.agg #[b,s,t]] w (fun e w'=>∃n d o,e= .returned (.tuple #[.int .i64 n, .int .i64 d, .bool o])/\(o=true->SmR r n d)/\Below w.heap.size w w'):=by
 obtain⟨p,A,xs,c,B,ys,d,rfl,rfl,rfl,ha,hb,hs,ht,h1,hr⟩:=h;refine(mz p A B xs ys c d w ha hb).mono ?_;rintro e w1 ⟨n1,d1,o1,rfl,Wl,b1⟩;refine⟨n1,d1,o1,rfl,fun ho=>?_,b1⟩;obtain⟨a1,a2,a3,a4,a5⟩:=Wl ho;exact⟨a1,a2,a3,a4,a5.trans hr⟩
theorem tA{w:World}{b s t:Value}{r:Rat}{K:Nat}(h:bG w b s t r K):Calls Tryz.prog 59 #[.agg #[b,s,t]] w (fun e w'=>∃b' s' t' n,∃D:Nat,e= .returned (.tuple #[.agg #[b',s'],t'])/\dU w' b' s' n K/\dU w' (.bool false) t' (D:Int) K/\D≠0/\mkRat n D=r/\Below w.heap.size w w'):=by
 obtain⟨p,A,xs,c,B,ys,d,rfl,rfl,rfl,ha,hb,hs,ht,h1,hr⟩:=h;refine(mU p A B xs ys c d w r K ha hb hs ht h1 hr).mono ?_;rintro e w2 ⟨q,A',xs',c',B',ys',d',rfl,la,lb,hs',ht',hne,Pr,b2⟩;exact⟨_,_,_,iv q xs',val ys',rfl,⟨q,A',xs',c',rfl,rfl,la,hs',rfl⟩,⟨false,B',ys',d',rfl,rfl,lb,ht',rfl⟩,hne,Pr,b2⟩
theorem SmR.cmp{r s:Rat}{n d m e:Int}(h:SmR r n d)(k:SmR s m e):(-4611686014132420609<=n*e/\n*e<=4611686014132420609)/\(-4611686014132420609<=m*d/\m*d<=4611686014132420609)/\jN (n*e) (m*d)=wv r s:=by
 obtain⟨h1,h2,h3,h4,h5⟩:=h;obtain⟨k1,k2,k3,k4,k5⟩:=k;obtain⟨a1,a2⟩:=iJ (a:=n) (b:=e) (A:=2147483647) (B:=2147483647) (by omega) h2 (by omega) k4 (by omega) (by omega);obtain⟨c1,c2⟩:=iJ (a:=m) (b:=d) (A:=2147483647) (B:=2147483647) (by omega) k2 (by omega) h4 (by omega) (by omega);refine⟨⟨by omega,by omega⟩,⟨by omega,by omega⟩,?_⟩;rw[<-h5,<-k5,tj (by omega) (by omega),show((d.toNat:Nat):Int)=d by omega,show((e.toNat:Nat):Int)=e by omega]
theorem UI{w:World}{b s t b' s' t':Value}{r r':Rat}{K:Nat}{q:Int}(h:bG w b s t r K)(h':bG w b' s' t' r' K)(hK:K<=549755813888)(e:wv r r'=q):Calls Tryz.prog 147 #[.agg #[b,s,t], .agg #[b',s',t']] w (pF w q):=by
 obtain⟨W,hW,bC,i0,i1⟩:∃W,(w.alloc (.cells #[b,s,t] 45)).alloc (.cells #[b',s',t'] 45)=W/\Below w.heap.size w W/\cK W (w.heap.size) b s t/\cK W (w.heap.size+1) b' s' t':=⟨_,rfl,((aq _ _).alloc (by simp<;>omega) _).alloc (by simp<;>omega) _,by refine⟨?_,?_,?_,?_,?_,?_⟩<;>go_simp,by refine⟨?_,?_,?_,?_,?_,?_⟩<;>go_simp⟩;have wU:=i0.lt;have x0:=i0.c0;have x1:=i0.c1;have x2:=i0.c2;have CZ:=i1.lt;have y0:=i1.c0;have y1:=i1.c1;have y2:=i1.c2;obtain⟨s1,es1⟩:=xeq (fZ r.num);obtain⟨s2,es2⟩:=xeq (fZ r'.num);have HW:=ah hW;have E:=ah e;have ES1:=ah es1;have ES2:=ah es2;clear hW e es1 es2;replace h:=h.keep bC;replace h':=h'.keep bC;have kQ:True:=trivial;have pT:True:=trivial;go_enter Tryz.func147,Tryz.ntmps147
 go_wp2_with fail
 rw[HW.out];have bB:Below W.heap.size W W.drew:=(aq _ _).drew
 go_region_held3 (fun w'=>w'.cell? ⟨w.heap.size,0,none⟩=some b/\w'.cell? ⟨w.heap.size,1,none⟩=some s/\w'.cell? ⟨w.heap.size,2,none⟩=some t/\w'.cell? ⟨w.heap.size+1,0,none⟩=some b'/\w'.cell? ⟨w.heap.size+1,1,none⟩=some s'/\w'.cell? ⟨w.heap.size+1,2,none⟩=some t')
  (first|(with_reducible exact⟨bn bB wU x0,bn bB wU x1,bn bB wU x2,bn bB CZ y0,bn bB CZ y1,bn bB CZ y2⟩)|go_keep)
  (first
    |(go_at_call 50;have _t:=kQ;clear kQ;refine(fN (h.keep bB) (by omega) ES1.out).mono ?_;rintro e v0 ⟨rfl,g0⟩;replace bB:=bB.trans (g0.mono bB.size))
    |(go_at_call 50;have _t:=pT;clear pT;refine(fN (h'.keep bB) (by omega) ES2.out).mono ?_;rintro e v1 ⟨rfl,g1⟩;replace bB:=bB.trans (g1.mono bB.size)))
 rename_i aU
 clear aU
 by_cases hs:s1=s2
 ·replace h:=h.keep bB;replace h':=h'.keep bB;replace i0:=i0.keep bB;replace i1:=i1.keep bB;have hb:=bC.trans (bB.mono bC.size);clear bB bC x0 x1 x2 y0 y1 y2;subst hs;have x0:=i0.c0;have x1:=i0.c1;have x2:=i0.c2;have j0:=i0.lt;go_wp2_with fail
  refine(Ge h).mono ?_;rintro e w3 ⟨n3,d3,o3,rfl,sm3,g3⟩;have SM3:=ah sm3;replace h:=h.keep g3;replace h':=h'.keep g3;replace i0:=i0.keep g3;replace i1:=i1.keep g3;replace hb:=hb.trans (g3.mono hb.size);clear sm3 x0 x1 x2 g3;have y0:=i1.c0;have y1:=i1.c1;have y2:=i1.c2;have j1:=i1.lt;go_wp2_with fail
  refine(Ge h').mono ?_;rintro e w4 ⟨n4,d4,o4,rfl,sm4,g4⟩;have SM4:=ah sm4;replace h:=h.keep g4;replace h':=h'.keep g4;replace i0:=i0.keep g4;replace i1:=i1.keep g4;replace hb:=hb.trans (g4.mono hb.size);clear sm4 y0 y1 y2 g4;have x0:=i0.c0;have x1:=i0.c1;have x2:=i0.c2;have y0:=i1.c0;have y1:=i1.c1;have y2:=i1.c2;have j0:=i0.lt;have j1:=i1.lt
  cases o3 with
  |false=>
   go_wp2_with fail
   refine(tA h).mono ?_;rintro e w5 ⟨b5,s5,t5,n5,D5,rfl,m5,d5,z5,r5,g5⟩;obtain⟨q5a,q5b⟩:=m5.st;have c5:=d5.cl.2;have bo:=bI w5 (.cells #[b5,s5] 43);have v5:=tJ.new w5 b5 s5;obtain⟨w6,iB⟩:=xeq (w5.alloc (.cells #[b5,s5] 43));rw[iB]at v5 bo;have b46:=g5.trans (bo.mono g5.size);replace m5:=m5.keep bo;replace d5:=d5.keep bo;replace h':=h'.keep b46;replace i1:=i1.keep b46;replace hb:=hb.trans (b46.mono hb.size);clear x0 x1 x2 bo b46 g5 i0 h y0 y1 y2;have y0:=i1.c0;have y1:=i1.c1;have y2:=i1.c2;have j1':=i1.lt;go_wp2_with fail
   refine(tA h').mono ?_;rintro e w7 ⟨b7,s7,t7,n7,D7,rfl,m7,d7,z7,r7,g7⟩;obtain⟨q7a,q7b⟩:=m7.st;have c7:=d7.cl.2;have bo:=bI w7 (.cells #[b7,s7] 43);have v7:=tJ.new w7 b7 s7;obtain⟨w8,Af⟩:=xeq (w7.alloc (.cells #[b7,s7] 43));rw[Af]at v7 bo;have b68:=g7.trans (bo.mono g7.size);replace m7:=m7.keep bo;replace d7:=d7.keep bo;replace m5:=m5.keep b68;replace d5:=d5.keep b68;replace v5:=v5.keep b68;replace hb:=hb.trans (b68.mono hb.size);clear bo b68 g7 i1 h' y0 y1 y2 iB;obtain⟨N,eN⟩:=xeq (n5* (D7:Int):Int);obtain⟨M,eM⟩:=xeq (n7* (D5:Int):Int);have zN:CS N (K+K):=gM m5.sz d7.sz eN (by omega);have zM:CS M (K+K):=gM m7.sz d5.sz eM (by omega);have eq:jN N M=q:=by rw[<-eN,<-eM,<-tj z5 z7,r5,r7];exact E.out
   have EN:=ah eN;have EM:=ah eM;have EQ:=ah eq;clear eN eM eq r5 r7 E;have jv5:=v5.lt;have jv7:=v7.lt;have x0:=v5.c0;have x1:=v5.c1;have y0:=v7.c0;have y1:=v7.c1;have kQ:True:=trivial;have pT:True:=trivial;have tk2:True:=trivial;go_wp2_with fail
   try rw[Af]
   clear Af;have bB:Below w8.heap.size w8 w8.drew:=(aq _ _).drew
   go_region_held3 (fun w'=>w'.cell? ⟨w5.heap.size,0,none⟩=some b5/\w'.cell? ⟨w5.heap.size,1,none⟩=some s5/\w'.cell? ⟨w7.heap.size,0,none⟩=some b7/\w'.cell? ⟨w7.heap.size,1,none⟩=some s7)
    (first|(with_reducible exact⟨bn bB jv5 x0,bn bB jv5 x1,bn bB jv7 y0,bn bB jv7 y1⟩)|go_keep)
    (first
      |(go_at_call 63;have _t:=kQ;clear kQ;refine(yS (m5.keep bB) (d7.keep bB) (by omega) EN.out).mono ?_;rintro e v0 ⟨b0,s0,rfl,o0,g0⟩;replace bB:=bB.trans (g0.mono bB.size))
      |(go_at_call 63;have _t:=pT;clear pT;refine(yS (m7.keep bB) (d5.keep bB) (by omega) EM.out).mono ?_;rintro e v1 ⟨b1,s1,rfl,o1,g1⟩;replace o0:=o0.keep g1;replace bB:=bB.trans (g1.mono bB.size))
      |(go_at_call 165;have _t:=tk2;clear tk2;refine(Lu (o0.is zN) (o1.is zM) (by omega) EQ.out).mono ?_;rintro e v2 ⟨rfl,g2⟩;replace bB:=bB.trans (g2.mono bB.size)))
   rename_i aU
   clear aU;go_wp2_with fail
   go_ret;exact⟨rfl,hb.trans (bB.mono hb.size)⟩
  |true=>
   cases o4 with
   |false=>
    go_wp2_with fail
    refine(tA h).mono ?_;rintro e w5 ⟨b5,s5,t5,n5,D5,rfl,m5,d5,z5,r5,g5⟩;obtain⟨q5a,q5b⟩:=m5.st;have c5:=d5.cl.2;have bo:=bI w5 (.cells #[b5,s5] 43);have v5:=tJ.new w5 b5 s5;obtain⟨w6,iB⟩:=xeq (w5.alloc (.cells #[b5,s5] 43));rw[iB]at v5 bo;have b46:=g5.trans (bo.mono g5.size);replace m5:=m5.keep bo;replace d5:=d5.keep bo;replace h':=h'.keep b46;replace i1:=i1.keep b46;replace hb:=hb.trans (b46.mono hb.size);clear x0 x1 x2 bo b46 g5 i0 h y0 y1 y2;have y0:=i1.c0;have y1:=i1.c1;have y2:=i1.c2;have j1':=i1.lt;go_wp2_with fail
    refine(tA h').mono ?_;rintro e w7 ⟨b7,s7,t7,n7,D7,rfl,m7,d7,z7,r7,g7⟩;obtain⟨q7a,q7b⟩:=m7.st;have c7:=d7.cl.2;have bo:=bI w7 (.cells #[b7,s7] 43);have v7:=tJ.new w7 b7 s7;obtain⟨w8,Af⟩:=xeq (w7.alloc (.cells #[b7,s7] 43));rw[Af]at v7 bo;have b68:=g7.trans (bo.mono g7.size);replace m7:=m7.keep bo;replace d7:=d7.keep bo;replace m5:=m5.keep b68;replace d5:=d5.keep b68;replace v5:=v5.keep b68;replace hb:=hb.trans (b68.mono hb.size);clear bo b68 g7 i1 h' y0 y1 y2 iB;obtain⟨N,eN⟩:=xeq (n5* (D7:Int):Int);obtain⟨M,eM⟩:=xeq (n7* (D5:Int):Int);have zN:CS N (K+K):=gM m5.sz d7.sz eN (by omega);have zM:CS M (K+K):=gM m7.sz d5.sz eM (by omega);have eq:jN N M=q:=by rw[<-eN,<-eM,<-tj z5 z7,r5,r7];exact E.out
    have EN:=ah eN;have EM:=ah eM;have EQ:=ah eq;clear eN eM eq r5 r7 E;have jv5:=v5.lt;have jv7:=v7.lt;have x0:=v5.c0;have x1:=v5.c1;have y0:=v7.c0;have y1:=v7.c1;have kQ:True:=trivial;have pT:True:=trivial;have tk2:True:=trivial;go_wp2_with fail
    try rw[Af]
    clear Af;have bB:Below w8.heap.size w8 w8.drew:=(aq _ _).drew
    go_region_held3 (fun w'=>w'.cell? ⟨w5.heap.size,0,none⟩=some b5/\w'.cell? ⟨w5.heap.size,1,none⟩=some s5/\w'.cell? ⟨w7.heap.size,0,none⟩=some b7/\w'.cell? ⟨w7.heap.size,1,none⟩=some s7)
     (first|(with_reducible exact⟨bn bB jv5 x0,bn bB jv5 x1,bn bB jv7 y0,bn bB jv7 y1⟩)|go_keep)
     (first
       |(go_at_call 63;have _t:=kQ;clear kQ;refine(yS (m5.keep bB) (d7.keep bB) (by omega) EN.out).mono ?_;rintro e v0 ⟨b0,s0,rfl,o0,g0⟩;replace bB:=bB.trans (g0.mono bB.size))
       |(go_at_call 63;have _t:=pT;clear pT;refine(yS (m7.keep bB) (d5.keep bB) (by omega) EM.out).mono ?_;rintro e v1 ⟨b1,s1,rfl,o1,g1⟩;replace o0:=o0.keep g1;replace bB:=bB.trans (g1.mono bB.size))
       |(go_at_call 165;have _t:=tk2;clear tk2;refine(Lu (o0.is zN) (o1.is zM) (by omega) EQ.out).mono ?_;rintro e v2 ⟨rfl,g2⟩;replace bB:=bB.trans (g2.mono bB.size)))
    rename_i aU
    clear aU;go_wp2_with fail
    go_ret;exact⟨rfl,hb.trans (bB.mono hb.size)⟩
   |true=>
    obtain⟨a1,a2,a3⟩:=(SM3.out rfl).cmp (SM4.out rfl);obtain⟨P,eP⟩:=xeq (n3*d4);obtain⟨Q,eQ⟩:=xeq (n4*d3);rw[eP]at a1;rw[eQ]at a2;rw[eP,eQ]at a3;have f1:wrap64 (n3*d4)=P:=by rw[eP];exact IntWalk.wrap64_in _ ⟨by omega,by omega⟩
    have f2:wrap64 (n4*d3)=Q:=by rw[eQ];exact IntWalk.wrap64_in _ ⟨by omega,by omega⟩
    have HA:=ah (a3.trans E.out);clear eP eQ a3;go_wp2_with fail
    refine(ZG HA.out).mono ?_;rintro e w5 ⟨rfl,g5⟩;go_wp2_with fail
    go_ret;exact⟨rfl,hb.trans (g5.mono hb.size)⟩
 ·have e2:jN s1 s2=q:=by
   rw[<-ES1.out,<-ES2.out,<-Lz (by rw[ES1.out,ES2.out];exact hs)];exact E.out
  have E2:=ah e2;clear e2;go_wp2_with fail
  refine(ZF E2.out).mono ?_;rintro e w5 ⟨rfl,g5⟩;have hb:=bC.trans (bB.mono bC.size);go_wp2_with fail
  go_ret;exact⟨rfl,hb.trans (g5.mono hb.size)⟩
/- A region that draws its order, by an invariant: what holds when a set of its operations is done; each operation is shown once. -/
def CT(L:Nat->Bool)(i:Nat):Nat->Bool:=fun j=>if j=i then true else L j
theorem jP{L:Nat->Bool}{i j:Nat}(h:j≠i):CT L i j=L j:=if_neg h
theorem qZ{L:Nat->Bool}{i:Nat}:CT L i i=true:=if_pos rfl
def pI(md:Region.Mode)(ops:Array Oper):List (List Nat):=ops.toList.map fun o=>(o.after.toList.filter (Region.binds md)).map (·.on)
def Steps(P:Program)(ops:Array Oper)(Q:Exit->Act->World->Prop)(I:(Nat->Bool)->Act->World->Prop):Nat->List (List Nat)->Prop
 |_,[]=>True
 |i,d::ds=>(∀L a w,I L a w->L i=false->(∀j∈d,L j=true)->wpOp P ops Q i (I (CT L i)) a w)/\Steps P ops Q I (i+1) ds
theorem Steps.at_{P:Program}{ops:Array Oper}{Q:Exit->Act->World->Prop}{I:(Nat->Bool)->Act->World->Prop}:∀(k:Nat) (D:List (List Nat)),Steps P ops Q I k D->∀i d,D[i]?=some d->∀L a w,I L a w->L (k+i)=false->(∀j∈d,L j=true)->wpOp P ops Q (k+i) (I (CT L (k+i))) a w
 |_,[],_,_,_,h=>by simp at h
 |k,d0::ds,hs,0,d,h=>by
  simp at h;subst h;exact hs.1
 |k,d0::ds,hs,i+1,d,h=>by
  have h':=Steps.at_ (k+1) ds hs.2 i d (by simpa using h);rw[show k+ (i+1)=k+1+i by omega];exact h'
theorem rR{l:Array Bool}{i:Nat}(h:l.getD i true=false):((l.setIfInBounds i true).toList.filter (fun b=>!b)).length< (l.toList.filter (fun b=>!b)).length:=by
 obtain⟨l⟩:=l
 have hi:l[i]?=some false:=by
  simp only[Array.getD_eq_getD_getElem?,List.getElem?_toArray]at h
  cases hl:l[i]? with
  |none=>rw[hl]at h;simp at h
  |some b=>rw[hl]at h;simp at h;rw[h]
 simp only[List.setIfInBounds_toArray];clear h
 induction l generalizing i with
 |nil=>simp at hi
 |cons b l ih=>
  cases i with
  |zero=>simp at hi;subst hi;simp
  |succ i=>
   have:=ih (i:=i) (by simpa using hi)
   cases b<;>simp_all
theorem Bc{md:Region.Mode}{ops:Array Oper}{i:Nat}{o:Oper}(h:ops[i]?=some o):(pI md ops)[i]?=some ((o.after.toList.filter (Region.binds md)).map (·.on)):=by
 simp[pI,h]
def rS:Nat->List (List Nat)->Bool
 |_,[]=>true
 |i,d::ds=>d.all (·<i) && rS (i+1) ds
theorem Bd:∀(k:Nat) (D:List (List Nat)),rS k D=true->∀i d,D[i]?=some d->∀j∈d,j<k+i
 |_,[],_,_,_,h=>by simp at h
 |k,d0::ds,hb,0,d,h=>by
  simp at h;subst h;simp[rS]at hb;exact hb.1
 |k,d0::ds,hb,i+1,d,h=>by
  simp[rS]at hb;have:=Bd (k+1) ds hb.2 i d (by simpa using h);intro j hj;have:=this j hj;omega
theorem Ik{P:Program}{ops:Array Oper}{Q:Exit->Act->World->Prop}{md:Region.Mode}{D:List (List Nat)}(hD:pI md ops=D)(hdn:rS 0 D=true){I:(Nat->Bool)->Act->World->Prop}
 (hdone:∀L a w,(∀i,i<D.length->L i=true)->I L a w->Q .normal a w) (hs:Steps P ops Q I 0 D):
 ∀(fuel:Nat) (l:Array Bool) (a:Act) (w:World),l.size=ops.size->(l.toList.filter (fun b=>!b)).length<=fuel->I (fun i=>l.getD i false) a w->wpAny P md ops Q fuel l a w:=by
 have hlen:D.length=ops.size:=by rw[<-hD];simp[pI]
 have ake:∀(l:Array Bool),l.size=ops.size->Region.ready md ops l=[]->∀i,i<ops.size->l.getD i false=true:=by
  intro l hl hr i
  induction i using Nat.strongRecOn with
  |_ i ih=>
   intro hi
   cases hb:l.getD i false with
   |true=>rfl
   |false=>
    have ho:ops[i]?=some ops[i]:=Array.getElem?_eq_getElem hi
    have hm:i∈Region.ready md ops l:=by
     rw[mem_ready];refine⟨?_,ops[i],ho,fun e he hbd=>?_⟩
     ·rw[<-hb];simp[Array.getD,show i<l.size by omega]
     ·have hd:=Bc (md:=md) ho;rw[hD]at hd;have hj:e.on∈((ops[i].after.toList.filter (Region.binds md)).map (·.on)):=List.mem_map.2 ⟨e,List.mem_filter.2 ⟨by simpa using he,hbd⟩,rfl⟩;have hlt:=Bd 0 D hdn i _ hd _ hj;exact ih e.on (by omega) (by omega)
    rw[hr]at hm;simp at hm
 have hfin:∀(l:Array Bool) (a:Act) (w:World),l.size=ops.size->I (fun i=>l.getD i false) a w->Region.ready md ops l=[]->Q .normal a w:=by
  intro l a w hl hI hr;exact hdone _ a w (fun i hi=>ake l hl hr i (by omega)) hI
 intro fuel
 induction fuel with
 |zero=>
  intro l a w hl hc hI
  have hr:Region.ready md ops l=[]:=by
   refine List.eq_nil_iff_forall_not_mem.2 fun i hi=>?_;have h:=rR (mem_ready.1 hi).1;omega
  exact⟨hr,hfin l a w hl hI hr⟩
 |succ fuel ih=>
  intro l a w hl hc hI;refine⟨hfin l a w hl hI,fun i hi=>?_⟩;obtain⟨h0,o,ho,ZH⟩:=mem_ready.1 hi;have hlt:=rR h0
  have hil:i<l.size:=by
   rcases aN i l.size with h|h
   ·exact h
   ·simp[Array.getD,show¬i<l.size by omega]at h0
  have hd:=Bc (md:=md) ho;rw[hD]at hd
  have hw:=Steps.at_ 0 D hs i _ hd (fun i=>l.getD i false) a w hI (by
   rw[Nat.zero_add];simp only[Array.getD,dif_pos hil]at h0⊢;exact h0) (by
   intro j hj;obtain⟨e,he,rfl⟩:=List.mem_map.1 hj;obtain⟨Yh,he2⟩:=List.mem_filter.1 he;exact ZH e (by simpa using Yh) he2)
  rw[Nat.zero_add]at hw;refine wpOp_mono (fun a' w' hI'=>ih _ a' w' (by simpa using hl) (by omega) ?_) hw
  have e:CT (fun i=>l.getD i false) i=fun j=>(l.setIfInBounds i true).getD j false:=by
   funext j
   unfold CT
   by_cases hj:j=i
   ·subst hj;rw[if_pos rfl];simp[Array.getD,hil]
   ·rw[if_neg hj,getD_set_ne false (fun h=>hj h.symm)]
  rw[<-e];exact hI'
theorem oW{P:Program}{id:Nat}{ops:Array Oper}{Q:Exit->Act->World->Prop}{a:Act}{w:World}(hm:P.follows .mixedOrders=true)(D:List (List Nat))(hD:pI .any ops=D)(hdn:rS 0 D=true)(I:Act->(Nat->Bool)->Act->World->Prop)
 (h0:∀fa,I fa (fun _=>false) fa w.drew) (hdone:∀L a' w,(∀i,i<D.length->L i=true)->I a L a' w->Q .normal a' w) (hs:Steps P ops Q (I a) 0 D):
 (Code.region id ops true).wp P Q a w:=by
 refine wp_region_any hm ?_;refine Ik hD hdn hdone hs _ _ _ _ (by simp) ?_ ?_
 ·exact ay (List.length_filter_le _ _) (by simp)
 ·have e:(fun i=>(Array.replicate ops.size false).getD i false)=fun _=>false:=by
   funext i
   simp[Array.getD]
  rw[e];exact h0 a
/- Contracts of reference 03: Sign, den, Neg, Mul, Equal, Whole; rational.Sub, FromInt, Min, Max. -/
theorem Sz.add{r s t:Rat}{k j:Nat}(h:Sz r k)(h2:Sz s k)(e:r+s=t)(hj:k+k+1<=j):Sz t j:=by
 have hm:r+s=mkRat (r.num* (s.den:Int)+s.num* (r.den:Int)) (r.den*s.den):=Rat.add_def' r s;rw[<-e,hm];constructor
 ·refine ay (bN (gN _ _)) ?_;have z1:(limbs (r.num* (s.den:Int)).natAbs).length<=k+k:=gM h.1 (n:=(s.den:Int)) (by rw[Int.natAbs_natCast];exact h2.2) rfl (aj _);have z2:(limbs (s.num* (r.den:Int)).natAbs).length<=k+k:=gM h2.1 (n:=(r.den:Int)) (by rw[Int.natAbs_natCast];exact h.2) rfl (aj _);exact sR z1 z2 rfl (by omega) (by omega)
 ·refine ay (bN (gO _ (Nat.mul_ne_zero r.den_nz s.den_nz))) ?_;exact oH h.2 h2.2 rfl (by omega)
theorem Sz.mul{r s t:Rat}{k j:Nat}(h:Sz r k)(h2:Sz s k)(e:r*s=t)(hj:k+k<=j):Sz t j:=by
 have hm:r*s=mkRat (r.num*s.num) (r.den*s.den):=Rat.mul_def' r s;rw[<-e,hm];constructor
 ·refine ay (bN (gN _ _)) ?_;exact gM h.1 h2.1 rfl hj
 ·refine ay (bN (gO _ (Nat.mul_ne_zero r.den_nz s.den_nz))) ?_;exact oH h.2 h2.2 rfl hj
theorem Sz.neg{r t:Rat}{k:Nat}(h:Sz r k)(e: -r=t):Sz t k:=by
 rw[<-e];unfold Sz;rw[Rat.neg_num,Rat.neg_den,Int.natAbs_neg];exact h
theorem Sz.inv{r t:Rat}{k:Nat}(h:Sz r k)(e:r⁻¹=t):Sz t k:=by
 by_cases h0:r=0
 ·rw[<-e,h0,Rat.inv_zero];rw[h0]at h;exact h
 ·obtain⟨_,a2,a3⟩:=xH h0;rw[<-e];unfold Sz;rw[a2,a3];exact⟨h.2,h.1⟩
theorem CS.neg{n m:Int}{k:Nat}(h:CS n k)(e: -n=m):CS m k:=by rw[<-e];unfold CS;rw[Int.natAbs_neg];exact h
theorem Be{w:World}{ax sC az:Value}{ra:Rat}{K:Nat}{q:Int}(ha:bG w ax sC az ra K)(hK:K<=1099511627776)(e:fZ ra.num=q):Calls Tryz.prog 11 #[.agg #[ax,sC,az]] w (pF w q):=by
 obtain⟨W,hW,bC,i0⟩:∃W,w.alloc (.cells #[ax,sC,az] 45)=W/\Below w.heap.size w W/\cK W (w.heap.size) ax sC az:=⟨_,rfl,(aq _ _).alloc (by simp<;>omega) _,by refine⟨?_,?_,?_,?_,?_,?_⟩<;>go_simp⟩;have wU:=i0.lt;have x00:=i0.c0;have x01:=i0.c1;have x02:=i0.c2;have HW:=ah hW;clear hW;replace ha:=ha.keep bC;have za:=ha.sz;obtain⟨r1,er1⟩:=xeq ra;have e1:fZ r1.num=q:=by rw[<-er1];exact e
 have z1:Sz r1 K:=by rw[<-er1];exact za
 clear e za;have ER1:=ah er1;clear er1;have E1:=ah e1;clear e1;have F0:=Ln;go_enter Tryz.func11,Tryz.ntmps11
 go_wp2_with fail
 rw[HW.out];refine(Lx ha hK ER1.out).mono ?_;rintro e w1 ⟨b1,s1,t1,rfl,o1,g1⟩;go_wp2_with fail
 refine(Lv (o1.num.is z1.num) (by omega) E1.out).mono ?_;rintro e w2 ⟨rfl,g2⟩;go_wp2_with fail
 go_ret;exact⟨rfl,bC.trans ((g1.trans (g2.mono g1.size)).mono bC.size)⟩
/- Contracts of rational.Sub, FromInt, Min, Max; reference 03: Sub, Compare, Canonical, Ceil. -/
theorem fk{K:Nat}(h:1<=K):Sz 0 K:=⟨by show(limbs 0).length<=_;rw[bM];exact aF _,by show(limbs 1).length<=_;rw[mS];exact h⟩
theorem nW{K:Nat}(h:1<=K):Sz 1 K:=⟨by show(limbs 1).length<=_;rw[mS];exact h,by show(limbs 1).length<=_;rw[mS];exact h⟩
theorem UJ(p:Bool)(xs ys:List Nat):rv (!p) xs ys= - rv p xs ys:=by unfold rv;rw[Dz,Rat.neg_mkRat]
theorem bG.akf{w:World}{b s t:Value}{r:Rat}{K:Nat}(h:bG w b s t r K):∃p,b= .bool p/\bG w (.bool (!p)) s t (-r) K:=by
 obtain⟨p,A,xs,c,B,ys,d,rfl,rfl,rfl,ha,hd,hs,ht,h1,hr⟩:=h;exact⟨p,rfl,!p,A,xs,c,B,ys,d,rfl,rfl,rfl,ha,hd,hs,ht,h1,by rw[UJ,hr]⟩
theorem Sz.sub{r s t:Rat}{k j:Nat}(h:Sz r k)(h2:Sz s k)(e:r-s=t)(hj:k+k+1<=j):Sz t j:=by
 rw[Rat.sub_eq_add_neg]at e;exact h.add (h2.neg rfl) e hj
theorem jm{w:World}{ax sC az:Value}{ra:Rat}{bx dX bz:Value}{rb:Rat}{K:Nat}{q:Rat}(ha:bG w ax sC az ra K)(hb:bG w bx dX bz rb K)(hK:K<=1099511627776)(e:ra-rb=q):Calls Tryz.prog 30 #[.agg #[ax,sC,az], .agg #[bx,dX,bz]] w (nV w q):=by
 obtain⟨p,rfl,hn⟩:=hb.akf;clear hb;have hb:=hn;clear hn;obtain⟨W,hW,bC,i0,i1,i2⟩:∃W,((w.alloc (.cells #[ax,sC,az] 45)).alloc (.cells #[.bool (!p),dX,bz] 45)).alloc (.cells #[.bool false, .slice none 0 0, .slice none 0 0] 45)=W/\Below w.heap.size w W/\cK W (w.heap.size) ax sC az/\cK W (w.heap.size+1) (.bool (!p)) dX bz/\cK W (w.heap.size+1+1) (.bool false) (.slice none 0 0) (.slice none 0 0):=⟨_,rfl,(((aq _ _).alloc (by simp<;>omega) _).alloc (by simp<;>omega) _).alloc (by simp<;>omega) _,by refine⟨?_,?_,?_,?_,?_,?_⟩<;>go_simp,by refine⟨?_,?_,?_,?_,?_,?_⟩<;>go_simp,by refine⟨?_,?_,?_,?_,?_,?_⟩<;>go_simp⟩;have wU:=i0.lt;have x00:=i0.c0;have x01:=i0.c1;have x02:=i0.c2;have CZ:=i1.lt;have x10:=i1.c0;have x11:=i1.c1;have x12:=i1.c2;have ji2:=i2.lt;have x20:=i2.c0;have x21:=i2.c1;have x22:=i2.c2;have HW:=ah hW;clear hW;replace ha:=ha.keep bC;replace hb:=hb.keep bC;have eq:ra+ -rb=q:=by rw[<-Rat.sub_eq_add_neg];exact e
 clear e;have EQ:=ah eq;clear eq;go_enter Tryz.func30,Tryz.ntmps30
 go_wp2_with fail
 rw[HW.out];refine(kI ha hb hK EQ.out).mono ?_;rintro e w1 ⟨b1,s1,t1,rfl,o1,g1⟩;have tR:=i2.keep g1;obtain⟨y0,y1,y2,y3,y4,y5⟩:=id tR;obtain⟨q0,q1,q2⟩:=o1.st;have dw:=ah (Bb (w:=w) tR (by omega) o1 bC.size (bC.trans (g1.mono bC.size)));clear o1 tR;go_wp2_with fail
 exact bodyPost_ret (v:= .agg #[b1,s1,t1]) (by simp[results,Tryz.results30,go_sem,y0,y1,y2]) rfl dw.out
theorem Bf(r:Rat):(-r)⁻¹= -r⁻¹:=by
 by_cases h:r=0
 ·subst h;simp
 ·have h2: -r≠0:=fun e=>h (by rw[<-Rat.neg_neg r,e];rfl);have k: -r* -r⁻¹=1:=by rw[Rat.neg_mul,Rat.mul_neg,Rat.neg_neg];exact Rat.mul_inv_cancel _ h
  calc (-r)⁻¹=(-r)⁻¹* (-r* -r⁻¹):=by rw[k,Rat.mul_one]
   _= -r⁻¹:=by rw[<-Rat.mul_assoc,Rat.inv_mul_cancel _ h2,Rat.one_mul]
theorem mkRat_one(v:Int):(mkRat v 1).num=v/\(mkRat v 1).den=1:=by
 obtain⟨h1,h2⟩:=jI (n:=v) (d:=1) (by decide);rw[h1,h2,Nat.gcd_one_right];exact⟨by simp,rfl⟩
theorem dV.one{lo:Nat}(w:World)(h:lo<=w.heap.size):dV lo (w.alloc (.cells #[.int .u32 1] 75)) (.bool false) (.slice (some ⟨w.heap.size,0,none⟩) 1 1) 1:=by
 have hrow:=(Row.new w [1]).own (lo:=lo) (qW _ (by decide)) h (by decide);refine⟨some ⟨w.heap.size,0,none⟩,1,rfl,?_,?_⟩
 ·show _=Value.slice _ (limbs 1).length 1
  rw[mA];rfl
 ·show Own _ _ _ _ (limbs 1)
  rw[mA];simpa [cellsOf] using hrow
theorem bG.inv{w:World}{b s t:Value}{r:Rat}{K:Nat}(h:bG w b s t r K):bG w b t s r⁻¹ K:=by
 obtain⟨p,A,xs,c,B,ys,d,rfl,rfl,rfl,ha,hd,hs,ht,h1,hr⟩:=h;refine⟨p,B,ys,d,A,xs,c,rfl,rfl,rfl,hd,ha,ht,hs,h1,?_⟩;rw[<-hr];unfold rv iv
 by_cases hp:p=true
 ·subst hp;simp only[if_true];rw[<-Rat.neg_mkRat,<-Rat.neg_mkRat,Bf,<-Rat.divInt_ofNat,<-Rat.divInt_ofNat,Rat.inv_divInt]
 ·have:p=false:=by cases p<;>simp_all
  subst this;simp only[Bool.false_eq_true,if_false];rw[<-Rat.divInt_ofNat,<-Rat.divInt_ofNat,Rat.inv_divInt]
theorem fO{w:World}{na:Int}{q:Rat}(h1: -9223372036854775808<=na)(h2:na<=9223372036854775807)(e:mkRat na 1=q):Calls Tryz.prog 47 #[.int .i64 na] w (nV w q):=by
 obtain⟨W,hW,bC,i0⟩:∃W,w.alloc (.cells #[.bool false, .slice none 0 0, .slice none 0 0] 45)=W/\Below w.heap.size w W/\cK W (w.heap.size) (.bool false) (.slice none 0 0) (.slice none 0 0):=⟨_,rfl,(aq _ _).alloc (by simp<;>omega) _,by refine⟨?_,?_,?_,?_,?_,?_⟩<;>go_simp⟩;have wU:=i0.lt;have x00:=i0.c0;have x01:=i0.c1;have x02:=i0.c2;have HW:=ah hW;clear hW;obtain⟨n,en⟩:=xeq na;have e1:q.num=n:=by rw[<-e,<-en];exact(mkRat_one na).1
 have e2:q.den=1:=by rw[<-e];exact(mkRat_one na).2
 clear e;have EN:=ah en;clear en;have E1:=ah e1;clear e1;have E2:=ah e2;clear e2;go_enter Tryz.func47,Tryz.ntmps47
 go_wp2_with fail
 rw[HW.out];refine(DR h1 h2 EN.out).mono ?_;rintro e w1 ⟨b1,s1,rfl,o1,g1⟩;obtain⟨q0,q1⟩:=o1.st;obtain⟨c0,c1⟩:=o1.cl;have tR:=i0.keep g1;obtain⟨y0,y1,y2,y3,y4,y5⟩:=id tR;obtain⟨v,ev⟩:=xeq (Value.slice (some ⟨w1.heap.size,0,none⟩) 1 1);have hsz:(((w1.setCell ⟨w.heap.size,0,none⟩ b1).setCell ⟨w.heap.size,1,none⟩ s1).setCell ⟨w.heap.size,2,none⟩ v).heap.size=w1.heap.size:=by rw[World.size_setCell,World.size_setCell,World.size_setCell]
 have hb1:=dD (bC.trans (g1.mono bC.size)) (aj _) b1 s1 v;have o3:=(o1.mono bC.size).gY tR ng b1 s1 v;have tR2:=tR.put b1 s1 v;obtain⟨w2,hw2⟩:=xeq (((w1.setCell ⟨w.heap.size,0,none⟩ b1).setCell ⟨w.heap.size,1,none⟩ s1).setCell ⟨w.heap.size,2,none⟩ v);rw[hw2]at hb1 o3 tR2 hsz;have bo:=bI w2 (.cells #[.int .u32 1] 75);have o2:=dV.one (lo:=w.heap.size) w2 hb1.size;rw[hsz,ev]at o2;have oq:cV w.heap.size (w2.alloc (.cells #[.int .u32 1] 75)) b1 s1 v q:=cV.of (by rw[E1.out];exact o3.keep bo) (by rw[E2.out];exact o2);have dw:=ah (show nV w q (.returned (.agg #[b1,s1,v])) (w2.alloc (.cells #[.int .u32 1] 75))from⟨b1,s1,v,rfl,oq,hb1.trans (bo.mono hb1.size)⟩);have t6:=tR2.keep bo;obtain⟨z0,z1,z2,_,_,_⟩:=t6;have HW2:=ah hw2;have EV:=ah ev;clear o1 o2 o3 tR tR2 oq bo hb1 hsz hw2 ev;have nw:w.heap.size<w1.heap.size:=ak wU g1.size;go_wp2_with fail
 rw[EV.out,HW2.out];exact bodyPost_ret (v:= .agg #[b1,s1,v]) (by simp[results,Tryz.results47,go_sem,z0,z1,z2]) rfl dw.out
theorem Px{w:World}{ax sC az:Value}{ra:Rat}{bx dX bz:Value}{rb:Rat}{K:Nat}{q:Rat}(ha:bG w ax sC az ra K)(hb:bG w bx dX bz rb K)(hK:K<=1099511627776)(h0:rb≠0)(e:ra*rb⁻¹=q):Calls Tryz.prog 89 #[.agg #[ax,sC,az], .agg #[bx,dX,bz]] w (F9 w q):=by
 obtain⟨W,hW,bC,i0,i1,i2⟩:∃W,((w.alloc (.cells #[ax,sC,az] 45)).alloc (.cells #[bx,dX,bz] 45)).alloc (.cells #[.bool false, .slice none 0 0, .slice none 0 0] 45)=W/\Below w.heap.size w W/\cK W (w.heap.size) ax sC az/\cK W (w.heap.size+1) bx dX bz/\cK W (w.heap.size+1+1) (.bool false) (.slice none 0 0) (.slice none 0 0):=⟨_,rfl,(((aq _ _).alloc (by simp<;>omega) _).alloc (by simp<;>omega) _).alloc (by simp<;>omega) _,by refine⟨?_,?_,?_,?_,?_,?_⟩<;>go_simp,by refine⟨?_,?_,?_,?_,?_,?_⟩<;>go_simp,by refine⟨?_,?_,?_,?_,?_,?_⟩<;>go_simp⟩;have wU:=i0.lt;have x00:=i0.c0;have x01:=i0.c1;have x02:=i0.c2;have CZ:=i1.lt;have x10:=i1.c0;have x11:=i1.c1;have x12:=i1.c2;have ji2:=i2.lt;have x20:=i2.c0;have x21:=i2.c1;have x22:=i2.c2;have HW:=ah hW;clear hW;replace ha:=ha.keep bC;replace hb:=hb.keep bC;obtain⟨sg,kZ⟩:=xeq (fZ rb.num);have wk:¬sg=0:=fun e=>h0 (qn.1 (kZ.trans e));obtain⟨v,ev⟩:=xeq (rb⁻¹);have hi:=hb.inv;rw[ev]at hi e;clear h0;have ESG:=ah kZ;clear kZ;have E:=ah e;clear e;have EV:=ah ev;clear ev;go_enter Tryz.func89,Tryz.ntmps89
 go_wp2_with fail
 rw[HW.out];refine(fN hb hK ESG.out).mono ?_;rintro e w1 ⟨rfl,g1⟩;obtain⟨c0,c1,c2⟩:=hb.cl;replace ha:=ha.keep g1;replace hi:=hi.keep g1;replace i0:=i0.keep g1;replace i1:=i1.keep g1;replace i2:=i2.keep g1;have hb1:=bC.trans (g1.mono bC.size);clear x00 x01 x02 x10 x11 x12 x20 x21 x22;have x00:=i0.c0;have x01:=i0.c1;have x02:=i0.c2;have x10:=i1.c0;have x11:=i1.c1;have x12:=i1.c2;go_wp2_with fail
 refine(iT ha hi hK E.out).mono ?_;rintro e w2 ⟨b2,s2,t2,rfl,o2,g2⟩;have tR:=i2.keep g2;obtain⟨y0,y1,y2,y3,y4,y5⟩:=id tR;obtain⟨q0,q1,q2⟩:=o2.st;have dw:=ah (UH (w:=w) tR (by omega) o2 hb1.size (hb1.trans (g2.mono hb1.size)));clear o2 tR;go_wp2_with fail
 exact bodyPost_ret (v:= .tuple #[.agg #[b2,s2,t2], .bool true]) (by simp[results,Tryz.results89,go_sem,y0,y1,y2]) rfl dw.out
end Go.Proofs.YtkmpoleajjgfaaaGreat
