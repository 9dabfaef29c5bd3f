/- Parts of the proof, in order. -/
import Derived.Test.YtkmpoleajjgfaaaGreatQ16
namespace Go.Proofs.YtkmpoleajjgfaaaGreat
open Go.RowKit Gm Go.Sort Go.Shelf
set_option maxRecDepth 100000
set_option maxHeartbeats 16000000
theorem GD{w:World}{D:Option Addr}{n c:Nat}{p:Nat->Nat}(hn:n<=16384)(hp:IL w D n p)(hlt:∀i,i<n->p i<n)(hinj:∀i j,i<n->j<n->p i=p j->i=j):
 Calls Tryz.prog 145 #[.slice D n c, .int .i64 (n:Int)] w (fun e w'=>e= .returned (.bool true)/\Below w.heap.size w w'):=by
 have hmk:=tX (n:Int) n rfl (by omega);have hv:=dm.new w 4 n (fun _=> .bool false);have hb:=bI w (.cells ((List.range n).map fun _=>Value.bool false).toArray 4);obtain⟨g,eg⟩:=xeq w.heap.size;have EG:=ah eg;rw[eg]at hv;clear eg;go_enter Tryz.func145,Tryz.ntmps145
 go_wp2_with fail
 rw[EG.out];clear hmk
 go_loopw [16] (fun t wr=>∃(k:Nat) (s:Nat->Bool),k<=n/\t= .int .i64 (k:Int)/\dm wr g 4 n (fun i=> .bool (s i))/\(∀j,s j=true↔∃i,i<k/\p i=j)/\Below w.heap.size w wr) (fun t _=>n- (intOf t).toNat)
 case atStart=>exact⟨0,fun _=>false,aF _,rfl,hv,fun j=>by simp,hb⟩
 case round=>
  clear hv hb;obtain⟨k,s,hk,rfl,hv,hs,hb⟩:=hrel
  by_cases hlk:k<n
  ·obtain⟨b,off,rfl,hbl,hc⟩:=(hp.below hb) (by omega);have c0:=hc k hlk;have hx:=hlt k hlk
   have hsx:s (p k)=false:=by
    cases e:s (p k)with
    |false=>rfl
    |true=>
     obtain⟨i,hi,hpi⟩:=(hs _).1 e;have:=hinj i k (by omega) hlk hpi;omega
   have c1:=hv.cell hx;have f1:=hv.frozen (p k)
   have hv2:=(hv.set (p k) (.bool true)).congr (U:=fun i=> .bool (if i=p k then true else s i)) (fun i _=>by
    by_cases e:i=p k
    ·subst e;rw[aW,if_pos rfl]
    ·rw[bk _ _ e,if_neg e])
   have oN:∀j,(if j=p k then true else s j)=true↔∃i,i<k+1/\p i=j:=fun j=>by
    by_cases e:j=p k
    ·subst e;rw[if_pos rfl];exact⟨fun _=>⟨k,by omega,rfl⟩,fun _=>rfl⟩
    ·rw[if_neg e,hs];constructor
     ·rintro⟨i,hi,h⟩;exact⟨i,by omega,h⟩
     ·rintro⟨i,hi,h⟩;refine⟨i,?_,h⟩;rcases aN i k with h1|h1
      ·exact h1
      ·obtain rfl:i=k:=by omega
       exact absurd h.symm e
   have hg2:w.heap.size<=g:=by rw[EG.out];exact aj _
   have hb2:=hb.trans ((bw.set (P:=(·=g)) (p:=⟨g,p k,none⟩) rfl wr (.bool true)).below hb.size (fun q hq e=>by omega));(try dsimp only at c1);rw[hsx]at c1;obtain⟨x,ex⟩:=xeq (p k);rw[ex]at c0 c1 f1 hx hv2 hb2;have HR:=ah (ai hv2 (ai oN hb2));have i0:(0:Int)<=(k:Int):=by omega
   have i1:(k:Int)<n:=by omega
   have x0:(0:Int)<=(x:Int):=by omega
   have x1:(x:Int)<n:=by omega
   have x2:¬(x:Int)<0:=by omega
   have x3:¬(n:Int)<=(x:Int):=by omega
   have EXX:=ah ex;clear hc hv hs hv2 oN hb2 hb hp hlt hinj hsx ex;go_wp2_with fail
   go_roundw
   case rel=>exact⟨k+1,_,by omega,by go_num,HR.out.1,by have:=HR.out.2.1;rw[EXX.out]at this;exact this,HR.out.2.2⟩
   case measure=>simp[intOf];omega
  ·obtain rfl:k=n:=by omega
   clear hp hlt hinj hv hs;go_wp2_with fail
   go_ret;exact⟨rfl,hb⟩
structure Fp(w:World)(N n gR gC cL cU:Nat)(DL DU:Option Addr):Prop where
 h:w.heap[N]?=some (.cells #[.slice (some ⟨gR,0,none⟩) n n, .slice (some ⟨gC,0,none⟩) n n, .int .i64 (n:Int), .int .i64 (n:Int), .slice DL n cL, .int .i64 (n:Int), .int .i64 (n:Int), .slice DU n cU] 96 (0,0))
section
variable {w w':World}{N n gR gC cL cU:Nat}{DL DU:Option Addr}
theorem Fp.lt(h:Fp w N n gR gC cL cU DL DU):N<w.heap.size:=(au.1 h.h).1
theorem Fp.below{B:Nat}(h:Fp w N n gR gC cL cU DL DU)(hb:Below B w w')(hl:N<B):Fp w' N n gR gC cL cU DL DU:=⟨(hb.block N hl).trans h.h⟩
theorem Fp.c(h:Fp w N n gR gC cL cU DL DU):w.cell? ⟨N,0,none⟩=some (.slice (some ⟨gR,0,none⟩) n n)/\w.cell? ⟨N,1,none⟩=some (.slice (some ⟨gC,0,none⟩) n n)/\w.cell? ⟨N,2,none⟩=some (.int .i64 (n:Int))/\w.cell? ⟨N,3,none⟩=some (.int .i64 (n:Int))/\w.cell? ⟨N,4,none⟩=some (.slice DL n cL)/\w.cell? ⟨N,5,none⟩=some (.int .i64 (n:Int))/\w.cell? ⟨N,6,none⟩=some (.int .i64 (n:Int))/\w.cell? ⟨N,7,none⟩=some (.slice DU n cU):=by
 have e:=fun i=>aT w N i _ _ (0,0) h.h;exact⟨(e 0).trans rfl,(e 1).trans rfl,(e 2).trans rfl,(e 3).trans rfl,(e 4).trans rfl,(e 5).trans rfl,(e 6).trans rfl,(e 7).trans rfl⟩
theorem Fp.new(w:World)(n gR gC cL cU:Nat)(DL DU:Option Addr):Fp (w.alloc (.cells #[.slice (some ⟨gR,0,none⟩) n n, .slice (some ⟨gC,0,none⟩) n n, .int .i64 (n:Int), .int .i64 (n:Int), .slice DL n cL, .int .i64 (n:Int), .int .i64 (n:Int), .slice DU n cU] 96)) w.heap.size n gR gC cL cU DL DU:=⟨aS w _⟩
end
theorem BX{w:World}{n c K q:Nat}{D:Option Addr}{A:Nat->List (Nat×Rat)}(hn:n<=16384)(hl:ML w D n A K)(hcan:∀i,i<n->Can n (A i))(hK:K<=1099511627776)(hq:w.cell? ⟨q,0,none⟩=some (.int .i64 (n:Int))):
 Calls Tryz.prog 146 #[.agg #[.int .i64 (n:Int), .int .i64 (n:Int), .slice D n c], .pointer (some ⟨q,0,none⟩)] w (fun e w'=>e= .returned (.bool true)/\Below w.heap.size w w'):=by
 obtain⟨W,hW,bC,i0⟩:∃W,w.alloc (.cells #[.int .i64 (n:Int), .int .i64 (n:Int), .slice D n c] 34)=W/\Below w.heap.size w W/\cK W w.heap.size (.int .i64 (n:Int)) (.int .i64 (n:Int)) (.slice D n c):=⟨_,rfl,bI _ _,cK.jJ _ _ _ _ _⟩;have hv:=uQ (c:=c) hn hn (hl.below bC) hcan hK;have K7:=aG w _ hq;dsimp only at K7;have hq1:=bn bC K7 hq;have CY:=Gt hq (.cells #[.int .i64 (n:Int), .int .i64 (n:Int), .slice D n c] 34);have x0:=i0.c0;have x1:=i0.c1;have x2:=i0.c2;have HW:=ah hW;have HB:=ah bC;clear hl hcan hW hq bC;go_enter Tryz.func146,Tryz.ntmps146
 go_wp2_with fail
 rw[HW.out];refine hv.mono ?_;rintro e w1 ⟨rfl,g1⟩;clear hv;have hb:=HB.out.trans (g1.mono HB.out.size);go_wp2_with fail
 go_ret;exact⟨rfl,hb⟩
theorem cC.il{w:World}{g n:Nat}{f:Nat->Nat}(h:cC w g n (fun i=>(f i:Int))):IL w (some ⟨g,0,none⟩) n f:=fun _=>⟨g,0,rfl,h.lt,fun i hi=>by rw[Nat.zero_add];exact h.cell hi⟩
theorem II(r:Rat):wv r r=0:=by
 unfold wv;simp
theorem EL.nth{w:World}{D:Option Addr}{l:List (Nat×Rat)}{K i:Nat}{p:Nat×Rat}(h:EL w D l K)(hp:l[i]?=some p):∃b off,D=some ⟨b,off,none⟩/\b<w.heap.size/\w.cell? ⟨b,off+i*4,none⟩=some (.int .i64 (p.1:Int))/\∃x y z,w.cell? ⟨b,off+i*4+1,none⟩=some x/\w.cell? ⟨b,off+i*4+2,none⟩=some y/\w.cell? ⟨b,off+i*4+3,none⟩=some z/\bG w x y z p.2 K:=by
 obtain⟨b,off,e,hlt,hc⟩:=h (by have:=(aC.1 hp).1;omega);obtain⟨h0,x,y,z,h1⟩:=hc i p hp;exact⟨b,off,e,hlt,h0,x,y,z,h1⟩
theorem Eo.Mf{n:Nat}{N:Nat->Nat->Rat}{rs cs:Nat->Nat}{lo up:Nat->List (Nat×Rat)}(h:Eo n N rs cs lo up){i:Nat}(hi:i<n):(lo i).length<=i:=by
 have:=mX (a:=0) (b:=i) (h.Ep i hi).jF (fun p hp=>⟨aF _,(h.Ep i hi).lt p hp⟩) (aF i);omega
theorem Eo.ae0{n:Nat}{N:Nat->Nat->Rat}{rs cs:Nat->Nat}{lo up:Nat->List (Nat×Rat)}(h:Eo n N rs cs lo up){i:Nat}(hi:i<n):Can n (lo i++ [(i,1)]):=by
 have h1:=h.Ep i hi;refine⟨h1.jF.snoc (fun q hq=>h1.lt q hq),fun p hp=>?_,fun p hp=>?_⟩
 ·rcases List.mem_append.1 hp with hp|hp
  ·have:=h1.lt p hp;omega
  ·simp at hp;subst hp;exact hi
 ·rcases List.mem_append.1 hp with hp|hp
  ·exact h1.ne p hp
  ·simp at hp;subst hp;show(1:Rat)≠0;decide
theorem zw{w:World}{v:Value}{n K:Nat}{N:Nat->Nat->Rat}{rs cs:Nat->Nat}{lo up:Nat->List (Nat×Rat)}(h:Sc w v n rs cs lo up K)(hp:Eo n N rs cs lo up)(hn:n<=12)(mB:1<=K)(hK:K<=549755813888):
 Calls Tryz.prog 120 #[v, .int .i64 (n:Int)] w (fun e w'=>e= .returned (.bool true)/\Below w.heap.size w w'):=by
 obtain⟨gR,gC,DL,DU,cL,cU,rfl,hR,hC,hL,hU⟩:=h.ex
 obtain⟨W,hW,bC,i0,q0⟩:∃W,(w.alloc (.cells #[.slice (some ⟨gR,0,none⟩) n n, .slice (some ⟨gC,0,none⟩) n n, .int .i64 (n:Int), .int .i64 (n:Int), .slice DL n cL, .int .i64 (n:Int), .int .i64 (n:Int), .slice DU n cU] 96)).alloc (.cells #[.int .i64 (n:Int)] 3)=W/\Below w.heap.size w W/\Fp W w.heap.size n gR gC cL cU DL DU/\W.cell? ⟨w.heap.size+1,0,none⟩=some (.int .i64 (n:Int)):=by
  have e:∀o,(w.alloc o).heap.size=w.heap.size+1:=fun o=>by show(w.heap.push o).size=_;simp
  refine⟨_,rfl,((aq _ _).alloc (by simp) _).alloc (by simp) _,(Fp.new w n gR gC cL cU DL DU).below (bI _ _) (by rw[e];omega),?_⟩;have h1:=aT _ _ 0 _ _ (0,0) (aS (w.alloc (.cells #[.slice (some ⟨gR,0,none⟩) n n, .slice (some ⟨gC,0,none⟩) n n, .int .i64 (n:Int), .int .i64 (n:Int), .slice DL n cL, .int .i64 (n:Int), .int .i64 (n:Int), .slice DU n cU] 96)) (.cells #[.int .i64 (n:Int)] 3));rw[e]at h1;exact h1
 have l0:=i0.lt;have l1:=aG W _ q0;dsimp only at l1;obtain⟨N0,kz⟩:=xeq w.heap.size;have HB:=ah (fun w' (hb:Below W.heap.size W w')=>ai ((bC.trans (hb.mono bC.size))) (ai (i0.below hb l0) (bn hb l1 q0)));have HL:=ah (fun w' (hb:Below w.heap.size w w')=>ai ((hR.below hb hR.lt).il) (ai ((hC.below hb hC.lt).il) (ai (hL.below hb) (hU.below hb))));have HP:=ah hp;obtain⟨c0,c1,c2,c3,c4,c5,c6,c7⟩:=i0.c;have hpR:=GD (c:=n) (by omega) (hR.below bC hR.lt).il hp.Gz hp.zo;have HW:=ah hW;have EN:=ah kz;rw[kz]at c0 c1 c2 c3 c4 c5 c6 c7 q0 HB HL;clear h hp hR hC hL hU hW bC i0 kz l0 l1;go_enter Tryz.func120,Tryz.ntmps120
 go_wp2_with fail
 rw[HW.out,EN.out];refine hpR.mono ?_;rintro e w1 ⟨rfl,g1⟩;clear hpR c0 c1 c2 c3 c4 c5 c6 c7 q0;obtain⟨h1,h2,q0⟩:=HB.out _ g1;obtain⟨c0,c1,c2,c3,c4,c5,c6,c7⟩:=h2.c;have hpC:=GD (c:=n) (by omega) (HL.out _ h1).2.1 HP.out.El HP.out.wL;have Yp:=ah g1;clear h1 h2 g1;go_wp2_with fail
 refine hpC.mono ?_;rintro e w2 ⟨rfl,g2⟩;have hg2:=Yp.out.trans (g2.mono Yp.out.size);clear hpC c0 c1 c2 c3 c4 c5 c6 c7 q0;obtain⟨h1,h2,q0⟩:=HB.out _ hg2;obtain⟨c0,c1,c2,c3,c4,c5,c6,c7⟩:=h2.c;have hs1:=BX (c:=cL) (by omega) (HL.out _ h1).2.2.1 (fun i hi=>HP.out.ae0 hi) (by omega) q0;have HG2:=ah hg2;clear h1 h2 g2 hg2 Yp;go_wp2_with fail
 refine hs1.mono ?_;rintro e w3 ⟨rfl,g3⟩;have zU:=HG2.out.trans (g3.mono HG2.out.size);clear hs1 c0 c1 c2 c3 c4 c5 c6 c7 q0;obtain⟨h1,h2,q0⟩:=HB.out _ zU;obtain⟨c0,c1,c2,c3,c4,c5,c6,c7⟩:=h2.c;have oN:=BX (c:=cU) (by omega) (HL.out _ h1).2.2.2 (fun i hi=>(HP.out.IE i hi).1) (by omega) q0;have SR:=ah zU;clear h1 h2 g3 zU HG2;go_wp2_with fail
 refine oN.mono ?_;rintro e w4 ⟨rfl,g4⟩;have hg4:=SR.out.trans (g4.mono SR.out.size);clear oN c0 c1 c2 c3 c4 c5 c6 c7 q0;have HG4:=ah hg4;clear g4 hg4 SR;have E1:=ah (show mkRat (1:Int) 1=(1:Rat)from by decide);go_wp2_with fail
 refine(fO (by omega) (by omega) E1.out).mono ?_;rintro e w5 ⟨b6,s6,t6,rfl,o5,g5⟩;have eC:=bI w5 (.cells #[b6,s6,t6] 45);have f6:=cK.jJ w5 45 b6 s6 t6;have hi6:=(o5.is (nW (aj 1))).keep eC;obtain⟨W6,CX⟩:=xeq (w5.alloc (.cells #[b6,s6,t6] 45));obtain⟨N6,hN6⟩:=xeq w5.heap.size;rw[CX]at eC f6 hi6;rw[hN6]at f6;obtain⟨y0,y1,y2⟩:=o5.st;have hg6:=HG4.out.trans ((g5.trans (eC.mono g5.size)).mono HG4.out.size);obtain⟨h1,h2,q0⟩:=HB.out _ hg6;have Fb:=ah (ai CX hN6);have HG6:=ah hg6;have Fq:=ah (ai f6 hi6);clear o5 g5 eC f6 hi6 CX hN6 hg6 HG4 h1 h2;go_upto_region 7 with fail
 rw[Fb.out.1];(try rw[Fb.out.2]);clear y0 y1 y2;go_wp2_with fail
 go_loopw [37] (fun t wr=>∃k:Nat,k<=n/\t= .int .i64 (k:Int)/\Below W6.heap.size W6 wr) (fun t _=>n- (intOf t).toNat)
 case atStart=>exact⟨0,aF _,rfl,aq _ _⟩
 case round=>
  clear q0;obtain⟨k,hk,rfl,hb⟩:=hrel
  by_cases hlk:k<n
  ·have GF:=HG6.out.trans (hb.mono HG6.out.size);obtain⟨h1,h2,q0⟩:=HB.out _ GF;obtain⟨c0,c1,c2,c3,c4,c5,c6,c7⟩:=h2.c;obtain⟨_,_,N4,Vn⟩:=HL.out _ h1;obtain⟨bl,ol,rfl,hbl,hcl⟩:=N4 (by omega);obtain⟨bu,ou,rfl,hbu,Xt⟩:=Vn (by omega);obtain⟨Dl,cl,r0,ae1,hel⟩:=hcl k hlk;obtain⟨Du,cu,r1,ae2,Vo⟩:=Xt k hlk;obtain⟨aax,d,tl,J3,Cp⟩:=HP.out.IE k hlk;obtain⟨la,kL⟩:=xeq ((lo k).length);obtain⟨m,em⟩:=xeq ((lo k++ [(k,(1:Rat))]).length);have hm1:m=la+1:=by rw[<-em,List.length_append,kL];rfl
   have hla:=HP.out.Mf hlk;obtain⟨lb,N5,rfl,hlb,p0,lx,ly,lz,p1,p2,p3,hr⟩:=hel.nth (i:=la) (p:=(k,1)) (by rw[<-kL];simp);obtain⟨ub,uo,rfl,Qf,u0,_⟩:=Vo.nth (i:=0) (p:=(k,d)) (by rw[J3];rfl);obtain⟨lu,Vp⟩:=xeq ((up k).length);have vZ:0<lu:=by rw[<-Vp,J3];simp
   dsimp only at p0 u0 r0 r1;rw[em]at r0;rw[Vp]at r1;have v0:(0:Int)<=(k:Int):=by omega
   have v1:(k:Int)<n:=by omega
   have v2:¬(m:Int)=0:=by omega
   have v3:¬(lu:Int)=0:=by omega
   have Lj:¬m=0:=by omega
   have ZQ:¬lu=0:=by omega
   have hwr:IntKind.i64.wrap ((m:Int) -1)=(la:Int):=by rw[IntKind.wrap_i64];omega
   have v4:(0:Int)<=(la:Int):=by omega
   have v5:(la:Int)<m:=by omega
   have v6:(0:Int)<lu:=by omega
   have hlb6:=Fq.out.1.lt;have dH:=ah (fun w' (hb2:Below wr.heap.size wr w')=>show w'.cell? ⟨lb,N5+la*4,none⟩=some (.int .i64 (k:Int))/\w'.cell? ⟨lb,N5+la*4+1,none⟩=some lx/\w'.cell? ⟨lb,N5+la*4+2,none⟩=some ly/\w'.cell? ⟨lb,N5+la*4+3,none⟩=some lz/\w'.cell? ⟨N6,0,none⟩=some b6/\w'.cell? ⟨N6,1,none⟩=some s6/\w'.cell? ⟨N6,2,none⟩=some t6 from⟨bn hb2 hlb p0,bn hb2 hlb p1,bn hb2 hlb p2,bn hb2 hlb p3,((Fq.out.1.keep hb).keep hb2).c0,((Fq.out.1.keep hb).keep hb2).c1,((Fq.out.1.keep hb).keep hb2).c2⟩);have hcmp:=fun w' (hb2:Below wr.heap.size wr w')=>UI (hr.keep hb2) (((Fq.out.2.keep hb).keep hb2).mono mB) hK (II 1);have alo:=ah hcmp;have z11:=hr.rN;have z12:=Fq.out.2.rN;have HGW:=ah hb;have HU0:=ah (fun w' (hb2:Below wr.heap.size wr w')=>(hb2.cell (p:=⟨ub,uo+0*4,none⟩) Qf).trans u0);clear N4 Vn hcl Xt hel Vo hr hcmp hb h1 h2 q0 aax J3 Cp kL em hla Vp hm1 u0 p0 p1 p2 p3 GF;go_upto_region 10 with fail
   refine wp_region_held_drew (S:=(fun w'=>w'=wr.drew)) (by kernel_rfl) (rfl) (fun aU=>?_);refine tp 0 aU ?_;refine tp 1 aU ?_;refine tp 2 aU ?_;refine tp 3 aU ?_;refine tp 4 aU ?_;refine tp 5 aU ?_;refine tp 6 aU ?_;refine tp 7 aU ?_;refine tp 8 aU ?_;refine tp 9 aU ?_;refine tp 10 aU ?_;refine tp 11 aU ?_;refine tp 12 aU ?_;refine tp 13 aU ?_;refine td ?_ _;go_upto_region 11 with fail
   have hb0:Below wr.heap.size wr wr.drew.drew:=(aq wr.heap.size wr).drew.drew;clear r0 r1 c0 c1 c2 c3 c4 c5 c6 c7;refine wp_region_held_drew (S:=(fun w'=>w'.cell? ⟨lb,N5+la*4,none⟩=some (.int .i64 (k:Int))/\w'.cell? ⟨lb,N5+la*4+1,none⟩=some lx/\w'.cell? ⟨lb,N5+la*4+2,none⟩=some ly/\w'.cell? ⟨lb,N5+la*4+3,none⟩=some lz/\w'.cell? ⟨N6,0,none⟩=some b6/\w'.cell? ⟨N6,1,none⟩=some s6/\w'.cell? ⟨N6,2,none⟩=some t6)) (by kernel_rfl) (dH.out _ hb0) (fun aU=>?_);refine tq 0 aU ?_;refine tq 1 aU ?_;refine tr (v:= .bool false) 2 aU (fun w cZ=>?_) ?_
   focus((try dsimp only at cZ);go_simp;(try with_reducible rfl);done)
   try simp only[Act.put,List.setIfInBounds_toArray,List.set_cons_zero,List.set_cons_succ]
   refine tr (v:= .bool false) 3 aU (fun w cZ=>?_) ?_
   focus((try dsimp only at cZ);go_simp;(try with_reducible rfl);done)
   try simp only[Act.put,List.setIfInBounds_toArray,List.set_cons_zero,List.set_cons_succ]
   refine tq 4 aU ?_;refine tq 5 aU ?_;refine tq 6 aU ?_;refine tr (v:= .int .i64 (la:Int)) 7 aU (fun w cZ=>?_) ?_
   focus((try dsimp only at cZ);go_simp;(try with_reducible rfl);done)
   try simp only[Act.put,List.setIfInBounds_toArray,List.set_cons_zero,List.set_cons_succ]
   refine tq 8 aU ?_;refine tq 9 aU ?_;refine tq 10 aU ?_;refine tq 11 aU ?_;refine tr (v:= .bool false) 12 aU (fun w cZ=>?_) ?_
   focus((try dsimp only at cZ);go_simp;(try with_reducible rfl);done)
   try simp only[Act.put,List.setIfInBounds_toArray,List.set_cons_zero,List.set_cons_succ]
   refine tr (v:= .bool false) 13 aU (fun w cZ=>?_) ?_
   focus((try dsimp only at cZ);go_simp;(try with_reducible rfl);done)
   try simp only[Act.put,List.setIfInBounds_toArray,List.set_cons_zero,List.set_cons_succ]
   refine tr (v:= .bool false) 14 aU (fun w cZ=>?_) ?_
   focus((try dsimp only at cZ);go_simp;(try with_reducible rfl);done)
   try simp only[Act.put,List.setIfInBounds_toArray,List.set_cons_zero,List.set_cons_succ]
   refine tq 15 aU ?_;refine tq 16 aU ?_;refine tq 17 aU ?_;refine tr (v:= .int .i64 (la:Int)) 18 aU (fun w cZ=>?_) ?_
   focus((try dsimp only at cZ);go_simp;(try with_reducible rfl);done)
   try simp only[Act.put,List.setIfInBounds_toArray,List.set_cons_zero,List.set_cons_succ]
   refine tq 19 aU ?_;refine tq 20 aU ?_;refine tq 21 aU ?_;refine tq 22 aU ?_;refine tv 23 (fun κ hκ=>?_);go_simp;go_at_call 147;refine(alo.out _ hb0).mono ?_;rintro ret w23 ⟨rfl,g23⟩;have WB:=hb0.trans (g23.mono hb0.size);have k23:=dH.out _ WB;go_wp2_with fail
   refine hκ.out _ _ ?_ (fun aU=>?_)
   ·exact k23
   clear hκ κ;refine tu ?_;refine tr (v:= .bool false) 24 aU (fun w cZ=>?_) ?_
   focus((try dsimp only at cZ);go_simp;(try with_reducible rfl);done)
   try simp only[Act.put,List.setIfInBounds_toArray,List.set_cons_zero,List.set_cons_succ]
   refine tr (v:= .bool false) 25 aU (fun w cZ=>?_) ?_
   focus((try dsimp only at cZ);go_simp;(try with_reducible rfl);done)
   try simp only[Act.put,List.setIfInBounds_toArray,List.set_cons_zero,List.set_cons_succ]
   refine td ?_ _;have u0:=HU0.out _ WB;rw[Nat.zero_mul,Nat.add_zero]at u0;clear aU;go_wp2_with fail
   go_roundw
   case rel=>exact⟨k+1,by omega,by go_num,HGW.out.trans (WB.mono HGW.out.size)⟩
   case measure=>simp[intOf];omega
  ·obtain rfl:k=n:=by omega
   obtain⟨h1,_,_⟩:=HB.out _ (HG6.out.trans (hb.mono HG6.out.size));have HR:=ah h1;clear h1 hb;go_wp2_with fail
   go_ret;exact⟨rfl,by have:=HR.out;rw[<-EN.out]at this;exact this⟩
theorem IJ{w:World}{v:Value}{n c K:Nat}{D:Option Addr}{N:Nat->Nat->Rat}{rs cs:Nat->Nat}{lo up:Nat->List (Nat×Rat)}(h:Sc w v n rs cs lo up K)(hp:Eo n N rs cs lo up)(hn:n<=12)(mB:1<=K)(hK:K<=549755813888):
 Calls Tryz.prog 87 #[v, .slice D n c] w (fun e w'=>e= .returned (.int .i64 0)/\Below w.heap.size w w'):=by
 obtain⟨gR,gC,DL,DU,cL,cU,rfl,hR,hC,hL,hU⟩:=id h.ex;have bC:=bI w (.cells #[.slice (some ⟨gR,0,none⟩) n n, .slice (some ⟨gC,0,none⟩) n n, .int .i64 (n:Int), .int .i64 (n:Int), .slice DL n cL, .int .i64 (n:Int), .int .i64 (n:Int), .slice DU n cU] 96);have i0:=Fp.new w n gR gC cL cU DL DU;have hwf:=zw (h.below bC) hp hn mB hK;obtain⟨W,hW⟩:=xeq (w.alloc (.cells #[.slice (some ⟨gR,0,none⟩) n n, .slice (some ⟨gC,0,none⟩) n n, .int .i64 (n:Int), .int .i64 (n:Int), .slice DL n cL, .int .i64 (n:Int), .int .i64 (n:Int), .slice DU n cU] 96));obtain⟨N0,kz⟩:=xeq w.heap.size;rw[hW]at bC i0 hwf;rw[kz]at i0;have l0:=i0.lt;obtain⟨c0,c1,c2,c3,c4,c5,c6,c7⟩:=i0.c;have HB:=ah bC;have HW:=ah hW;have EN:=ah kz;clear h hp hR hC hL hU hW bC kz;go_enter Tryz.func87,Tryz.ntmps87
 go_wp2_with fail
 rw[HW.out];(try rw[EN.out]);refine hwf.mono ?_;rintro e w1 ⟨rfl,g1⟩;have i1:=i0.below g1 l0;have jd:=HB.out.trans (g1.mono HB.out.size);clear hwf c0 c1 c2 c3 c4 c5 c6 c7 i0;obtain⟨c0,c1,c2,c3,c4,c5,c6,c7⟩:=i1.c;clear i1 g1;go_wp2_with fail
 go_ret;exact⟨rfl,jd⟩
/-- a - f * b -/
theorem GH{w:World}{M:Nat->Prop}{xa ya za xf yf zf xb yb zb:Value}{ra rf rb:Rat}{Ka K Kb L:Nat}(ha:RO w M xa ya za ra Ka)(hf:bG w xf yf zf rf K)(hb:bG w xb yb zb rb Kb)(hM:∀k,M k->k<w.heap.size)(hL:Ka+ (K+Kb)+1<=L)(hL2:L<=1099511627776):
 Calls Tryz.prog 88 #[.agg #[xa,ya,za], .agg #[xf,yf,zf], .agg #[xb,yb,zb]] w (fun e w'=>∃x y z,e= .returned (.agg #[x,y,z])/\RO w' M x y z (ra-rf*rb) L/\Below w.heap.size w w'):=by
 obtain⟨W,hW,bC,i0,i1,i2,i3⟩:∃W,(((w.alloc (.cells #[xa,ya,za] 45)).alloc (.cells #[xf,yf,zf] 45)).alloc (.cells #[xb,yb,zb] 45)).alloc (.cells #[.bool false, .slice none 0 0, .slice none 0 0] 45)=W/\Below w.heap.size w W/\cK W (w.heap.size) xa ya za/\cK W (w.heap.size+1) xf yf zf/\cK W (w.heap.size+1+1) xb yb zb/\cK W (w.heap.size+1+1+1) (.bool false) (.slice none 0 0) (.slice none 0 0):=⟨_,rfl,((((aq _ _).alloc (by simp) _).alloc (by simp) _).alloc (by simp<;>omega) _).alloc (by simp<;>omega) _,by refine⟨?_,?_,?_,?_,?_,?_⟩<;>go_simp,by refine⟨?_,?_,?_,?_,?_,?_⟩<;>go_simp,by refine⟨?_,?_,?_,?_,?_,?_⟩<;>go_simp,by refine⟨?_,?_,?_,?_,?_,?_⟩<;>go_simp⟩;have l0:=i0.lt;have l1:=i1.lt;have l2:=i2.lt;have l3:=i3.lt;obtain⟨N0,kz⟩:=xeq w.heap.size;rw[kz]at i0 i1 i2 i3 l0 l1 l2 l3;have x0:=i2.c0;have x1:=i2.c1;have x2:=i2.c2;obtain⟨sg,kZ⟩:=xeq (fZ rb.num);have wk:=fN (hb.keep bC) (by omega) kZ;have hE0:sg=0->rb=0:=fun h=>Classical.byContradiction fun h2=>lU h2 (by rw[kZ];exact h);have HE0:=ah hE0;have rm:=ah (ai ha (ai hf (ai hb (ai hM bC))));have HW:=ah hW;clear hW ha hf hb hM bC hE0 kZ;go_enter Tryz.func88,Tryz.ntmps88
 go_wp2_with fail
 rw[HW.out];(try rw[kz]);refine wk.mono ?_;rintro e w1 ⟨rfl,g1⟩;clear wk x0 x1 x2 HW;obtain⟨ha,hf,hb,hM,bC⟩:=rm.out;have hb1:=bC.trans (g1.mono bC.size);have j0:=i0.keep g1;have j1:=i1.keep g1;have j2:=i2.keep g1;have j3:=i3.keep g1;have m0:=j0.lt;have m1:=j1.lt;have m2:=j2.lt;have m3:=j3.lt;have hMl:∀k,M k->k<N0:=fun k hk=>by have:=hM k hk;omega
 have HML:=ah hMl;have Co:=ah hb1;clear hM hMl i0 i1 i2 i3 g1 hb1 bC l0 l1 l2 l3
 by_cases h0:sg=0
 ·have hro:=ha.step (M':=fun k=>M k∨k=N0+1+1+1) (fun k hk=>hk.imp id (fun h=>by omega)) (P:=fun _=>False) (bw.of Co.out) (fun _ h=>h.elim);obtain⟨y0,y1,y2,y3,y4,y5⟩:=id j3;obtain⟨z0,z1,z2⟩:=hro.1.st;obtain⟨u0,u1,u2,-,-,-⟩:=id j0;have hcg:=bw.jc (N0+1+1+1) 0 w1 xa ya za
  have dw:=ah (show RO (((w1.setCell ⟨N0+1+1+1,0,none⟩ xa).setCell ⟨N0+1+1+1,1,none⟩ ya).setCell ⟨N0+1+1+1,2,none⟩ za) M xa ya za (ra-rf*rb) L/\Below w.heap.size w (((w1.setCell ⟨N0+1+1+1,0,none⟩ xa).setCell ⟨N0+1+1+1,1,none⟩ ya).setCell ⟨N0+1+1+1,2,none⟩ za)from by
   have e:ra-rf*rb=ra:=by rw[HE0.out h0];grind
   rw[e];exact⟨(((hro.bJ hcg (fun k hk=> .inr hk)).mono (by omega)).wide (fun k hk=> .inl (.inl hk))),Co.out.trans (hcg.below Co.out.size (fun q hq e=>by omega))⟩)
  clear hro hcg ha hf hb j0 j1 j2 j3;go_wp2_with fail
  exact bodyPost_ret (v:= .agg #[xa,ya,za]) (by simp[results,Tryz.results88,go_sem,y0,y1,y2]) rfl ⟨_,_,_,rfl,dw.out⟩
 ·have dH:=ah (fun w' (hb:Below w1.heap.size w1 w')=>show w'.cell? ⟨N0,0,none⟩=some xa/\w'.cell? ⟨N0,1,none⟩=some ya/\w'.cell? ⟨N0,2,none⟩=some za/\w'.cell? ⟨N0+1,0,none⟩=some xf/\w'.cell? ⟨N0+1,1,none⟩=some yf/\w'.cell? ⟨N0+1,2,none⟩=some zf/\w'.cell? ⟨N0+1+1,0,none⟩=some xb/\w'.cell? ⟨N0+1+1,1,none⟩=some yb/\w'.cell? ⟨N0+1+1,2,none⟩=some zb from⟨(j0.keep hb).c0,(j0.keep hb).c1,(j0.keep hb).c2,(j1.keep hb).c0,(j1.keep hb).c1,(j1.keep hb).c2,(j2.keep hb).c0,(j2.keep hb).c1,(j2.keep hb).c2⟩);have HJ3:=ah j3;clear j0 j1 j2 j3;have z10:=ha.1.rN;have z11:=hf.rN;have z12:=hb.rN;have Sg:=ah (ai hL hL2);have Cy:=ah (ai (ha.1.keep Co.out) (ai (hf.keep Co.out) (hb.keep Co.out)));clear ha hf hb hL hL2;go_upto_region 3 with fail
  refine wp_region_held_drew (S:=(fun w'=>w'.cell? ⟨N0,0,none⟩=some xa/\w'.cell? ⟨N0,1,none⟩=some ya/\w'.cell? ⟨N0,2,none⟩=some za/\w'.cell? ⟨N0+1,0,none⟩=some xf/\w'.cell? ⟨N0+1,1,none⟩=some yf/\w'.cell? ⟨N0+1,2,none⟩=some zf/\w'.cell? ⟨N0+1+1,0,none⟩=some xb/\w'.cell? ⟨N0+1+1,1,none⟩=some yb/\w'.cell? ⟨N0+1+1,2,none⟩=some zb)) (by kernel_rfl) (dH.out _ (aq _ _).drew) (fun aU=>?_);refine tq 0 aU ?_;refine tq 1 aU ?_;refine tq 2 aU ?_;refine tv 3 (fun κ hκ=>?_);go_simp;go_at_call 31;refine(iT ((Cy.out.2.1.keep (aq _ _).drew).mono (Nat.le_max_left K Kb)) ((Cy.out.2.2.keep (aq _ _).drew).mono (Nat.le_max_right K Kb)) (by have:=Sg.out;omega) rfl).mono ?_;rintro ret w3 ⟨b3,s3,t3,rfl,o3,g3⟩;have zU:=(aq w1.heap.size w1).drew.trans g3;have k3:=dH.out _ zU;have qR:=o3.is (Cy.out.2.1.sz.mul' Cy.out.2.2.sz rfl (aj _));have SR:=ah zU;clear o3 g3 zU;go_wp2_with fail
  refine hκ.out _ _ ?_ (fun aU=>?_)
  ·exact k3
  clear hκ κ;refine tu ?_;refine tv 4 (fun κ hκ=>?_);go_simp;go_at_call 30;refine(jm (((Cy.out.1.keep SR.out)).mono (Nat.le_max_left Ka (K+Kb))) (qR.mono (Nat.le_max_right Ka (K+Kb))) (by have:=Sg.out;omega) rfl).mono ?_;rintro ret w4 ⟨b4,s4,t4,rfl,o4,g4⟩;have hg4:=SR.out.trans (g4.mono SR.out.size);have k4:=dH.out _ hg4;have j4:=HJ3.out.keep hg4;obtain⟨y0,y1,y2,y3,y4,y5⟩:=id j4;obtain⟨z0,z1,z2⟩:=o4.st;have hcg:=bw.jc (N0+1+1+1) 0 w4 b4 s4 t4
  have dw:=ah (show RO (((w4.setCell ⟨N0+1+1+1,0,none⟩ b4).setCell ⟨N0+1+1+1,1,none⟩ s4).setCell ⟨N0+1+1+1,2,none⟩ t4) M b4 s4 t4 (ra-rf*rb) L/\Below w.heap.size w (((w4.setCell ⟨N0+1+1+1,0,none⟩ b4).setCell ⟨N0+1+1+1,1,none⟩ s4).setCell ⟨N0+1+1+1,2,none⟩ t4)from by
   have hsz:=Cy.out.1.sz.yX (Cy.out.2.1.sz.mul' Cy.out.2.2.sz rfl (aj _)) rfl Sg.out.1;have hro:RO w4 (fun k=>M k∨k=N0+1+1+1) b4 s4 t4 (ra-rf*rb) L:=o4.ro hsz (fun k hk=>by have h5:=SR.out.size;exact hk.elim (fun h=>by have:=HML.out k h;omega) (fun h=>by omega));have jd:=Co.out.trans (hg4.mono Co.out.size);exact⟨(hro.bJ hcg (fun k hk=> .inr hk)).wide (fun k hk=> .inl (.inl hk)),jd.trans (hcg.below jd.size (fun q hq e=>by omega))⟩)
  clear o4 g4 hg4 hcg j4;go_wp2_with fail
  refine hκ.out _ _ ?_ (fun aU=>?_)
  ·exact k4
  clear hκ κ;refine tu ?_;refine tv 5 (fun κ hκ=>?_);go_simp;refine hκ.out _ _ ?_ (fun aU=>?_)
  ·have c5:=bw.jc (N0+1+1+1) 0 w4 b4 s4 t4;have ne0:¬N0=N0+1+1+1:=by omega
   have Yl:¬N0+1=N0+1+1+1:=by omega
   have ne2:¬N0+1+1=N0+1+1+1:=by omega
   obtain⟨q0,q1,q2,q3,q4,q5,q6,q7,q8⟩:=k4;exact⟨c5.cell ne0 q0,c5.cell ne0 q1,c5.cell ne0 q2,c5.cell Yl q3,c5.cell Yl q4,c5.cell Yl q5,c5.cell ne2 q6,c5.cell ne2 q7,c5.cell ne2 q8⟩
  clear hκ κ;refine tu ?_;refine td ?_ _;go_wp2_with fail
  exact bodyPost_ret (v:= .agg #[b4,s4,t4]) (by simp[results,Tryz.results88,go_sem,y0,y1,y2]) rfl ⟨_,_,_,rfl,dw.out⟩
def bs(K B:Nat):Nat->Nat
 |0=>B
 |k+1=>bs K B k+k* (K+bs K B k+1)+K
theorem sc(K B:Nat){k n:Nat}(h:k<=n):bs K B k<=bs K B n:=by
 induction n with
 |zero=>rw[Nat.le_zero.1 h];exact aj _
 |succ n ih=>
  rcases aN k (n+1)with h1|h1
  ·have:=ih (by omega);show _<=bs K B n+n* (K+bs K B n+1)+K;omega
  ·rw[show k=n+1 by omega];exact aj _
theorem zA(K B:Nat){k n q:Nat}(h:k<n)(hq:q<=k):bs K B k+q* (K+bs K B k+1)+K<=bs K B n:=by
 have h1:=sc K B (k:=k+1) (n:=n) h;have h2:q* (K+bs K B k+1)<=k* (K+bs K B k+1):=aH _ hq;have h3:bs K B (k+1)=bs K B k+k* (K+bs K B k+1)+K:=rfl;omega
theorem EL.pre{w:World}{D:Option Addr}{l m:List (Nat×Rat)}{K:Nat}(h:EL w D (l++m) K):EL w D l K:=fun h0=>by
 obtain⟨b,off,e,hlt,hc⟩:=h (by rw[List.length_append];omega);exact⟨b,off,e,hlt,fun i p hp=>hc i p (by rw[aL (aC.1 hp).1];exact hp)⟩
theorem dL.self{w:World}{g n:Nat}{f:Nat->Qc}(h:dL w g n f)(i:Nat):dL w g n (bE f i (f i)):=h.congr fun j _=>by
 by_cases e:j=i
 ·subst e;rw[aW]
 ·rw[bk _ _ e]
def XR(w:World)(M:Nat->Prop)(D:Option Addr)(l:List Rat)(K:Nat):Prop:=
 0<l.length->∃b off,D=some ⟨b,off,none⟩/\b<w.heap.size/\∀(i:Nat) (r:Rat),l[i]?=some r->∃x y z,w.cell? ⟨b,off+i*3,none⟩=some x/\w.cell? ⟨b,off+i*3+1,none⟩=some y/\w.cell? ⟨b,off+i*3+2,none⟩=some z/\RO w M x y z r K
theorem XR.below{w w':World}{M:Nat->Prop}{D:Option Addr}{l:List Rat}{K:Nat}(h:XR w M D l K)(hb:Below w.heap.size w w'):XR w' M D l K:=fun h0=>by
 obtain⟨b,off,rfl,hlt,hc⟩:=h h0;refine⟨b,off,rfl,ak hlt hb.size,fun i r hr=>?_⟩;obtain⟨x,y,z,h1,h2,h3,h4⟩:=hc i r hr;exact⟨x,y,z,bn hb hlt h1,bn hb hlt h2,bn hb hlt h3,h4.bJ (P:=fun _=>False) (bw.of hb) (fun _ h=>h.elim)⟩
theorem QL.m{w:World}{D:Option Addr}{l:List Rat}{K:Nat}(h:QL w D l K):XR w (fun _=>False) D l K:=fun h0=>by
 obtain⟨b,off,rfl,hlt,hc⟩:=h h0;refine⟨b,off,rfl,hlt,fun i r hr=>?_⟩;obtain⟨x,y,z,h1,h2,h3,h4⟩:=hc i r hr;exact⟨x,y,z,h1,h2,h3,h4,fun _ _ _ _ _ h=>h,fun _ _ _ _ _ h=>h⟩
theorem dL.qlm{w:World}{g m K:Nat}{f:Nat->Qc}{M:Nat->Prop}(h:dL w g m f)(hok:∀i,i<m->(f i).ok w M K):XR w M (some ⟨g,0,none⟩) (rZ m f) K:=fun _=>by
 refine⟨g,0,rfl,h.lt,fun i r hr=>?_⟩;have hi:i<m:=by have:=(aC.1 hr).1;rwa [oL]at this
 rw[oM hi]at hr;injection hr with hr
 subst hr;obtain⟨h1,h2,h3⟩:=h.cell hi;exact⟨_,_,_,by rw[Nat.zero_add];exact h1,by rw[Nat.zero_add];exact h2,by rw[Nat.zero_add];exact h3,hok i hi⟩
theorem GI{w:World}{v:Value}{n c K Kb B:Nat}{D:Option Addr}{N:Nat->Nat->Rat}{rs cs:Nat->Nat}{lo up:Nat->List (Nat×Rat)}{b:List Rat}(h:Sc w v n rs cs lo up K)(hp:Eo n N rs cs lo up)(hn:n<=12)(mB:1<=K)(hK:K<=549755813888)(M0:Nat->Prop)(hM0:∀x,M0 x->x<w.heap.size)(hb:XR w M0 D b Kb)(hbl:b.length=n)(hbB:Kb<=B)(vT:1<=B)(hS:bs K (bs K B n) n<=1099511627776):
 Calls Tryz.prog 48 #[v, .slice D n c] w (fun e w'=>∃g f,e= .returned (.tuple #[.slice (some ⟨g,0,none⟩) n n, .int .i64 0])/\w.heap.size<=g/\dL w' g n f/\(∀i,i<n->(f i).ok w' (fun x=>x=g∨M0 x) (bs K (bs K B n) n))/\(∀i,i<n->Gd.S n (fun j=>N i j* (f j).r)=(b[i]?).getD 0)/\Below w.heap.size w w'):=by
 have RX:=fun W (hb:Below w.heap.size w W)=>IJ (c:=c) (D:=D) (h.below hb) hp hn mB hK;obtain⟨gR,gC,DL,DU,cL,cU,rfl,hR,hC,hL,hU⟩:=id h.ex;have bC:=bI w (.cells #[.slice (some ⟨gR,0,none⟩) n n, .slice (some ⟨gC,0,none⟩) n n, .int .i64 (n:Int), .int .i64 (n:Int), .slice DL n cL, .int .i64 (n:Int), .int .i64 (n:Int), .slice DU n cU] 96);have i0:=Fp.new w n gR gC cL cU DL DU;obtain⟨W,hW⟩:=xeq (w.alloc (.cells #[.slice (some ⟨gR,0,none⟩) n n, .slice (some ⟨gC,0,none⟩) n n, .int .i64 (n:Int), .int .i64 (n:Int), .slice DL n cL, .int .i64 (n:Int), .int .i64 (n:Int), .slice DU n cU] 96));rw[hW]at bC i0;have l0:=i0.lt;have aaz:=RX W bC;have HB:=ah (fun w' (hb2:Below W.heap.size W w')=>ai (bC.trans (hb2.mono bC.size)) (i0.below hb2 l0));have HQW:=ah (hb.below bC);have HM0:=ah (show∀x,M0 x->x<W.heap.size from fun x h=>ak (hM0 x h) bC.size);have HLW:=ah (ai (hR.below bC hR.lt) (ai (hC.below bC hC.lt) (ai (hL.below bC) (hU.below bC))));have HP:=ah hp;have HS:=ah (ai mB (ai hbl (ai hbB (ai vT hS))));obtain⟨N0,kz⟩:=xeq w.heap.size;obtain⟨c0,c1,c2,c3,c4,c5,c6,c7⟩:=i0.c;rw[kz]at c0 c1 c2 c3 c4 c5 c6 c7 HB;have hNW:N0<=W.heap.size:=by rw[<-kz];exact bC.size
 have hNlt:N0<W.heap.size:=by rw[<-kz];exact l0
 have HNW:=ah (show w.heap.size<=W.heap.size from bC.size);have HW:=ah hW;have EN:=ah kz;have mkQ:=mY (n:Int) n rfl (by omega);obtain⟨GJ,hQ⟩:=xeq (dF n (fun _=>Qc.z));rw[hQ]at mkQ;have HQ:=ah hQ;clear h hp RX hM0 hR hC hL hU bC hW hb mB hbl hbB vT hS i0 l0 kz hQ;go_enter Tryz.func48,Tryz.ntmps48
 go_wp2_with fail
 rw[HW.out];(try rw[EN.out]);refine aaz.mono ?_;rintro e w1 ⟨rfl,g1⟩;clear aaz c0 c1 c2 c3 c4 c5 c6 c7;obtain⟨hb1,i1⟩:=HB.out _ g1;obtain⟨c0,c1,c2,c3,c4,c5,c6,c7⟩:=i1.c;have mkZ:=mkQ w1;have bz:=bI w1 (.cells GJ 45);have hz:dL (w1.alloc (.cells GJ 45)) w1.heap.size n (fun _=>Qc.z):=by unfold dL;rw[HQ.out];exact aS w1 _
 obtain⟨w2,hw2⟩:=xeq (w1.alloc (.cells GJ 45));obtain⟨gz,XM⟩:=xeq w1.heap.size;rw[hw2]at bz hz mkZ;rw[XM]at hz mkZ;have g2:=g1.trans (bz.mono g1.size);have J0:=ah (show W.heap.size<=gz from by rw[<-XM];exact g1.size);have HI0:=ah (show dL w2 gz n (fun _=>Qc.z)/\(∀i,i<n->Qc.z.ok w2 (fun x=>x=gz∨M0 x) B)/\(∀i,i<0->(Qc.z).r=(b[rs i]?).getD 0-Gd.LS (fun _=>(Qc.z).r) (lo i))/\Below W.heap.size W w2 from⟨hz,fun i _=>Qc.okz HS.out.2.2.2.1,fun i hi=>absurd hi (Nat.not_lt_zero _),g2⟩);clear g1 hb1 i1 bz hz g2 XM mkQ;go_wp2_with fail
 clear mkZ hw2 c0 c1 c2 c3 c4 c5 c6 c7
 go_loopw [31] (fun t wr=>∃(k:Nat) (f:Nat->Qc),k<=n/\t= .int .i64 (k:Int)/\dL wr gz n f/\(∀i,i<n->(f i).ok wr (fun x=>x=gz∨M0 x) (bs K B k))/\(∀i,i<k->(f i).r=(b[rs i]?).getD 0-Gd.LS (fun j=>(f j).r) (lo i))/\Below W.heap.size W wr) (fun t _=>n- (intOf t).toNat)
 case atStart=>exact⟨0,_,aF _,rfl,HI0.out⟩
 case round=>
  clear HI0;obtain⟨k,f,hk,rfl,hrow,hok,hval,cF⟩:=hrel
  by_cases hlk:k<n
  ·obtain⟨_,i1⟩:=HB.out _ cF;obtain⟨hR,hC,N4,Vn⟩:=HLW.out;obtain⟨c0,c1,c2,c3,c4,c5,c6,c7⟩:=i1.c;have zR:=bn cF hR.lt (hR.cell hlk);have JU:=HP.out.Gz k hlk;obtain⟨r,er⟩:=xeq (rs k);rw[er]at zR JU;clear Vn;obtain⟨qb,qo,rfl,rO,Mg⟩:=HQW.out (by rw[HS.out.2.1];omega);obtain⟨br,hbr⟩:∃x,b[r]?=some x:=⟨b[r]'(by rw[HS.out.2.1];exact JU),aB _⟩;obtain⟨bx,dX,bz,q0,q1,q2,hrb⟩:=Mg r br hbr;obtain⟨o0,o1,o2⟩:=hrb.1.st;replace q0:=(cF.cell (p:=⟨qb,qo+r*3,none⟩) rO).trans q0;replace q1:=(cF.cell (p:=⟨qb,qo+r*3+1,none⟩) rO).trans q1;replace q2:=(cF.cell (p:=⟨qb,qo+r*3+2,none⟩) rO).trans q2;have hro:=hrb.step (M':=fun x=>x=gz∨M0 x) (fun k hk=>hk.elim (fun e=> .inr (by rw[e];exact J0.out)) .inl) (bw.of cF) (P:=fun _=>False) (fun _ h=>h.elim);obtain⟨bl,ol,rfl,hbl,hcl⟩:=N4 (by omega);obtain⟨Dl,cl,r0,ae1,hel⟩:=hcl k hlk;obtain⟨la,kL⟩:=xeq ((lo k).length);obtain⟨m,em⟩:=xeq ((lo k++ [(k,(1:Rat))]).length);have hm1:m=la+1:=by rw[<-em,List.length_append,kL];rfl
   have hla:la<=k:=by rw[<-kL];exact HP.out.Mf hlk
   dsimp only at zR r0;rw[em]at r0 ae1;obtain⟨lb,N5,rfl,hlb,hlc⟩:=id (hel (by rw[em];omega));clear hlc;replace r0:=bn cF hbl r0;have hwr:IntKind.i64.wrap ((m:Int) -1)=(la:Int):=by rw[IntKind.wrap_i64];omega
   have v0:(0:Int)<=(k:Int):=by omega
   have v1:(k:Int)<n:=by omega
   have v2:(0:Int)<=(r:Int):=by omega
   have v3:(r:Int)<n:=by omega
   have s0:(0:Int)<=(la:Int):=by omega
   have s1:(la:Int)<=(cl:Int):=by omega
   have zz:=hrow.cell hlk;have fz:=hrow.frozen;have Cs:=fz (k*3);have GZ:=fz (k*3+1);have JC:=fz (k*3+2);obtain⟨zz0,zz1,zz2⟩:=zz;have hset:=hrow.set hlk ⟨bx,dX,bz,br⟩;have hcs:=bw.jc gz k wr bx dX bz;have kLt:=hlk;have a1:¬N0=gz:=by have:=J0.out;omega
   have a2:¬bl=gz:=by have:=J0.out;omega
   have rm:=ah (show dL _ gz n (bE f k ⟨bx,dX,bz,br⟩)/\Qc.ok _ (fun x=>x=gz∨M0 x) (bs K B k+0* (K+bs K B k+1)) ⟨bx,dX,bz,br⟩/\(Qc.mk bx dX bz br).r=br-Gd.LS (fun j=>(f j).r) ((lo k).take 0)/\bw (·=gz) wr _ from by
    refine⟨hset,((hro.bJ hcs (fun _ h=> .inl h)).mono (by have h1:=HS.out.2.2.1;have h2:B<=bs K B k:=sc K B (aF k);omega)),?_,hcs⟩
    show br=br-0
    grind)
   obtain⟨wo,rfl⟩:∃wo,wo=wr:=⟨_,rfl⟩;have UW:=ah (show∀i,i<n->(f i).ok wo (fun x=>x=gz∨M0 x) (bs K B k)from hok)
   have Vq:=ah (show∀w',bw (·=gz) wo w'->Below W.heap.size W w' from fun w' hc=>by
    exact cF.trans (hc.below cF.size (fun q hq e=>by have:=J0.out;omega)))
   have PW:=ah (show∀w',Below W.heap.size W w'->EL w' (some ⟨lb,N5,none⟩) (lo k) K from fun w' hb2=>hel.pre.below hb2);have XS:=ah kL;have HLA:=ah hla;have Pj:=ah (show∀p∈lo k,p.1<n/\p.1≠k from fun p hp=>by have:=(HP.out.Ep k hlk).lt p hp;omega);have HGL:=ah (show∀x,(x=gz∨M0 x)->x<wo.heap.size from fun x e=>e.elim (fun e=>by rw[e];exact hrow.lt) (fun h=>ak (HM0.out x h) cF.size))
   have HBD:=ah (show la* (K+bs K B k+1)+bs K B k<=1099511627776 from by
    have h1:=zA K B hlk hla;have h2:=sc K (bs K B n) (aF n);have h3:bs K (bs K B n) 0=bs K B n:=rfl;have h4:=HS.out.2.2.2.2;omega)
   have iR:=ah (ai hval (ai hbr er));clear hrow hok hval cF i1 hR hC N4 Mg hbr hrb hro hcl hel em kL hset hcs fz er hla
   go_upto_block 2 with fail
   clear a1 a2 zR q0 q1 q2 r0 zz0 zz1 zz2 Cs GZ JC o0 o1 o2 c0 c1 c2 c3 c4 c5 c6 c7;go_wp2_with fail
   go_loopw [57] (fun t wr=>∃(q:Nat) (x:Qc),q<=la/\t= .int .i64 (q:Int)/\dL wr gz n (bE f k x)/\x.ok wr (fun x=>x=gz∨M0 x) (bs K B k+q* (K+bs K B k+1))/\x.r=br-Gd.LS (fun j=>(f j).r) ((lo k).take q)/\bw (·=gz) wo wr) (fun t _=>la- (intOf t).toNat)
   case atStart=>exact⟨0,_,aF _,rfl,rm.out⟩
   case round=>
    clear rm;obtain⟨q,x,hq,rfl,hrow,Qg,Hz,hcb⟩:=hrel
    by_cases K7:q<la
    ·have hbe:=Vq.out _ hcb;have hel:=PW.out _ hbe;obtain⟨p,hpq⟩:∃p,(lo k)[q]?=some p:=⟨(lo k)[q]'(by have:=XS.out;omega),aB _⟩;obtain⟨jB,hpk⟩:=Pj.out p (aD hpq);obtain⟨xb,xo,hDe,hxl,e0,y1,y2,y3,e1,e2,e3,tD⟩:=hel.nth hpq;injection hDe with hDe
     injection hDe with aor aos _
     subst aor aos;obtain⟨n0,n1,n2⟩:=tD.st;obtain⟨pi,pR⟩:=xeq p.1;rw[pR]at e0 jB hpk;have v4:(0:Int)<=(q:Int):=by omega
     have v5:(q:Int)<la:=by omega
     have v6:(0:Int)<=(pi:Int):=by omega
     have v7:(pi:Int)<n:=by omega
     have bo:=bI wr (.cells #[.int .i64 (pi:Int),y1,y2,y3] 92);have i5:=Cr.new wr (.int .i64 (pi:Int)) y1 y2 y3;obtain⟨wb,gh⟩:=xeq (wr.alloc (.cells #[.int .i64 (pi:Int),y1,y2,y3] 92));obtain⟨Ne,fG⟩:=xeq wr.heap.size;rw[gh]at bo i5;rw[fG]at i5;have bz:=bo.trans ((aq wb.heap.size wb).drew.mono bo.size);have kW:=hrow.below bz;obtain⟨Cz,CA,CB⟩:=kW.cell kLt;obtain⟨WC,WE,WG⟩:=kW.cell jB;rw[aW]at Cz CA CB;rw[bk _ _ hpk]at WC WE WG;have hoj:=(UW.out pi jB).bJ (P:=fun x=>x=gz) (hcb.trans (bw.of bz)) (fun k hk=> .inl hk)
     have hless:=GH (L:=bs K B k+ (q+1)* (K+bs K B k+1)) (Qg.step (M':=(fun x=>x=gz∨M0 x)) (fun _ h=> .inl h) (bw.of bz) (P:=fun _=>False) (fun _ h=>h.elim)) (tD.keep bz) hoj.1 (fun k hk=>by have:=HGL.out k hk;have:=hcb.size;have:=bz.size;omega) (by rw[Nat.succ_mul];omega) (by
      have h1:=HBD.out;have h2:(q+1)* (K+bs K B k+1)<=la* (K+bs K B k+1):=aH _ K7;omega)
     obtain⟨jb,Qh⟩:=xeq ((f pi).b);obtain⟨js,Qi⟩:=xeq ((f pi).s);obtain⟨jt,Qj⟩:=xeq ((f pi).t);rw[Qh]at WC;rw[Qi]at WE;rw[Qj]at WG;rw[Qh,Qi,Qj]at hless;obtain⟨xb',Mh⟩:=xeq x.b;obtain⟨xs',zY⟩:=xeq x.s;obtain⟨xt',ext⟩:=xeq x.t;rw[Mh]at Cz;rw[zY]at CA;rw[ext]at CB;rw[Mh,zY,ext]at hless;have i6:=i5.keep (aq wb.heap.size wb).drew;have Qk:=kW.lt;have h6l:=i6.lt;have hne:¬Ne=gz:=fun e=>by have:=hrow.lt;omega
     have dH:=ah (fun w' (hb:Below wb.drew.heap.size wb.drew w')=>ai ((i6.keep hb).c0) (ai ((i6.keep hb).c1) (ai ((i6.keep hb).c2) (ai ((i6.keep hb).c3) (ai (bn hb Qk WC) (ai (bn hb Qk WE) (bn hb Qk WG)))))));have L4:=ah kW;have HPN:=ah (ai jB hpk);have Vs:=ah (ai Qh (ai Qi Qj));have rX:=ah hne;have JY:=ah (hcb.trans (bw.of bz));have lC:=ah gh;have ny:=ah fG;have Ql:=ah (ai Hz (ai hpq pR));clear hrow Qg Hz hcb hbe hel hpq tD bo i5 gh fG bz kW hoj pR i6 Qk h6l hne Qh Qi Qj Mh zY ext hpk;go_upto_region 14 with fail
     (try rw[lC.out]);(try rw[ny.out]);clear e0 e1 e2 e3;refine wp_region_held_drew (S:=(fun w'=>w'.cell? ⟨Ne,0,none⟩=some (.int .i64 (pi:Int))/\w'.cell? ⟨Ne,1,none⟩=some y1/\w'.cell? ⟨Ne,2,none⟩=some y2/\w'.cell? ⟨Ne,3,none⟩=some y3/\w'.cell? ⟨gz,pi*3,none⟩=some jb/\w'.cell? ⟨gz,pi*3+1,none⟩=some js/\w'.cell? ⟨gz,pi*3+2,none⟩=some jt)) (by kernel_rfl) (dH.out _ (aq _ _)) (fun aU=>?_);refine tq 0 aU ?_;refine tq 1 aU ?_;refine tq 2 aU ?_;refine tq 3 aU ?_;refine tq 4 aU ?_;refine tq 6 aU ?_;refine tq 7 aU ?_;refine tq 8 aU ?_;refine tq 9 aU ?_;refine tq 10 aU ?_;refine tq 11 aU ?_;refine tq 12 aU ?_;refine tv 5 (fun κ hκ=>?_);go_simp;refine hκ.out _ _ ?_ (fun aU=>?_)
     ·exact aU
     clear hκ κ;refine tu ?_;refine tv 13 (fun κ hκ=>?_);go_simp;go_at_call 88;refine hless.mono ?_;rintro ret w14 ⟨b14,s14,t14,rfl,vD,g14⟩;clear hless Cz CA CB;have k14:=dH.out _ g14;have r14:=L4.out.below g14;obtain⟨c0,c1,c2⟩:=r14.cell kLt;have fz:=r14.frozen;have Cs:=fz (k*3);have GZ:=fz (k*3+1);have JC:=fz (k*3+2);obtain⟨o0,o1,o2⟩:=vD.1.st
     have hset:=(r14.set kLt ⟨b14,s14,t14,x.r-p.2* (f pi).r⟩).congr (f':=bE f k ⟨b14,s14,t14,x.r-p.2* (f pi).r⟩) (fun j _=>by
      by_cases e:j=k
      ·subst e;rw[aW,aW]
      ·rw[bk _ _ e,bk _ _ e,bk _ _ e])
     have hcs:=bw.jc gz k w14 b14 s14 t14;have zV:=hset.cell HPN.out.1;rw[bk _ _ HPN.out.2,Vs.out.1,Vs.out.2.1,Vs.out.2.2]at zV;have vE:=vD.bJ hcs (fun k hk=> .inl hk);obtain⟨w15,Fs⟩:=xeq (((w14.setCell ⟨gz,k*3,none⟩ b14).setCell ⟨gz,k*3+1,none⟩ s14).setCell ⟨gz,k*3+2,none⟩ t14);rw[Fs]at hset hcs zV vE;have k15:=ai (hcs.cell rX.out k14.1) (ai (hcs.cell rX.out k14.2.1) (ai (hcs.cell rX.out k14.2.2.1) (ai (hcs.cell rX.out k14.2.2.2.1) zV)));have HST:=ah (ai hset (ai vE (JY.out.trans ((bw.of g14).trans hcs))));have WH:=ah Fs;clear hset hcs zV vE vD g14 r14 fz Fs;go_wp2_with fail
     refine hκ.out _ _ ?_ (fun aU=>?_)
     ·exact k14
     clear hκ κ;refine tu ?_;refine tq 14 aU ?_;refine tv 15 (fun κ hκ=>?_);go_simp;rw[WH.out];refine hκ.out _ _ ?_ (fun aU=>?_)
     ·exact k15
     clear hκ κ;refine tu ?_;refine td ?_ _;clear aU k14 k15;go_wp2_with fail
     go_roundw
     case rel=>exact⟨q+1,_,by omega,by go_num,HST.out.1,HST.out.2.1,by
      show x.r-p.2* (f pi).r=_
      rw[Ql.out.1,List.take_add_one,Ql.out.2.1,Gd.zm]
      show _=_- (_+ (p.2* (f p.1).r+0))
      rw[Ql.out.2.2];grind,HST.out.2.2⟩
     case measure=>simp[intOf];omega
    ·obtain rfl:la=q:=by omega
     have hLS:∀i,i<k+1->Gd.LS (fun j=>(bE f k x j).r) (lo i)=Gd.LS (fun j=>(f j).r) (lo i):=fun i hi=>Gd.oh fun e he=>by
      have:=(HP.out.Ep i (by omega)).lt e he;rw[bk _ _ (by omega)]
     rw[<-XS.out,List.take_length]at Hz
     have HX:=ah (show dL wr gz n (bE f k x)/\(∀i,i<n->(bE f k x i).ok wr (fun x=>x=gz∨M0 x) (bs K B (k+1)))/\(∀i,i<k+1->(bE f k x i).r=(b[rs i]?).getD 0-Gd.LS (fun j=>(bE f k x j).r) (lo i))/\Below W.heap.size W wr from by
      refine⟨hrow,fun i hi=>?_,fun i hi=>?_,Vq.out _ hcb⟩
      ·by_cases e:i=k
       ·subst e;rw[aW];exact Qg.mono (by have h1:=zA K B (n:=i+1) (k:=i) (q:=la) (by omega) HLA.out;rw[<-XS.out]at h1⊢;omega)
       ·rw[bk _ _ e];exact((UW.out i hi).bJ hcb (fun _ h=> .inl h)).mono (sc K B (Nat.le_succ k))
      ·rw[hLS i hi]
       by_cases e:i=k
       ·subst e;rw[aW,iR.out.2.2,iR.out.2.1];exact Hz
       ·rw[bk _ _ e];exact iR.out.1 i (by omega))
     clear hrow Qg Hz hcb hLS;go_wp2_with fail
     go_roundw
     case rel=>exact⟨k+1,_,by omega,by go_num,HX.out⟩
     case measure=>simp[intOf];omega
  ·obtain rfl:n=k:=by omega
   obtain⟨Z,hZ⟩:∃Z:Nat->Rat,∀i,(f i).r=Z i:=⟨_,fun _=>rfl⟩;have hZf:(fun j=>(f j).r)=Z:=funext hZ
   have hZv:∀i,i<n->Z i=(b[rs i]?).getD 0-Gd.LS Z (lo i):=fun i hi=>by
    have h1:=hval i hi;rw[hZf,hZ]at h1;exact h1
   have mkX:=mY (n:Int) n rfl (by omega) wr;rw[HQ.out]at mkX;have bx:=bI wr (.cells GJ 45);have hx:dL (wr.alloc (.cells GJ 45)) wr.heap.size n (fun _=>Qc.z):=by unfold dL;rw[HQ.out];exact aS wr _
   obtain⟨w3,hw3⟩:=xeq (wr.alloc (.cells GJ 45));obtain⟨gx,hgx⟩:=xeq wr.heap.size;rw[hw3]at bx hx mkX;rw[hgx]at hx mkX;have hzl:gz<gx:=by rw[<-hgx];exact hrow.lt
   have vT:1<=bs K B n:=by have:=sc K B (aF n);have h0:bs K B 0=B:=rfl;have:=HS.out.2.2.2.1;omega
   have HG2:=ah (show W.heap.size<=gx/\gz≠gx from⟨by have:=J0.out;omega,by omega⟩)
   have HI1:=ah (show dL w3 gz n f/\dL w3 gx n (fun _=>Qc.z)/\(∀i,i<n->(f i).ok w3 (fun x=>x=gz∨x=gx∨M0 x) (bs K (bs K B n) 0))/\(∀i,i<n->Qc.z.ok w3 (fun x=>x=gz∨x=gx∨M0 x) (bs K (bs K B n) 0))/\(∀i,i+0<n->(f i).r=Z i)/\(∀i,i<n->n<=i+0->Gd.LS (fun j=>(f j).r) (up i)=Z i/\(Qc.z).r=(f i).r)/\Below W.heap.size W w3 from
    ⟨hrow.below bx,hx,fun i hi=>(hok i hi).step (fun k hk=>hk.elim (fun e=> .inl (.inl e)) (fun h=>h.elim (fun e=> .inr (by rw[e,hgx];exact aj _)) (fun h=> .inl (.inr h)))) (bw.of bx) (P:=fun _=>False) (fun _ h=>h.elim),fun i _=>Qc.okz vT,fun i _=>hZ i,fun i h1 h2=>absurd h1 (by omega),cF.trans (bx.mono cF.size)⟩)
   have HZV:=ah hZv;clear hrow hok hval cF hZ hZf hZv bx hx hgx hzl vT;go_wp2_with fail
   clear mkX hw3
   go_loopw [81] (fun t wr=>∃(k:Nat) (f g:Nat->Qc),k<=n/\t= .int .i64 (k:Int)/\dL wr gz n f/\dL wr gx n g/\(∀i,i<n->(f i).ok wr (fun x=>x=gz∨x=gx∨M0 x) (bs K (bs K B n) k))/\(∀i,i<n->(g i).ok wr (fun x=>x=gz∨x=gx∨M0 x) (bs K (bs K B n) k))/\(∀i,i+k<n->(f i).r=Z i)/\(∀i,i<n->n<=i+k->Gd.LS (fun j=>(f j).r) (up i)=Z i/\(g (cs i)).r=(f i).r)/\Below W.heap.size W wr) (fun t _=>n- (intOf t).toNat)
   case atStart=>exact⟨0,_,_,aF _,rfl,HI1.out⟩
   case round=>
    clear HI1;obtain⟨k,f,g,hk,rfl,hrow,hrx,hok,BZ,hfz,pE,cF⟩:=hrel
    by_cases hlk:k<n
    ·obtain⟨i,hik⟩:∃i,i+k+1=n:=⟨n-k-1,by omega⟩;obtain⟨m1,hm1⟩:∃m,m+1=n:=⟨n-1,by omega⟩;have hil:i<n:=by omega
     have aot:IntKind.i64.wrap ((n:Int) -1)=(m1:Int):=by rw[IntKind.wrap_i64];omega
     have QM:IntKind.i64.wrap ((m1:Int) - (k:Int))=(i:Int):=by rw[IntKind.wrap_i64];omega
     obtain⟨_,i1⟩:=HB.out _ cF;obtain⟨hR,hC,N4,Vn⟩:=HLW.out;obtain⟨c0,c1,c2,c3,c4,c5,c6,c7⟩:=i1.c;obtain⟨hcan,d,u,J3,Cp⟩:=HP.out.IE i hil;obtain⟨bu,ou,rfl,hbu,Xt⟩:=Vn (by omega);obtain⟨Du,cu,r1,ae2,Vo⟩:=Xt i hil;replace r1:=bn cF hbu r1;obtain⟨lu,Vp⟩:=xeq ((up i).length);obtain⟨lt,N7⟩:=xeq u.length;have ae4:lu=lt+1:=by rw[<-Vp,J3,<-N7];rfl
     rw[J3]at Vo hcan;have htl:=hcan.tail
     have hlt:lt<=k:=by
      have:=mX (a:=i+1) (b:=n) htl.1.jF (fun p hp=>⟨htl.2 p hp,htl.1.lt p hp⟩) (by omega);omega
     rw[Vp]at r1 ae2;obtain⟨ub,uo,rfl,Qf,-,dx,dy,dz,p1,p2,p3,hrd⟩:=Vo.nth (i:=0) (p:=(i,d)) rfl;rw[Nat.zero_mul,Nat.add_zero]at p1 p2 p3;have aa4:=Vo.tail.UK (c:=cu) (by omega);have v0:(0:Int)<=(k:Int):=by omega
     have v1:(k:Int)<n:=by omega
     have v2:(0:Int)<=(i:Int):=by omega
     have v3:(i:Int)<n:=by omega
     have s0:(1:Int)<=(lu:Int):=by omega
     have s1:(lu:Int)<=(cu:Int):=by omega
     have s2:1<=lu:=by omega
     have s4:0<lu:=by omega
     have hltk:lt<=12:=by omega
     have s3:lu<=cu:=by omega
     have N8:=hil;obtain⟨wo,rfl⟩:∃wo,wo=wr:=⟨_,rfl⟩
     have rm:=ah (show dL wo gz n (bE f i (f i))/\(f i).ok wo (fun x=>x=gz∨x=gx∨M0 x) (bs K (bs K B n) k+0* (K+bs K (bs K B n) k+1))/\(f i).r=Z i-Gd.LS (fun j=>(f j).r) (u.take 0)/\bw (·=gz) wo wo from
      ⟨hrow.self i,(hok i hil).mono (by omega),by rw[hfz i (by omega)];show Z i=Z i-0;grind,bw.refl _ _⟩)
     have UW:=ah hok
     have Vq:=ah (show∀w',bw (·=gz) wo w'->Below W.heap.size W w' from fun w' hc=>by
      exact cF.trans (hc.below cF.size (fun q hq e=>by have:=J0.out;omega)))
     have WI:=ah aa4;have XS:=ah N7;have Pj:=ah (show∀p∈u,p.1<n/\p.1≠i from fun p hp=>⟨htl.1.lt p hp,by have:=htl.2 p hp;dsimp only at this;omega⟩);have HGL:=ah (show∀x,(x=gz∨x=gx∨M0 x)->x<wo.heap.size from fun x e=>e.elim (fun e=>by rw[e];exact hrow.lt) (fun e=>e.elim (fun e=>by rw[e];exact hrx.lt) (fun h=>ak (HM0.out x h) cF.size)))
     have HBD:=ah (show lt* (K+bs K (bs K B n) k+1)+bs K (bs K B n) k<=1099511627776 from by
      have h1:=zA K (bs K B n) hlk hlt;have h4:=HS.out.2.2.2.2;omega)
     have Si:=ah (ai J3 (ai Cp (ai htl (ai hlt (ai hik hrd)))));have iR:=ah (ai hfz (ai pE (ai hrx (ai BZ (ai p1 (ai p2 (ai p3 Qf)))))));have ae5:=ah ae4;clear hrow hrx hok BZ hfz pE cF i1 hR hC N4 Vn Xt hcan Vo J3 Cp htl hlt Vp N7 ae4 aa4 hrd hm1 hik p1 p2 p3
     go_upto_block 6 with fail
     rw[show lu-1=lt by rw[ae5.out];rfl];generalize (if cu=1 then some (⟨ub,uo,none⟩:Addr)else some ⟨ub,uo+4,none⟩)=Dnb at WI⊢;have PW:=ah (show∀w',Below W.heap.size W w'->EL w' Dnb u K from fun w' hb2=>WI.out.below hb2);clear WI c0 c1 c2 c3 c4 c5 c6 c7 r1 ae5 aot QM;go_wp2_with fail
     go_loopw [97] (fun t wr=>∃(q:Nat) (x:Qc),q<=lt/\t= .int .i64 (q:Int)/\dL wr gz n (bE f i x)/\x.ok wr (fun x=>x=gz∨x=gx∨M0 x) (bs K (bs K B n) k+q* (K+bs K (bs K B n) k+1))/\x.r=Z i-Gd.LS (fun j=>(f j).r) (u.take q)/\bw (·=gz) wo wr) (fun t _=>lt- (intOf t).toNat)
     case atStart=>exact⟨0,_,aF _,rfl,rm.out⟩
     case round=>
      clear rm;obtain⟨q,x,hq,rfl,hrow,Qg,Hz,hcb⟩:=hrel
      by_cases K7:q<lt
      ·have hbe:=Vq.out _ hcb;have hel:=PW.out _ hbe;obtain⟨p,hpq⟩:∃p,u[q]?=some p:=⟨u[q]'(by have:=XS.out;omega),aB _⟩;obtain⟨jB,hpk⟩:=Pj.out p (aD hpq);obtain⟨xb,xo,hDe,hxl,e0,y1,y2,y3,e1,e2,e3,tD⟩:=hel.nth hpq;subst hDe;obtain⟨n0,n1,n2⟩:=tD.st;obtain⟨pi,pR⟩:=xeq p.1;rw[pR]at e0 jB hpk;have v4:(0:Int)<=(q:Int):=by omega
       have v5:(q:Int)<lt:=by omega
       have v6:(0:Int)<=(pi:Int):=by omega
       have v7:(pi:Int)<n:=by omega
       have bo:=bI wr (.cells #[.int .i64 (pi:Int),y1,y2,y3] 92);have i5:=Cr.new wr (.int .i64 (pi:Int)) y1 y2 y3;obtain⟨wb,gh⟩:=xeq (wr.alloc (.cells #[.int .i64 (pi:Int),y1,y2,y3] 92));obtain⟨Ne,fG⟩:=xeq wr.heap.size;rw[gh]at bo i5;rw[fG]at i5;have bz:=bo.trans ((aq wb.heap.size wb).drew.mono bo.size);have kW:=hrow.below bz;obtain⟨Cz,CA,CB⟩:=kW.cell N8;obtain⟨WC,WE,WG⟩:=kW.cell jB;rw[aW]at Cz CA CB;rw[bk _ _ hpk]at WC WE WG;have hoj:=(UW.out pi jB).bJ (P:=fun x=>x=gz) (hcb.trans (bw.of bz)) (fun k hk=> .inl hk)
       have hless:=GH (L:=bs K (bs K B n) k+ (q+1)* (K+bs K (bs K B n) k+1)) (Qg.step (M':=(fun x=>x=gz∨x=gx∨M0 x)) (fun _ h=> .inl h) (bw.of bz) (P:=fun _=>False) (fun _ h=>h.elim)) (tD.keep bz) hoj.1 (fun k hk=>by have:=HGL.out k hk;have:=hcb.size;have:=bz.size;omega) (by rw[Nat.succ_mul];omega) (by
        have h1:=HBD.out;have h2:(q+1)* (K+bs K (bs K B n) k+1)<=lt* (K+bs K (bs K B n) k+1):=aH _ K7;omega)
       obtain⟨jb,Qh⟩:=xeq ((f pi).b);obtain⟨js,Qi⟩:=xeq ((f pi).s);obtain⟨jt,Qj⟩:=xeq ((f pi).t);rw[Qh]at WC;rw[Qi]at WE;rw[Qj]at WG;rw[Qh,Qi,Qj]at hless;obtain⟨xb',Mh⟩:=xeq x.b;obtain⟨xs',zY⟩:=xeq x.s;obtain⟨xt',ext⟩:=xeq x.t;rw[Mh]at Cz;rw[zY]at CA;rw[ext]at CB;rw[Mh,zY,ext]at hless;have i6:=i5.keep (aq wb.heap.size wb).drew;have Qk:=kW.lt;have h6l:=i6.lt;have hne:¬Ne=gz:=fun e=>by have:=hrow.lt;omega
       have dH:=ah (fun w' (hb:Below wb.drew.heap.size wb.drew w')=>ai ((i6.keep hb).c0) (ai ((i6.keep hb).c1) (ai ((i6.keep hb).c2) (ai ((i6.keep hb).c3) (ai (bn hb Qk WC) (ai (bn hb Qk WE) (bn hb Qk WG)))))));have L4:=ah kW;have HPN:=ah (ai jB hpk);have Vs:=ah (ai Qh (ai Qi Qj));have rX:=ah hne;have JY:=ah (hcb.trans (bw.of bz));have lC:=ah gh;have ny:=ah fG;have Ql:=ah (ai Hz (ai hpq pR));clear hrow Qg Hz hcb hbe hel hpq tD bo i5 gh fG bz kW hoj pR i6 Qk h6l hne Qh Qi Qj Mh zY ext hpk;go_upto_region 26 with fail
       (try rw[lC.out]);(try rw[ny.out]);clear e0 e1 e2 e3;refine wp_region_held_drew (S:=(fun w'=>w'.cell? ⟨Ne,0,none⟩=some (.int .i64 (pi:Int))/\w'.cell? ⟨Ne,1,none⟩=some y1/\w'.cell? ⟨Ne,2,none⟩=some y2/\w'.cell? ⟨Ne,3,none⟩=some y3/\w'.cell? ⟨gz,pi*3,none⟩=some jb/\w'.cell? ⟨gz,pi*3+1,none⟩=some js/\w'.cell? ⟨gz,pi*3+2,none⟩=some jt)) (by kernel_rfl) (dH.out _ (aq _ _)) (fun aU=>?_);refine tq 0 aU ?_;refine tq 1 aU ?_;refine tq 2 aU ?_;refine tq 3 aU ?_;refine tq 4 aU ?_;refine tq 6 aU ?_;refine tq 7 aU ?_;refine tq 8 aU ?_;refine tq 9 aU ?_;refine tq 10 aU ?_;refine tq 11 aU ?_;refine tq 12 aU ?_;refine tv 5 (fun κ hκ=>?_);go_simp;refine hκ.out _ _ ?_ (fun aU=>?_)
       ·exact aU
       clear hκ κ;refine tu ?_;refine tv 13 (fun κ hκ=>?_);go_simp;go_at_call 88;refine hless.mono ?_;rintro ret w14 ⟨b14,s14,t14,rfl,vD,g14⟩;clear hless Cz CA CB;have k14:=dH.out _ g14;have r14:=L4.out.below g14;obtain⟨c0,c1,c2⟩:=r14.cell N8;have fz:=r14.frozen;have Cs:=fz (i*3);have GZ:=fz (i*3+1);have JC:=fz (i*3+2);obtain⟨o0,o1,o2⟩:=vD.1.st
       have hset:=(r14.set N8 ⟨b14,s14,t14,x.r-p.2* (f pi).r⟩).congr (f':=bE f i ⟨b14,s14,t14,x.r-p.2* (f pi).r⟩) (fun j _=>by
        by_cases e:j=i
        ·subst e;rw[aW,aW]
        ·rw[bk _ _ e,bk _ _ e,bk _ _ e])
       have hcs:=bw.jc gz i w14 b14 s14 t14;have zV:=hset.cell HPN.out.1;rw[bk _ _ HPN.out.2,Vs.out.1,Vs.out.2.1,Vs.out.2.2]at zV;have vE:=vD.bJ hcs (fun k hk=> .inl hk);obtain⟨w15,Fs⟩:=xeq (((w14.setCell ⟨gz,i*3,none⟩ b14).setCell ⟨gz,i*3+1,none⟩ s14).setCell ⟨gz,i*3+2,none⟩ t14);rw[Fs]at hset hcs zV vE;have k15:=ai (hcs.cell rX.out k14.1) (ai (hcs.cell rX.out k14.2.1) (ai (hcs.cell rX.out k14.2.2.1) (ai (hcs.cell rX.out k14.2.2.2.1) zV)));have HST:=ah (ai hset (ai vE (JY.out.trans ((bw.of g14).trans hcs))));have WH:=ah Fs;clear hset hcs zV vE vD g14 r14 fz Fs;go_wp2_with fail
       refine hκ.out _ _ ?_ (fun aU=>?_)
       ·exact k14
       clear hκ κ;refine tu ?_;refine tq 14 aU ?_;refine tv 15 (fun κ hκ=>?_);go_simp;rw[WH.out];refine hκ.out _ _ ?_ (fun aU=>?_)
       ·exact k15
       clear hκ κ;refine tu ?_;refine td ?_ _;clear aU k14 k15;go_wp2_with fail
       go_roundw
       case rel=>exact⟨q+1,_,by omega,by go_num,HST.out.1,HST.out.2.1,by
        show x.r-p.2* (f pi).r=_
        rw[Ql.out.1,List.take_add_one,Ql.out.2.1,Gd.zm]
        show _=_- (_+ (p.2* (f p.1).r+0))
        rw[Ql.out.2.2];grind,HST.out.2.2⟩
       case measure=>simp[intOf];omega
      ·obtain rfl:lt=q:=by omega
       rw[<-XS.out,List.take_length]at Hz;obtain⟨J3,Cp,htl,hlt,hik,hrd⟩:=Si.out;obtain⟨hfz,pE,hrx,BZ,p1,p2,p3,Qf⟩:=iR.out;have hbd:=(Vq.out _ hcb).drew;have zd1:=bn hbd Qf p1;have zd2:=bn hbd Qf p2;have zd3:=bn hbd Qf p3;have kW:dL wr.drew gz n (bE f i x):=hrow;obtain⟨Cz,CA,CB⟩:=kW.cell N8;rw[aW]at Cz CA CB;have alw:=zA K (bs K B n) hlk hlt;have ae6:=HS.out.2.2.2.2;have WJ:=hrd.keep hbd;have WK:bG wr.drew x.b x.s x.t x.r (bs K (bs K B n) k+lt* (K+bs K (bs K B n) k+1)):=Qg.1.keep (aq _ _).drew;have hdiv:=Px (K:=bs K (bs K B n) k+lt* (K+bs K (bs K B n) k+1)+K) (WK.mono (by omega)) (WJ.mono (by omega)) (by omega) Cp rfl
       have HSZ:=ah (show Sz (x.r*d⁻¹) (bs K (bs K B n) (k+1))from WK.sz.mul' (WJ.sz.inv rfl) rfl (by
        have h1:lt* (K+bs K (bs K B n) k+1)<=k* (K+bs K (bs K B n) k+1):=aH _ hlt
        show _<=bs K (bs K B n) k+k* (K+bs K (bs K B n) k+1)+K
        omega))
       obtain⟨xb',Mh⟩:=xeq x.b;obtain⟨xs',zY⟩:=xeq x.s;obtain⟨xt',ext⟩:=xeq x.t;rw[Mh]at Cz;rw[zY]at CA;rw[ext]at CB;rw[Mh,zY,ext]at hdiv;have Qm:ub<wr.drew.heap.size:=ak Qf hbd.size;have HCD:=ah (fun w' (hb:Below wr.drew.heap.size wr.drew w')=>ai (bn hb Qm zd1) (ai (bn hb Qm zd2) (bn hb Qm zd3)));have aou:=ah kW;have JY:=ah (show bw (·=gz) wo wr.drew from hcb.drew);have Sj:=ah (show¬ub=gz from fun e=>by have:=J0.out;omega);have Ql:=ah Hz;obtain⟨ci,R6⟩:=xeq (cs i);have hci:ci<n:=by rw[<-R6];exact HP.out.El i N8
       have hC:=HLW.out.2.1;have hzC:W.cell? ⟨gC,i,none⟩=some (.int .i64 (ci:Int)):=by rw[<-R6];exact hC.cell N8
       have HC:=ah (ai hzC (ai hC.lt R6));clear Hz J3 Cp htl hlt hik hrd hfz pE hrx BZ p1 p2 p3 Qf hbd zd1 zd2 zd3 kW alw ae6 WJ WK Mh zY ext Qm hrow Qg hcb R6 hC hzC;go_upto_region 28 with fail
       refine wp_region_held_drew (S:=(fun w'=>w'.cell? ⟨ub,uo+1,none⟩=some dx/\w'.cell? ⟨ub,uo+2,none⟩=some dy/\w'.cell? ⟨ub,uo+3,none⟩=some dz)) (by kernel_rfl) (HCD.out _ (aq _ _)) (fun aU=>?_);refine tq 0 aU ?_;refine tq 1 aU ?_;refine tq 2 aU ?_;refine tq 3 aU ?_;refine tq 4 aU ?_;refine tq 6 aU ?_;refine tq 7 aU ?_;refine tq 8 aU ?_;refine tq 9 aU ?_;refine tv 5 (fun κ hκ=>?_);go_simp;refine hκ.out _ _ ?_ (fun aU=>?_)
       ·exact aU
       clear hκ κ;refine tu ?_;refine tv 10 (fun κ hκ=>?_);go_simp;go_at_call 89;refine hdiv.mono ?_;rintro ret w28 ⟨b28,s28,t28,rfl,o28,g28⟩;clear hdiv Cz CA CB;have k28:=HCD.out _ g28;have r28:=aou.out.below g28;obtain⟨c0,c1,c2⟩:=r28.cell N8;have fz:=r28.frozen;have Cs:=fz (i*3);have GZ:=fz (i*3+1);have JC:=fz (i*3+2);obtain⟨o0,o1,o2⟩:=o28.st
       have hset:=(r28.set N8 ⟨b28,s28,t28,x.r*d⁻¹⟩).congr (f':=bE f i ⟨b28,s28,t28,x.r*d⁻¹⟩) (fun j _=>by
        by_cases e:j=i
        ·subst e;rw[aW,aW]
        ·rw[bk _ _ e,bk _ _ e,bk _ _ e])
       have hcs:=bw.jc gz i w28 b28 s28 t28;have SS:RO w28 (fun x=>x=gz∨x=gx∨M0 x) b28 s28 t28 (x.r*d⁻¹) (bs K (bs K B n) (k+1)):=o28.ro HSZ.out (fun x hx=>by have h1:=HGL.out x hx;have h2:=JY.out.size;exact ak h1 h2);obtain⟨w29,WL⟩:=xeq (((w28.setCell ⟨gz,i*3,none⟩ b28).setCell ⟨gz,i*3+1,none⟩ s28).setCell ⟨gz,i*3+2,none⟩ t28);rw[WL]at hset hcs;have k29:=ai (hcs.cell Sj.out k28.1) (ai (hcs.cell Sj.out k28.2.1) (hcs.cell Sj.out k28.2.2));have H29:=ah (ai hset (ai (SS.bJ hcs (fun k hk=> .inl hk)) (JY.out.trans ((bw.of g28).trans hcs))));have aov:=ah WL;clear hset hcs SS o28 g28 r28 fz WL;go_wp2_with fail
       refine hκ.out _ _ ?_ (fun aU=>?_)
       ·exact k28
       clear hκ κ;refine tu ?_;refine tq 11 aU ?_;refine tq 12 aU ?_;refine tq 13 aU ?_;refine tq 14 aU ?_;refine tv 15 (fun κ hκ=>?_);go_simp;rw[aov.out];refine hκ.out _ _ ?_ (fun aU=>?_)
       ·exact k29
       clear hκ κ;refine tu ?_;refine td ?_ _;obtain⟨WM,Nr,Rb⟩:=H29.out;have ae7:=Vq.out _ Rb;have Mi:=ae7.drew;obtain⟨_,i29⟩:=HB.out _ Mi;have z0:=i29.c.2.1;have z1:=bn Mi HC.out.2.1 HC.out.1;obtain⟨z2,z3,z4⟩:=(show dL w29.drew gz n _ from WM).cell N8;rw[aW]at z2 z3 z4;have G1:dL w29 gx n g:=iR.out.2.2.1.bJ Rb (fun e=>HG2.out.2 e.symm);obtain⟨x0,x1,x2⟩:=G1.cell hci;have fx:=G1.frozen;have fx0:=fx (ci*3);have fx1:=fx (ci*3+1);have fx2:=fx (ci*3+2);obtain⟨o0,o1,o2⟩:=Nr.1.st;have v4:(0:Int)<=(ci:Int):=by omega
       have v5:(ci:Int)<n:=by omega
       have hsx:=G1.set hci ⟨b28,s28,t28,x.r*d⁻¹⟩;have Rc:=bw.jc gx ci w29 b28 s28 t28;have hcx:=bw.jc gx ci w29.drew b28 s28 t28;have HNX:=ah (show¬N0=gx/\¬gC=gx/\¬gz=gx from⟨by have:=HG2.out.1;omega,by have:=HG2.out.1;have:=HC.out.2.1;omega,HG2.out.2⟩);have Xl:=(show∀x:World,Below x.heap.size x x.drew from fun x=>(aq _ _).drew) (((w29.setCell ⟨gx,ci*3,none⟩ b28).setCell ⟨gx,ci*3+1,none⟩ s28).setCell ⟨gx,ci*3+2,none⟩ t28)
       have HX:=ah (show dL _ gx n (bE g ci ⟨b28,s28,t28,x.r*d⁻¹⟩)/\dL _ gz n (bE f i ⟨b28,s28,t28,x.r*d⁻¹⟩)/\bw (fun x=>x=gz∨x=gx) wo (((w29.setCell ⟨gx,ci*3,none⟩ b28).setCell ⟨gx,ci*3+1,none⟩ s28).setCell ⟨gx,ci*3+2,none⟩ t28).drew/\RO _ (fun x=>x=gz∨x=gx∨M0 x) b28 s28 t28 (x.r*d⁻¹) (bs K (bs K B n) (k+1))from
        ⟨hsx.below Xl,(WM.bJ Rc HG2.out.2).below Xl,((Rb.mono (fun _ _ h=> .inl h)).trans (Rc.mono (fun _ _ h=> .inr h))).drew,(Nr.bJ Rc (fun _ h=> .inr (.inl h))).bJ (P:=fun _=>False) (bw.of Xl) (fun _ h=>h.elim)⟩)
       obtain⟨w30,WO⟩:=xeq ((((w29.setCell ⟨gx,ci*3,none⟩ b28).setCell ⟨gx,ci*3+1,none⟩ s28).setCell ⟨gx,ci*3+2,none⟩ t28).drew);rw[WO]at HX;have ae8:=ah WO;clear Xl aU k28 k29 WM Nr Rb ae7 Mi i29 G1 fx hsx Rc WO o0 o1 o2;obtain⟨o0,o1,o2⟩:=HX.out.2.2.2.1.st;go_upto_region 29 with fail
       refine wp_region_held_drew (S:=(fun w'=>w'.cell? ⟨N0,1,none⟩=some (.slice (some ⟨gC,0,none⟩) n n)/\w'.cell? ⟨gC,i,none⟩=some (.int .i64 (ci:Int))/\w'.cell? ⟨gz,i*3,none⟩=some b28/\w'.cell? ⟨gz,i*3+1,none⟩=some s28/\w'.cell? ⟨gz,i*3+2,none⟩=some t28)) (by kernel_rfl) (⟨z0,z1,z2,z3,z4⟩) (fun aU=>?_);refine tq 0 aU ?_;refine tq 1 aU ?_;refine tq 2 aU ?_;refine tq 3 aU ?_;refine tq 4 aU ?_;refine tq 5 aU ?_;refine tq 6 aU ?_;refine tq 7 aU ?_;refine tq 8 aU ?_;refine tq 9 aU ?_;refine tq 10 aU ?_;refine tv 11 (fun κ hκ=>?_);go_simp;refine hκ.out _ _ ?_ (fun aU=>?_)
       ·exact⟨hcx.cell HNX.out.1 aU.1,hcx.cell HNX.out.2.1 aU.2.1,hcx.cell HNX.out.2.2 aU.2.2.1,hcx.cell HNX.out.2.2 aU.2.2.2.1,hcx.cell HNX.out.2.2 aU.2.2.2.2⟩
       clear hκ κ;refine tu ?_;refine td ?_ _;rw[ae8.out];clear z0 z1 z2 z3 z4 x0 x1 x2 fx0 fx1 fx2 o0 o1 o2 aU hcx
       have HR:=ah (show dL w30 gz n (bE f i ⟨b28,s28,t28,x.r*d⁻¹⟩)/\dL w30 gx n (bE g ci ⟨b28,s28,t28,x.r*d⁻¹⟩)/\(∀j,j<n->(bE f i ⟨b28,s28,t28,x.r*d⁻¹⟩ j).ok w30 (fun x=>x=gz∨x=gx∨M0 x) (bs K (bs K B n) (k+1)))/\(∀j,j<n->(bE g ci ⟨b28,s28,t28,x.r*d⁻¹⟩ j).ok w30 (fun x=>x=gz∨x=gx∨M0 x) (bs K (bs K B n) (k+1)))/\(∀j,j+ (k+1)<n->(bE f i ⟨b28,s28,t28,x.r*d⁻¹⟩ j).r=Z j)/\(∀j,j<n->n<=j+ (k+1)->Gd.LS (fun m=>(bE f i ⟨b28,s28,t28,x.r*d⁻¹⟩ m).r) (up j)=Z j/\(bE g ci ⟨b28,s28,t28,x.r*d⁻¹⟩ (cs j)).r=(bE f i ⟨b28,s28,t28,x.r*d⁻¹⟩ j).r)/\Below W.heap.size W w30 from by
        obtain⟨hx1,hz1,hcc,hy⟩:=HX.out;obtain⟨J3,Cp,htl,hlt,hik,hrd⟩:=Si.out;obtain⟨hfz,pE,hrx,BZ,_⟩:=iR.out;have hmon:=sc K (bs K B n) (Nat.le_succ k);have J4:=Vq.out wo (bw.refl _ _)
        have hLS:∀l:List (Nat×Rat),(∀p∈l,i<p.1)->Gd.LS (fun m=>(bE f i ⟨b28,s28,t28,x.r*d⁻¹⟩ m).r) l=Gd.LS (fun m=>(f m).r) l:=fun l hl=>Gd.oh fun e he=>by
         have:=hl e he;rw[bk _ _ (by omega)]
        refine⟨hz1,hx1,fun j hj=>?_,fun j hj=>?_,fun j hj=>?_,fun j hj hjk=>?_,J4.trans (hcc.below J4.size (fun q hq e=>by have h1:=J0.out;have h2:=HG2.out.1;omega))⟩
        ·by_cases e:j=i
         ·subst e;rw[aW];exact hy
         ·rw[bk _ _ e];exact((UW.out j hj).bJ hcc (fun _ h=>h.elim .inl (fun e=> .inr (.inl e)))).mono hmon
        ·by_cases e:j=ci
         ·subst e;rw[aW];exact hy
         ·rw[bk _ _ e];exact((BZ j hj).bJ hcc (fun _ h=>h.elim .inl (fun e=> .inr (.inl e)))).mono hmon
        ·rw[bk _ _ (by omega)];exact hfz j (by omega)
        ·by_cases e:j=i
         ·subst e;rw[aW,HC.out.2.2,aW];refine⟨?_,rfl⟩;rw[J3]
          show d* (bE f j ⟨b28,s28,t28,x.r*d⁻¹⟩ j).r+Gd.LS (fun m=>(bE f j ⟨b28,s28,t28,x.r*d⁻¹⟩ m).r) u=Z j
          rw[aW,hLS u htl.2,Ql.out]
          show d* ((Z j-Gd.LS (fun m=>(f m).r) u)*d⁻¹)+_=_
          have h9:d* ((Z j-Gd.LS (fun m=>(f m).r) u)*d⁻¹)=Z j-Gd.LS (fun m=>(f m).r) u:=by
           rw[Rat.mul_comm d,Rat.mul_assoc,Rat.inv_mul_cancel _ Cp,Rat.mul_one]
          rw[h9];grind
         ·obtain⟨h1,h2⟩:=pE j hj (by omega);have hcj:cs j≠ci:=fun e2=>e (HP.out.wL j i hj N8 (by rw[e2,HC.out.2.2]));rw[bk _ _ hcj,bk _ _ e];refine⟨?_,h2⟩;rw[hLS (up j) (fun p hp=>?_)]
          ·exact h1
          ·obtain⟨h3,d',t',h4,_⟩:=HP.out.IE j hj;rw[h4]at hp h3;rcases List.mem_cons.1 hp with rfl|hp
           ·show i<j;omega
           ·have:=h3.tail.2 p hp;dsimp only at this;omega)
       clear HX ae8;go_wp2_with fail
       go_roundw
       case rel=>exact⟨k+1,_,_,by omega,by go_num,HR.out⟩
       case measure=>simp[intOf];omega
    ·obtain rfl:n=k:=by omega
     have HX:=ah (show W.heap.size<=gx/\dL wr gx n g/\(∀i,i<n->(g i).ok wr (fun x=>x=gx∨M0 x) (bs K (bs K B n) n))/\(∀i,i<n->Gd.S n (fun j=>N i j* (g j).r)=(b[i]?).getD 0)/\Below w.heap.size w wr from by
      obtain⟨h1,_⟩:=HB.out _ cF;rw[<-EN.out]at h1;refine⟨HG2.out.1,hrx,fun i hi=>(BZ i hi).wide (fun k hk=> .inl (.inr hk)),?_,h1⟩;exact HP.out.solve (fun i=>(b[i]?).getD 0) Z (fun j=>(f j).r) (fun j=>(g j).r) HZV.out (fun i hi=>(pE i hi (by omega)).1) (fun i hi=>(pE i hi (by omega)).2))
     have hge:=HNW.out;clear hrow hrx hok BZ hfz pE cF;go_wp2_with fail
     go_ret2;exact⟨gx,g,rfl,by have:=HX.out.1;omega,HX.out.2⟩
def vN(p:Int)(f:Nat->Qc):Rat:=if p<0 then 0 else(f p.toNat).r
theorem Mj(f:Nat->Qc):vN (-1) f=0:=by unfold vN;rw[if_pos (by decide)]
theorem Mk(f:Nat->Qc)(j:Nat):vN (j:Int) f=(f j).r:=by unfold vN;rw[if_neg (by omega),Int.toNat_natCast]
theorem Qn{w:World}{P Q gP gF N n b K:Nat}{pb:Int}{f:Nat->Qc}{M:Nat->Prop}(hb:b<N)(h1:w.cell? ⟨P,0,none⟩=some (.slice (some ⟨gP,0,none⟩) N N))(hp:w.cell? ⟨gP,b,none⟩=some (.int .i64 pb))(h2:w.cell? ⟨Q,0,none⟩=some (.slice (some ⟨gF,0,none⟩) n n))(hP:P<w.heap.size)(Sk:gP<w.heap.size)(hQ:Q<w.heap.size)(hrow:dL w gF n f)(hok:∀i,i<n->(f i).ok w M K)(mB:1<=K)(hpb:pb= -1∨∃j,j<n/\pb=((j:Nat):Int)):
 Calls Tryz.prog 49 #[.int .i64 (b:Int), .pointer (some ⟨P,0,none⟩), .pointer (some ⟨Q,0,none⟩)] w (fun e w'=>∃x y z,e= .returned (.agg #[x,y,z])/\bG w' x y z (vN pb f) K/\Below w.heap.size w w'):=by
 obtain⟨W,hW,bC,i0⟩:∃W,w.alloc (.cells #[.bool false, .slice none 0 0, .slice none 0 0] 45)=W/\Below w.heap.size w W/\cK W w.heap.size (.bool false) (.slice none 0 0) (.slice none 0 0):=⟨_,rfl,bI _ _,cK.new _ _ _ _⟩;have y0:=bn bC hP h1;have y1:=bn bC Sk hp;have y2:=bn bC hQ h2;have hrW:=hrow.below bC;have hfW:∀i,i<n->bG W (f i).b (f i).s (f i).t (f i).r K:=fun i hi=>(hok i hi).1.keep bC;obtain⟨Z,eZ⟩:=xeq w.heap.size
 have xX:∀j,j<n->∀x0 x1 x2 r,f j=⟨x0,x1,x2,r⟩->Av (fun x=>x=w.heap.size) x1/\Av (fun x=>x=w.heap.size) x2:=fun j hj x0 x1 x2 r e=>by
  have h:=(hok j hj).1.av;rw[e]at h;exact⟨h.1.mono (fun x e=>by subst e;exact aj _),h.2.mono (fun x e=>by subst e;exact aj _)⟩
 have TM:=hrow.lt;rw[eZ]at i0 xX hP Sk hQ TM;have HZA:=ah xX;have HB:=ah bC;have HW:=ah hW;have EZ:=ah eZ;clear hW bC h1 hp h2 hrow hok eZ xX;go_enter Tryz.func49,Tryz.ntmps49
 go_upto_region 1 with fail
 rw[HW.out];(try rw[EZ.out]);rcases hpb with rfl|⟨j,hj,rfl⟩
 ·have hfi:=fO (w:=W) (na:=0) (by omega) (by omega) (show mkRat (0:Int) 1=(0:Rat)from by decide);go_upto_region 2 with fail
  clear y0 y1 y2;go_wp2_with fail
  refine hfi.mono ?_;rintro ret w1 ⟨b1,s1,t1,rfl,o1,g1⟩;clear hfi;obtain⟨Ns,Nt,Nu⟩:=o1.st;have i1:=i0.keep g1;obtain⟨n0,n1,n2,n3,n4,n5⟩:=id i1;have hcs:=bw.jc Z 0 w1 b1 s1 t1;have hr1:=(o1.is (fk mB)).bJ hcs (o1.av.1.mono (fun x e=>by rw[e];exact i0.lt)) (o1.av.2.mono (fun x e=>by rw[e];exact i0.lt));have hb1:=HB.out.trans ((g1.mono HB.out.size).trans (hcs.below (ay HB.out.size g1.size) (fun x hx e=>by have:=EZ.out;omega)));have i2:=i1.put b1 s1 t1;have HC:=ah (ai i2.c0 (ai i2.c1 i2.c2));have HR:=ah (ai hr1 hb1);clear o1 g1 i1 hcs hr1 hb1 i2 i0;go_wp2_with fail
  exact bodyPost_ret (v:= .agg #[b1,s1,t1]) (by simp[results,Tryz.results49,go_sem,HC.out]) rfl ⟨b1,s1,t1,rfl,by rw[Mj];exact HR.out⟩
 ·have hjp:¬((j:Int)<0):=by omega
  obtain⟨q0,q1,q2⟩:=hrW.cell hj;have Vt:=hfW j hj;obtain⟨fj,efj⟩:=xeq (f j);rw[efj]at q0 q1 q2 Vt;obtain⟨x0,x1,x2,r⟩:=fj;dsimp only at q0 q1 q2 Vt;obtain⟨s0,s1,s2⟩:=Vt.st;have j0:(0:Int)<=(j:Int):=by omega
  have j1:(j:Int)<n:=by omega
  obtain⟨n0,n1,n2,n3,n4,n5⟩:=id i0;have hcs:=bw.jc Z 0 W x0 x1 x2;have RN:bG W x0 x1 x2 r K:=Vt;have Pr:Av (fun x=>x=Z) x1/\Av (fun x=>x=Z) x2:=HZA.out j hj x0 x1 x2 r efj;have i2:=i0.put x0 x1 x2;have HC:=ah (ai i2.c0 (ai i2.c1 i2.c2));have hbZ:Below Z W (((W.setCell ⟨Z,0,none⟩ x0).setCell ⟨Z,1,none⟩ x1).setCell ⟨Z,2,none⟩ x2):=hcs.below (aR i0.lt) (fun q hq e=>by omega);have Vu:=hbZ.drew;have dH:=ah (ai ((Vu.cell (p:=⟨P,0,none⟩) hP).trans y0) (ai ((Vu.cell (p:=⟨gP,b,none⟩) Sk).trans y1) (ai ((Vu.cell (p:=⟨Q,0,none⟩) hQ).trans y2) (ai ((Vu.cell (p:=⟨gF,j*3,none⟩) TM).trans q0) (ai ((Vu.cell (p:=⟨gF,j*3+1,none⟩) TM).trans q1) ((Vu.cell (p:=⟨gF,j*3+2,none⟩) TM).trans q2))))));have HR:=ah (show bG (((W.setCell ⟨Z,0,none⟩ x0).setCell ⟨Z,1,none⟩ x1).setCell ⟨Z,2,none⟩ x2).drew x0 x1 x2 r K/\Below w.heap.size w (((W.setCell ⟨Z,0,none⟩ x0).setCell ⟨Z,1,none⟩ x1).setCell ⟨Z,2,none⟩ x2).drew from⟨(RN.bJ (P:=fun x=>x=Z) hcs Pr.1 Pr.2).keep (aq _ _).drew,(HB.out.trans (EZ.out▸hbZ)).drew⟩);clear hbZ Vu hcs i2 RN Pr;go_upto_region 3 with fail
  refine wp_region_held_drew (S:=(fun w'=>w'.cell? ⟨P,0,none⟩=some (.slice (some ⟨gP,0,none⟩) N N)/\w'.cell? ⟨gP,b,none⟩=some (.int .i64 (j:Int))/\w'.cell? ⟨Q,0,none⟩=some (.slice (some ⟨gF,0,none⟩) n n)/\w'.cell? ⟨gF,j*3,none⟩=some x0/\w'.cell? ⟨gF,j*3+1,none⟩=some x1/\w'.cell? ⟨gF,j*3+2,none⟩=some x2)) (by kernel_rfl) (⟨y0,y1,y2,q0,q1,q2⟩) (fun aU=>?_);refine tq 0 aU ?_;refine tq 1 aU ?_;refine tq 2 aU ?_;refine tq 3 aU ?_;refine tq 4 aU ?_;refine tq 5 aU ?_;refine tq 6 aU ?_;refine tv 7 (fun κ hκ=>?_);go_simp;clear n0 n1 n2 n3 n4 n5;refine hκ.out _ _ ?_ (fun aU=>?_)
  ·exact dH.out
  clear hκ κ;refine tu ?_;refine td ?_ _;clear y0 y1 y2 q0 q1 q2 s0 s1 s2;go_wp2_with fail
  exact bodyPost_ret (v:= .agg #[x0,x1,x2]) (by simp[results,Tryz.results49,go_sem,HC.out]) rfl ⟨x0,x1,x2,rfl,by rw[Mk,efj];exact HR.out⟩
theorem Nw{w:World}{b:Nat}{a0 a1 a2 a3 a4 a5 a6 a7:Value}{T:TypeId}{v0 v1 v2 v3 v4 v5 v6 v7:Value}{v:Array Value}(hv:v=#[v0,v1,v2,v3,v4,v5,v6,v7])(h:w.heap[b]?=some (.cells #[a0,a1,a2,a3,a4,a5,a6,a7] T (0,0))):
 ∃w2,w2=(((((((w.setCell ⟨b,0,none⟩ v0).setCell ⟨b,1,none⟩ v1).setCell ⟨b,2,none⟩ v2).setCell ⟨b,3,none⟩ v3).setCell ⟨b,4,none⟩ v4).setCell ⟨b,5,none⟩ v5).setCell ⟨b,6,none⟩ v6).setCell ⟨b,7,none⟩ v7/\w2.heap[b]?=some (.cells v T (0,0))/\bw (·=b) w w2:=by
 subst hv;have h8:=cG (i:=7) (v:=v7) (cG (i:=6) (v:=v6) (cG (i:=5) (v:=v5) (cG (i:=4) (v:=v4) (cG (i:=3) (v:=v3) (cG (i:=2) (v:=v2) (cG (i:=1) (v:=v1) (cG (i:=0) (v:=v0) h)))))));simp only[List.setIfInBounds_toArray,List.set_cons_zero,List.set_cons_succ]at h8;refine⟨_,rfl,h8,?_⟩;have c:∀(W:World) (i:Nat) (u:Value),bw (·=b) W (W.setCell ⟨b,i,none⟩ u):=fun W i u=>bw.set (P:=(·=b)) (p:=⟨b,i,none⟩) rfl _ _;exact(c _ _ _).trans ((c _ _ _).trans ((c _ _ _).trans ((c _ _ _).trans ((c _ _ _).trans ((c _ _ _).trans ((c _ _ _).trans (c _ _ _)))))))
theorem fQ{w:World}{b:Nat}{a0 a1 a2 a3 a4 a5 a6 a7:Value}{T:TypeId}(h:w.heap[b]?=some (.cells #[a0,a1,a2,a3,a4,a5,a6,a7] T (0,0))):
 (w.cell? ⟨b,0,none⟩=some a0/\w.cell? ⟨b,1,none⟩=some a1/\w.cell? ⟨b,2,none⟩=some a2/\w.cell? ⟨b,3,none⟩=some a3/\w.cell? ⟨b,4,none⟩=some a4/\w.cell? ⟨b,5,none⟩=some a5/\w.cell? ⟨b,6,none⟩=some a6/\w.cell? ⟨b,7,none⟩=some a7)/\
 (w.frozen? ⟨b,0,none⟩=false/\w.frozen? ⟨b,1,none⟩=false/\w.frozen? ⟨b,2,none⟩=false/\w.frozen? ⟨b,3,none⟩=false/\w.frozen? ⟨b,4,none⟩=false/\w.frozen? ⟨b,5,none⟩=false/\w.frozen? ⟨b,6,none⟩=false/\w.frozen? ⟨b,7,none⟩=false):=by
 have e:=fun i=>aT w b i _ _ (0,0) h;have f:∀i,w.frozen? ⟨b,i,none⟩=false:=fun i=>by simp[World.frozen?,h]
 exact⟨⟨(e 0).trans rfl,(e 1).trans rfl,(e 2).trans rfl,(e 3).trans rfl,(e 4).trans rfl,(e 5).trans rfl,(e 6).trans rfl,(e 7).trans rfl⟩,f _,f _,f _,f _,f _,f _,f _,f _⟩
/-- a factorization of an injective matrix -/
theorem B0{w:World}{D:Option Addr}{n c K M M2:Nat}{A:Nat->List (Nat×Rat)}(hn:n<=12)(hl:ML w D n A K)(hcan:∀i,i<n->Can n (A i))(mB:1<=K)(hM:K<=M)(hM1:sk M n<=1099511627776)(vS:n* (sk M n+1)+sk M n<=M2)(hM3:M2<=1099511627776)(hinj:∀x:Nat->Rat,(∀i,i<n->Gd.S n (fun j=>gv (A i) j*x j)=0)->∀j,j<n->x j=0):
 Calls Tryz.prog 46 #[.agg #[.int .i64 (n:Int), .int .i64 (n:Int), .slice D n c]] w (fun e w'=>∃v rs cs lo up,e= .returned (.tuple #[v, .int .i64 0])/\Sc w' v n rs cs lo up M2/\Eo n (fun i j=>gv (A i) j) rs cs lo up/\Below w.heap.size w w'):=by
 obtain⟨W,hW,bC,i0,rJ⟩:∃W,(w.alloc (.cells #[.int .i64 (n:Int), .int .i64 (n:Int), .slice D n c] 34)).alloc (.cells #[.slice none 0 0, .slice none 0 0, .int .i64 0, .int .i64 0, .slice none 0 0, .int .i64 0, .int .i64 0, .slice none 0 0] 96)=W/\Below w.heap.size w W/\cK W w.heap.size (.int .i64 (n:Int)) (.int .i64 (n:Int)) (.slice D n c)/\W.heap[w.heap.size+1]?=some (.cells #[.slice none 0 0, .slice none 0 0, .int .i64 0, .int .i64 0, .slice none 0 0, .int .i64 0, .int .i64 0, .slice none 0 0] 96 (0,0)):=⟨_,rfl,((aq _ _).alloc (by simp) _).alloc (by simp) _,by refine⟨?_,?_,?_,?_,?_,?_⟩<;>go_simp,by
  have h1:=aS (w.alloc (.cells #[.int .i64 (n:Int), .int .i64 (n:Int), .slice D n c] 34)) (.cells #[.slice none 0 0, .slice none 0 0, .int .i64 0, .int .i64 0, .slice none 0 0, .int .i64 0, .int .i64 0, .slice none 0 0] 96);have e:∀o,(w.alloc o).heap.size=w.heap.size+1:=fun o=>by show(w.heap.push o).size=_;simp
  rw[e]at h1;exact h1⟩
 have hv:=uQ (c:=c) (by omega) (by omega) (hl.below bC) hcan (by have:=BR M (aF n);have:sk M 0=M:=rfl;omega);have HP:=ah (ai hcan (ai mB (ai hM (ai hM1 (ai vS (ai hM3 hinj))))));obtain⟨N0,kz⟩:=xeq w.heap.size;obtain⟨N1,Kh⟩:=xeq (N0+1);have HL:=ah (show∀W',Below N0 w W'->ML W' D n A K from fun W' h=>hl.below (by rw[kz];exact h));rw[kz]at i0 rJ bC;rw[Kh]at rJ;have Fk:=i0.c0;have Fl:=i0.c1;have Fm:=i0.c2;have wT:=ah rJ;have HW:=ah hW;obtain⟨P5,hE⟩:=xeq (((List.range n).map fun _=>Value.slice none 0 0).toArray);obtain⟨LX,U7⟩:=xeq (cQ n (fun _=>0));have mkE:=mD (n:Int) n rfl (by omega);have dI:=tT (n:Int) n rfl (by omega);rw[hE]at mkE;rw[U7]at dI;have HE:=ah hE;have HI_:=ah U7;have E1:=ah (show mkRat (1:Int) 1=(1:Rat)from by decide);have Oh:=ah kz;have EN1:=ah Kh;have hNs:N0<=W.heap.size:=by rw[<-kz];have:=bC.size;omega
 have ar0:N0<N1:=by omega
 clear hl hcan mB hM hM1 vS hM3 hinj hW rJ hE U7 kz Kh;go_enter Tryz.func46,Tryz.ntmps46
 go_wp2_with fail
 rw[HW.out,Oh.out];(try rw[EN1.out]);clear HW;refine hv.mono ?_;rintro e w1 ⟨rfl,g1⟩;clear hv Fk Fl Fm;have alz:N1<W.heap.size:=(au.1 wT.out).1;have i1:=i0.keep g1;have WQ:=ah ((g1.block N1 alz).trans wT.out);have hb1:=bC.trans (g1.mono hNs);have x00:=i1.c0;have x01:=i1.c1;have x02:=i1.c2;go_upto_region 6 with fail
 clear x00 x01 x02
 go_cut [5] (fun t wx=>∃bF gR gC gL gU:Nat,t= .pointer (some ⟨bF,0,none⟩)/\wx.heap[bF]?=some (.cells #[.slice (some ⟨gR,0,none⟩) n n, .slice (some ⟨gC,0,none⟩) n n, .int .i64 (n:Int), .int .i64 (n:Int), .slice (some ⟨gL,0,none⟩) n n, .int .i64 (n:Int), .int .i64 (n:Int), .slice (some ⟨gU,0,none⟩) n n] 96 (0,0))/\wx.heap[gR]?=some (.cells LX 3 (0,0))/\wx.heap[gC]?=some (.cells LX 3 (0,0))/\wx.heap[gL]?=some (.cells P5 40 (0,0))/\wx.heap[gU]?=some (.cells P5 40 (0,0))/\gR≠gC/\gL≠gU/\w1.heap.size<=bF/\w1.heap.size<=gR/\w1.heap.size<=gC/\w1.heap.size<=gL/\w1.heap.size<=gU/\Below w1.heap.size w1 wx)
 case first=>
  refine uV (by kernel_rfl) [[],[0,0],[],[2,2],[],[],[],[6,6],[4,5,7],[],[],[],[11,11],[9,10,12],[1,3,8,13],[],[15,14,0,1,2,3,4,5,6,7,8,9,10,11,12,13,14,15]] rfl rfl [⟨26,fun γ=> .int .i64 (n:Int),[],none⟩,⟨27,fun γ=> .slice (some ⟨γ 1,0,none⟩) n n,[1],some fun γ=> .cells LX 3⟩,⟨28,fun γ=> .int .i64 (n:Int),[],none⟩,⟨29,fun γ=> .slice (some ⟨γ 3,0,none⟩) n n,[3],some fun γ=> .cells LX 3⟩,⟨30,fun γ=> .int .i64 (n:Int),[],none⟩,⟨31,fun γ=> .int .i64 (n:Int),[],none⟩,⟨32,fun γ=> .int .i64 (n:Int),[],none⟩,⟨33,fun γ=> .slice (some ⟨γ 7,0,none⟩) n n,[7],some fun γ=> .cells P5 40⟩,⟨34,fun γ=> .agg #[.int .i64 (n:Int), .int .i64 (n:Int), .slice (some ⟨γ 7,0,none⟩) n n],[7],none⟩,⟨35,fun γ=> .int .i64 (n:Int),[],none⟩,⟨36,fun γ=> .int .i64 (n:Int),[],none⟩,⟨37,fun γ=> .int .i64 (n:Int),[],none⟩,⟨38,fun γ=> .slice (some ⟨γ 12,0,none⟩) n n,[12],some fun γ=> .cells P5 40⟩,⟨39,fun γ=> .agg #[.int .i64 (n:Int), .int .i64 (n:Int), .slice (some ⟨γ 12,0,none⟩) n n],[12],none⟩,⟨40,fun γ=> .agg #[.slice (some ⟨γ 1,0,none⟩) n n, .slice (some ⟨γ 3,0,none⟩) n n, .int .i64 (n:Int), .int .i64 (n:Int), .slice (some ⟨γ 7,0,none⟩) n n, .int .i64 (n:Int), .int .i64 (n:Int), .slice (some ⟨γ 12,0,none⟩) n n],[1,3,7,12],none⟩,⟨5,fun γ=> .pointer (some ⟨γ 15,0,none⟩),[15],some fun γ=> .cells #[.slice none 0 0, .slice none 0 0, .int .i64 0, .int .i64 0, .slice none 0 0, .int .i64 0, .int .i64 0, .slice none 0 0] 96⟩] (fun _=>True) rfl 0 rfl rfl rfl trivial (fun _ _ h=>h) ?_ rfl ?_ ?_
  ·intro s hs γ γ' h;simp only[List.mem_cons,List.not_mem_nil,or_false]at hs;rcases hs with rfl|rfl|rfl|rfl|rfl|rfl|rfl|rfl|rfl|rfl|rfl|rfl|rfl|rfl|rfl|rfl
   ·exact⟨rfl,fun o ho=>by cases ho⟩
   ·have q1:=h 1 (by simp);exact⟨by simp only[q1],fun o ho=>by injection ho with ho;subst ho;exact rfl⟩
   ·exact⟨rfl,fun o ho=>by cases ho⟩
   ·have q3:=h 3 (by simp);exact⟨by simp only[q3],fun o ho=>by injection ho with ho;subst ho;exact rfl⟩
   ·exact⟨rfl,fun o ho=>by cases ho⟩
   ·exact⟨rfl,fun o ho=>by cases ho⟩
   ·exact⟨rfl,fun o ho=>by cases ho⟩
   ·have q7:=h 7 (by simp);exact⟨by simp only[q7],fun o ho=>by injection ho with ho;subst ho;exact rfl⟩
   ·have q7:=h 7 (by simp);exact⟨by simp only[q7],fun o ho=>by cases ho⟩
   ·exact⟨rfl,fun o ho=>by cases ho⟩
   ·exact⟨rfl,fun o ho=>by cases ho⟩
   ·exact⟨rfl,fun o ho=>by cases ho⟩
   ·have q12:=h 12 (by simp);exact⟨by simp only[q12],fun o ho=>by injection ho with ho;subst ho;exact rfl⟩
   ·have q12:=h 12 (by simp);exact⟨by simp only[q12],fun o ho=>by cases ho⟩
   ·have q1:=h 1 (by simp);have q3:=h 3 (by simp);have q7:=h 7 (by simp);have q12:=h 12 (by simp);exact⟨by simp only[q1,q3,q7,q12],fun o ho=>by cases ho⟩
   ·have q15:=h 15 (by simp);exact⟨by simp only[q15],fun o ho=>by injection ho with ho;subst ho;exact rfl⟩
  ·refine⟨⟨_,_,_,_,rfl,fun γ a w cZ hd ho=>?_⟩,⟨_,_,_,_,rfl,fun γ a w cZ hd ho=>?_⟩,⟨_,_,_,_,rfl,fun γ a w cZ hd ho=>?_⟩,⟨_,_,_,_,rfl,fun γ a w cZ hd ho=>?_⟩,⟨_,_,_,_,rfl,fun γ a w cZ hd ho=>?_⟩,⟨_,_,_,_,rfl,fun γ a w cZ hd ho=>?_⟩,⟨_,_,_,_,rfl,fun γ a w cZ hd ho=>?_⟩,⟨_,_,_,_,rfl,fun γ a w cZ hd ho=>?_⟩,⟨_,_,_,_,rfl,fun γ a w cZ hd ho=>?_⟩,⟨_,_,_,_,rfl,fun γ a w cZ hd ho=>?_⟩,⟨_,_,_,_,rfl,fun γ a w cZ hd ho=>?_⟩,⟨_,_,_,_,rfl,fun γ a w cZ hd ho=>?_⟩,⟨_,_,_,_,rfl,fun γ a w cZ hd ho=>?_⟩,⟨_,_,_,_,rfl,fun γ a w cZ hd ho=>?_⟩,⟨_,_,_,_,rfl,fun γ a w cZ hd ho=>?_⟩,⟨_,_,_,_,rfl,fun γ a w cZ hd ho=>?_⟩,trivial⟩
   ·have g4:=ho 4 rfl;(try dsimp only at g4);clear hd ho;go_simp
   ·have g26:=hd 0 (by decide) _ rfl;(try dsimp only at g26);clear hd ho;go_simp;(try simp[bE])
   ·have g4:=ho 4 rfl;(try dsimp only at g4);clear hd ho;go_simp
   ·have g28:=hd 2 (by decide) _ rfl;(try dsimp only at g28);clear hd ho;go_simp;(try simp[bE])
   ·have g4:=ho 4 rfl;(try dsimp only at g4);clear hd ho;go_simp
   ·have g4:=ho 4 rfl;(try dsimp only at g4);clear hd ho;go_simp
   ·have g4:=ho 4 rfl;(try dsimp only at g4);clear hd ho;go_simp
   ·have g32:=hd 6 (by decide) _ rfl;(try dsimp only at g32);clear hd ho;go_simp;(try simp[bE])
   ·have g30:=hd 4 (by decide) _ rfl;have g31:=hd 5 (by decide) _ rfl;have g33:=hd 7 (by decide) _ rfl;(try dsimp only at g30 g31 g33);simp only[Array.getD_eq_getD_getElem?]at g30 g31 g33;clear hd ho;go_simp
   ·have g4:=ho 4 rfl;(try dsimp only at g4);clear hd ho;go_simp
   ·have g4:=ho 4 rfl;(try dsimp only at g4);clear hd ho;go_simp
   ·have g4:=ho 4 rfl;(try dsimp only at g4);clear hd ho;go_simp
   ·have g37:=hd 11 (by decide) _ rfl;(try dsimp only at g37);clear hd ho;go_simp;(try simp[bE])
   ·have g35:=hd 9 (by decide) _ rfl;have g36:=hd 10 (by decide) _ rfl;have g38:=hd 12 (by decide) _ rfl;(try dsimp only at g35 g36 g38);simp only[Array.getD_eq_getD_getElem?]at g35 g36 g38;clear hd ho;go_simp
   ·have g27:=hd 1 (by decide) _ rfl;have g29:=hd 3 (by decide) _ rfl;have g34:=hd 8 (by decide) _ rfl;have g39:=hd 13 (by decide) _ rfl;(try dsimp only at g27 g29 g34 g39);simp only[Array.getD_eq_getD_getElem?]at g27 g29 g34 g39;clear hd ho;go_simp
   ·skip;clear hd ho;go_simp;(try simp[bE])
  ·intro γ w' uS hdf hb hS;obtain⟨h1,h2⟩:=uS 1 _ _ rfl rfl;obtain⟨h3,h4⟩:=uS 3 _ _ rfl rfl;obtain⟨h5,h6⟩:=uS 7 _ _ rfl rfl;obtain⟨h7,h8⟩:=uS 12 _ _ rfl rfl;obtain⟨h9,h10⟩:=uS 15 _ _ rfl rfl;have h11:=hdf 1 3 _ _ rfl rfl rfl rfl (by decide);have h12:=hdf 7 12 _ _ rfl rfl rfl rfl (by decide);have h13:=hdf 15 1 _ _ rfl rfl rfl rfl (by decide);have h14:=hdf 15 3 _ _ rfl rfl rfl rfl (by decide);have h15:=hdf 15 7 _ _ rfl rfl rfl rfl (by decide);have h16:=hdf 15 12 _ _ rfl rfl rfl rfl (by decide);(try dsimp only at h1 h3 h5 h7 h9);clear uS hdf hS;have hset:=Nw (v:=#[.slice (some ⟨γ 1,0,none⟩) n n, .slice (some ⟨γ 3,0,none⟩) n n, .int .i64 (n:Int), .int .i64 (n:Int), .slice (some ⟨γ 7,0,none⟩) n n, .int .i64 (n:Int), .int .i64 (n:Int), .slice (some ⟨γ 12,0,none⟩) n n]) rfl h9;obtain⟨w2,hs1,oN,Cn⟩:=hset;have hlt:∀k o,w'.heap[k]?=some o->k≠γ 15->w2.heap[k]?=some o:=fun k o h hk=>(Cn.block k (au.1 h).1 hk).trans h;refine Eg (w':=w2) rfl rfl ?_ ?_
   ·rw[hs1];obtain⟨⟨x0,x1,x2,x3,x4,x5,x6,x7⟩,z0,z1,z2,z3,z4,z5,z6,z7⟩:=fQ h9;simp only[puts,Act.put,List.setIfInBounds_toArray,List.set_cons_zero,List.set_cons_succ];go_simp
   ·simp only[puts,Act.put,List.setIfInBounds_toArray,List.set_cons_zero,List.set_cons_succ];go_wp2_with fail
    go_meet;exact⟨γ 15,γ 1,γ 3,γ 7,γ 12,rfl,oN,hlt _ _ h1 (fun e=>h13 e.symm),hlt _ _ h3 (fun e=>h14 e.symm),hlt _ _ h5 (fun e=>h15 e.symm),hlt _ _ h7 (fun e=>h16 e.symm),h11,h12,h10,h2,h4,h6,h8,hb.trans (Cn.below hb.size (fun q hq e=>by omega))⟩
 case rest=>
  obtain⟨bF,gR,gC,gL,gU,rfl,f1,f2,f3,f4,f5,d1,d2,n1,n2,n3,n4,n5,kY⟩:=hcut;have bp:=bI wc (.cells LX 3);have rp:cC (wc.alloc (.cells LX 3)) wc.heap.size n (fun _=>0):=by rw[<-HI_.out];exact cC.new wc n _
  have mkP:=dI wc;clear dI mkE;obtain⟨wp,hwp⟩:=xeq (wc.alloc (.cells LX 3));obtain⟨gP,Sk⟩:=xeq wc.heap.size;rw[hwp]at bp rp mkP;rw[Sk]at rp mkP;have hlt:∀k o,wc.heap[k]?=some o->wp.heap[k]?=some o/\k<gP:=fun k o h=>⟨(bp.block k (au.1 h).1).trans h,by rw[<-Sk];exact(au.1 h).1⟩;have aa6:gP<wp.heap.size:=rp.lt
  have hfs:FSt wp n bF gR gC gP gL gU (fun _=>0) (fun _=>0) (fun _=>0):=by
   refine⟨(hlt _ _ f1).1,?_,?_,rp,d1,?_,?_⟩
   ·unfold cC;exact(hlt _ _ f2).1.trans (by rw[<-HI_.out];rfl)
   ·unfold cC;exact(hlt _ _ f3).1.trans (by rw[<-HI_.out];rfl)
   ·have:=(hlt _ _ f2).2;omega
   ·have:=(hlt _ _ f3).2;omega
  have hvl:dm wp gL 40 n (fun _=> .slice none 0 0):=by unfold dm;rw[HE.out];exact(hlt _ _ f4).1
  have CP:dm wp gU 40 n (fun _=> .slice none 0 0):=by unfold dm;rw[HE.out];exact(hlt _ _ f5).1
  have aa7:(bF<wp.heap.size/\gR<wp.heap.size/\gC<wp.heap.size/\gP<wp.heap.size/\gL<wp.heap.size/\gU<wp.heap.size/\N1<wp.heap.size):=by
   have a1:=(hlt _ _ f1).2;have a2:=(hlt _ _ f2).2;have a3:=(hlt _ _ f3).2;have a4:=(hlt _ _ f4).2;have a5:=(hlt _ _ f5).2;have a6:=(au.1 WQ.out).1;have a7:=kY.size;have a8:=bp.size;refine⟨by omega,by omega,by omega,by omega,by omega,by omega,by omega⟩
  have Rd:Below w1.heap.size w1 wp:=kY.trans (bp.mono kY.size);have aow:N0<=w1.heap.size:=ay hNs g1.size;have Vv:Below N0 w wp:=hb1.trans (Rd.mono aow);have ip:=i1.keep Rd;have x00:=ip.c0;have x01:=ip.c1;have x02:=ip.c2;have hBp:=(Rd.block N1 (au.1 WQ.out).1).trans WQ.out;have hst:=P4 (c:=c) hn (HL.out wp Vv) HP.out.1 HP.out.2.1 HP.out.2.2.1 (by have:=HP.out.2.2.2.1;have:=BR M (aF n);have:sk M 0=M:=rfl;omega);have HN:=ah (show N0<=gR/\N0<=gC/\N0<=gP/\N0<=gL/\N0<=gU/\gP<wp.heap.size/\N0<N1 from⟨by omega,by omega,by have:=kY.size;omega,by omega,by omega,aa6,by omega⟩);have G8:=ah aa7;have Q9:=ah (ai hfs (ai hvl (ai CP (ai hBp Vv))));clear f1 f2 f3 f4 f5 n1 n2 n3 n4 n5 kY bp rp hlt hfs hvl CP aa7 Rd Vv i0 i1 ip hBp hb1 aa6;go_wp2_with fail
  (try rw[hwp]);refine hst.mono ?_;rintro e w2 ⟨el,Vr,Vl,L,R,rfl,hlo,hes,hcr,hb2⟩;clear hst x00 x01 x02 mkP hwp Sk
  have JD:F1 w2 n M (fun i j=>gv (R i) j) el bF gR gC gP gL gU 0 (fun _=>0) (fun _=>0) (fun _=>0) Vr Vl L R (fun _=>[]) (List.range n):=by
   refine⟨hes.jv (fun j _ i=>⟨fun h=>⟨⟨h.1,fun q hq=>absurd hq (Nat.not_lt_zero q)⟩,h.2⟩,fun h=>⟨h.1.1,h.2⟩⟩),fun i hi=>(hcr i hi).1,Gd.EI.start _ _ (fun x hx=>HP.out.2.2.2.2.2.2 x (fun i hi=>?_)),Q9.out.1.bJ (P:=fun _=>False) (bw.of hb2) (fun h=>h) (fun h=>h) (fun h=>h) (fun h=>h),fun q hq=>absurd hq (Nat.not_lt_zero q),List.nodup_range,fun x=>?_,by simp⟩
   ·rw[<-hx i hi];exact Gd.cT fun j _=>by rw[(hcr i hi).2]
   ·rw[List.mem_range];exact⟨fun h=>⟨h,fun q hq=>absurd hq (Nat.not_lt_zero q)⟩,fun h=>h.1⟩
  have hI0:=ai JD (ai (Q9.out.2.1.bJ (P:=fun _=>False) (bw.of hb2) (fun h=>h)) (ai (Q9.out.2.2.1.bJ (P:=fun _=>False) (bw.of hb2) (fun h=>h)) (ai ((hb2.block N1 G8.out.2.2.2.2.2.2).trans Q9.out.2.2.2.1) (Q9.out.2.2.2.2.trans (hb2.mono (by have h1:=HN.out.1;have h2:=G8.out.2.1;omega))))));have HI0:=ah hI0;have HCR:=ah hcr;have HEB:=ah (ai hes.lo.1 hes.lo.2.1);rw[<-hlo]at G8;clear JD hI0 hes hcr hb2 Q9;go_wp2_with fail
  go_loopw [46] (fun t wr=>∃(k:Nat) (rs cs pl:Nat->Nat) (Vr Vl:Nat->Value) (L:Nat->List Value) (A1 Ls:Nat->List (Nat×Rat)) (lf:List Nat),k<=n/\t= .int .i64 (k:Int)/\F1 wr n M (fun i j=>gv (R i) j) el bF gR gC gP gL gU k rs cs pl Vr Vl L A1 Ls lf/\dm wr gL 40 n (fun _=> .slice none 0 0)/\dm wr gU 40 n (fun _=> .slice none 0 0)/\wr.heap[N1]?=some (.cells #[.slice none 0 0, .slice none 0 0, .int .i64 0, .int .i64 0, .slice none 0 0, .int .i64 0, .int .i64 0, .slice none 0 0] 96 (0,0))/\Below N0 w wr) (fun t _=>n- (intOf t).toNat)
  case atStart=>exact⟨0,_,_,_,_,_,_,_,_,_,aF _,rfl,HI0.out⟩
  case round=>
   clear HI0;obtain⟨k,rs,cs,pl,Vr,Vl,L,A1,Ls,lf,hk,rfl,hF,hvl,CP,hB,cF⟩:=hrel
   by_cases hlk:k<n
   ·obtain⟨hpos,hlf,hQ⟩:=hF.pre hlk;have hch:=LY hF.es hn hpos hlf hQ;have HF:=ah (ai hF (ai hvl (ai CP (ai hB cF))));clear hF hvl CP hB cF hlf hQ hpos;go_wp2_with fail
    refine hch.mono ?_;rintro ret w4 ⟨b,row,col,hb,hq,rfl,Fo,zO⟩;clear hch;obtain⟨hF,hvl,CP,hB,cF⟩:=HF.out;have hge:∀x,el.all n Vl x->el.lo<=x:=fun x hx=>(hF.es.lt hx).1;have CQ:∀x,x<el.lo->¬el.all n Vl x:=fun x h1 h2=>by have:=hge x h2;omega
    obtain⟨t1,t2,t3,t4,t5,t6,t7⟩:=G8.out;have Kk:=hF.fs.bJ zO (CQ _ t1) (CQ _ t2) (CQ _ t3) (CQ _ t4);have wP:FSt w4.drew n bF gR gC gP gL gU rs cs pl:=Kk.bJ (P:=fun _=>False) (bw.of (aq _ _).drew) (fun h=>h) (fun h=>h) (fun h=>h) (fun h=>h);have CU:row<n:=hq.1.1;have BJ:col<n:=((hF.lf.2.1 col).1 (aD hb)).1;obtain⟨aa8,Vw⟩:=Kk.put k row col
    have Sl:=Fo.wO Vw (fun x hx h2=>by have:=hge x hx;rcases h2 with h2|h2|h2<;>omega) (fun x hx=>by
     rcases hx with rfl|rfl|rfl
     ·exact Kk.r.ne
     ·exact Kk.c.ne
     ·exact Kk.p.ne)
    have z0:w4.drew.cell? ⟨bF,0,none⟩=some (.slice (some ⟨gR,0,none⟩) n n):=(aT w4.drew bF 0 _ _ (0,0) wP.f).trans rfl;have z1:w4.drew.cell? ⟨bF,1,none⟩=some (.slice (some ⟨gC,0,none⟩) n n):=(aT w4.drew bF 1 _ _ (0,0) wP.f).trans rfl;have z2:=Kk.r.cell hlk;have z3:=Kk.r.frozen k;have z4:=Kk.c.cell hlk;have z5:=Kk.c.frozen k;have z6:=Kk.p.cell BJ;have z7:=Kk.p.frozen col;have ngR:¬bF=gR:=wP.tb.ne wP.r.tb (by decide);have ngC:¬bF=gC:=wP.tb.ne wP.c.tb (by decide);have ngP:¬bF=gP:=wP.tb.ne wP.p.tb (by decide);obtain⟨e1,e2,e3⟩:=wP.d;have e4:=e1.symm;have e5:=e2.symm;have e6:=e3.symm;have v0:(0:Int)<=(k:Int):=by omega
    have v1:(k:Int)<n:=by omega
    have v2:(0:Int)<=(col:Int):=by omega
    have v3:(col:Int)<n:=by omega
    have hbd:=(show∀x:World,Below x.heap.size x x.drew from fun x=>(aq _ _).drew) ((((w4.setCell ⟨gR,k,none⟩ (.int .i64 (row:Int))).setCell ⟨gC,k,none⟩ (.int .i64 (col:Int))).setCell ⟨gP,col,none⟩ (.int .i64 (k:Int))));have Yq:=aa8.bJ (P:=fun _=>False) (bw.of hbd) (fun h=>h) (fun h=>h) (fun h=>h) (fun h=>h);have Yr:=Vw.drew;have Jx:=Sl.below hbd;obtain⟨w5,hw5⟩:=xeq ((((w4.setCell ⟨gR,k,none⟩ (.int .i64 (row:Int))).setCell ⟨gC,k,none⟩ (.int .i64 (col:Int))).setCell ⟨gP,col,none⟩ (.int .i64 (k:Int))).drew);rw[hw5]at Yq Yr Jx;have aa9:=Vc (k:=k) (c:=col) (r:=row) Jx hn (Mb (by have:=HP.out.2.1;have:=HP.out.2.2.1;omega)) (by have h1:=HP.out.2.2.2.1;have h2:sk M (k+1)<=sk M n:=BR M hlk;have h3:sk M (k+1)=6*sk M k+1:=rfl;omega) CU BJ hq.2 hF.can (fun i=>i<n/\∀q,q<k->rs q≠i) (fun i h=>h.1) (fun j i _=>Iff.rfl) hq.1 (fun i hi=>by have:=hF.len hi;omega);have Kf:=ah (ai Yq (ai Yr (ai zO (ai hb hq))));have HW5:=ah hw5;have HNL:=ah (ai CQ hge);clear hF hvl CP hB cF hge CQ t1 t2 t3 t4 t5 t6 t7 Kk wP Yq aa8 Yr Vw Jx Sl hbd Fo zO hw5 hb hq;go_upto_region 15 with fail
    refine wp_region_held_drew (S:=(fun w'=>w'.cell? ⟨bF,0,none⟩=some (.slice (some ⟨gR,0,none⟩) n n)/\w'.cell? ⟨bF,1,none⟩=some (.slice (some ⟨gC,0,none⟩) n n))) (by kernel_rfl) (⟨z0,z1⟩) (fun aU=>?_);refine tq 0 aU ?_;refine tq 1 aU ?_;refine tq 2 aU ?_;refine tq 3 aU ?_;refine tq 4 aU ?_;refine tq 5 aU ?_;refine tq 6 aU ?_;refine tq 7 aU ?_;refine tq 8 aU ?_;refine tq 9 aU ?_;refine tq 10 aU ?_;refine tq 11 aU ?_;refine tv 12 (fun κ hκ=>?_);go_simp;refine hκ.out _ _ ?_ (fun aU=>?_)
    ·exact⟨(bw.set (P:=(·=gR)) (p:=⟨gR,_,none⟩) rfl _ _).cell ngR aU.1,(bw.set (P:=(·=gR)) (p:=⟨gR,_,none⟩) rfl _ _).cell ngR aU.2⟩
    clear hκ κ;refine tu ?_;refine tq 13 aU ?_;refine tv 14 (fun κ hκ=>?_);go_simp;refine hκ.out _ _ ?_ (fun aU=>?_)
    ·exact⟨(bw.set (P:=(·=gC)) (p:=⟨gC,_,none⟩) rfl _ _).cell ngC aU.1,(bw.set (P:=(·=gC)) (p:=⟨gC,_,none⟩) rfl _ _).cell ngC aU.2⟩
    clear hκ κ;refine tu ?_;refine tq 15 aU ?_;refine tv 16 (fun κ hκ=>?_);go_simp;refine hκ.out _ _ ?_ (fun aU=>?_)
    ·exact⟨(bw.set (P:=(·=gP)) (p:=⟨gP,_,none⟩) rfl _ _).cell ngP aU.1,(bw.set (P:=(·=gP)) (p:=⟨gP,_,none⟩) rfl _ _).cell ngP aU.2⟩
    clear hκ κ;refine tu ?_;refine td ?_ _;rw[HW5.out];clear z0 z1 z2 z3 z4 z5 z6 z7 aU;go_wp2_with fail
    refine aa9.mono ?_;rintro ret w6 ⟨rfl,Vr',XK,L',A',Gx,gZ,SV,ae9,Oj,-⟩;clear aa9;obtain⟨hF,hvl,CP,hB,cF⟩:=HF.out;obtain⟨Yq,Yr,zO,hb,hq⟩:=Kf.out;obtain⟨CQ,hge⟩:=HNL.out;obtain⟨t1,t2,t3,t4,t5,t6,t7⟩:=G8.out;obtain⟨s1,s2,s3,s4,s5,s6,s7⟩:=HN.out;have fs6:=Yq.bJ Oj (CQ _ t1) (CQ _ t2) (CQ _ t3) (CQ _ t4);have J9:=hF.next hlk hb hq gZ SV ae9 fs6;have hcc:bw (fun x=>el.all n Vl x∨(x=gR∨x=gC∨x=gP)) wr w6:=(zO.mono (fun _ _ h=> .inl h)).trans ((Yr.mono (fun _ _ h=> .inr h)).trans (Oj.mono (fun _ _ h=> .inl h)));have hnn:∀x,x<el.lo->x≠gR->x≠gC->x≠gP->¬(el.all n Vl x∨(x=gR∨x=gC∨x=gP)):=fun x h1 h2 h3 h4 h5=>h5.elim (CQ x h1) (fun h6=>h6.elim h2 (fun h7=>h7.elim h3 h4));have tl:=hvl.tb;have tuZ:=CP.tb;have tN:TB wr N1 96:=⟨_,hB⟩;have JD:=hF.fs;have Rf:N0<=el.lo:=by omega
    have HR:=ah (ai J9 (ai (hvl.bJ hcc (hnn _ t5 (tl.ne JD.r.tb (by decide)) (tl.ne JD.c.tb (by decide)) (tl.ne JD.p.tb (by decide)))) (ai (CP.bJ hcc (hnn _ t6 (tuZ.ne JD.r.tb (by decide)) (tuZ.ne JD.c.tb (by decide)) (tuZ.ne JD.p.tb (by decide)))) (ai ((hcc.block N1 tN.lt (hnn _ t7 (tN.ne JD.r.tb (by decide)) (tN.ne JD.c.tb (by decide)) (tN.ne JD.p.tb (by decide)))).trans hB) (cF.trans (hcc.below (by have:=cF.size;have:=Oh.out;omega) (fun q CY h2=>by
     rcases h2 with h2|h2|h2|h2
     ·have:=hge q h2;omega
     ·omega
     ·omega
     ·omega)))))))
    clear hF hvl CP hB cF Yq Yr zO hb hq CQ hge fs6 J9 hcc hnn tl tuZ tN JD gZ SV ae9 Oj t1 t2 t3 t4 t5 t6 t7 s1 s2 s3 s4 s5 s6 s7 HF Kf HNL;go_wp2_with fail
    go_roundw
    case rel=>exact⟨k+1,_,_,_,_,_,_,_,_,_,by omega,by go_num,HR.out⟩
    case measure=>simp[intOf];omega
   ·obtain rfl:n=k:=by omega
    obtain⟨t1,t2,t3,t4,t5,t6,t7⟩:=G8.out;have Ad:F2 wr (rC.mk n el (.slice (some ⟨el.gf,0,none⟩) lf.length n) Vr Vl L A1 Ls rs gL gU (sk M n) M2 (fun i u=>Can n u/\∀p,p<n->gv u p=gv (A1 (rs i)) (cs p))) 0 0 (fun _=> .slice none 0 0) (fun _=> .slice none 0 0) (fun _=>[]):=F2.start hF.es hvl CP d2 t5 t6 rs _;obtain⟨Ny,NA⟩:=hF.perm;have Rg:=ah (ai hF.ei (ai hF.can (ai (fun i hi=>hF.len (i:=i) hi) (ai hF.pl (ai Ny NA)))));have SW:=ah (ai Ad (ai hF.fs (ai hB cF)));have z0:wr.cell? ⟨bF,0,none⟩=some (.slice (some ⟨gR,0,none⟩) n n):=(aT wr bF 0 _ _ (0,0) hF.fs.f).trans rfl;clear hF hvl CP hB cF Ad Ny NA t1 t2 t3 t4 t5 t6 t7;go_wp2_with fail
    clear z0
    go_loopw [81] (fun t wr=>∃(a:Nat) (VL VU:Nat->Value) (U:Nat->List (Nat×Rat)),a<=n/\t= .int .i64 (a:Int)/\F2 wr (rC.mk n el (.slice (some ⟨el.gf,0,none⟩) lf.length n) Vr Vl L A1 Ls rs gL gU (sk M n) M2 (fun i u=>Can n u/\∀p,p<n->gv u p=gv (A1 (rs i)) (cs p))) a a VL VU U/\FSt wr n bF gR gC gP gL gU rs cs pl/\wr.heap[N1]?=some (.cells #[.slice none 0 0, .slice none 0 0, .int .i64 0, .int .i64 0, .slice none 0 0, .int .i64 0, .int .i64 0, .slice none 0 0] 96 (0,0))/\Below N0 w wr) (fun t _=>n- (intOf t).toNat)
    case atStart=>exact⟨0,_,_,_,aF _,rfl,SW.out⟩
    case round=>
     clear SW;obtain⟨a,VL,VU,U,ha,rfl,Ad,hfs,hB,cF⟩:=hrel
     by_cases hla:a<n
     ·obtain⟨r,er⟩:=xeq (rs a);have CU:r<n:=by rw[<-er];exact Rg.out.1.Gz a hla
      have hop:rC.open_ (rC.mk n el (.slice (some ⟨el.gf,0,none⟩) lf.length n) Vr Vl L A1 Ls rs gL gU (sk M n) M2 (fun i u=>Can n u/\∀p,p<n->gv u p=gv (A1 (rs i)) (cs p))) a r:=⟨CU,fun q hq e=>by
       have e2:rs q=rs a:=by rw[er];exact e
       have:=Rg.out.1.zo q a (by omega) hla e2;omega⟩
      obtain⟨ll,qB⟩:=xeq ((Ls r).length);have hll:ll<=n:=by rw[<-qB];exact Rg.out.2.2.1 r CU
      have zR:wr.cell? ⟨gR,a,none⟩=some (.int .i64 (r:Int)):=by rw[<-er];exact hfs.r.cell hla
      have v0:(0:Int)<=(a:Int):=by omega
      have v1:(a:Int)<n:=by omega
      have v2:(0:Int)<=(r:Int):=by omega
      have v3:(r:Int)<n:=by omega
      have hdr:Below wr.heap.size wr wr.drew:=(aq _ _).drew;have wQ:=Ad.below hdr;have z4:wr.drew.cell? ⟨bF,4,none⟩=some (.slice (some ⟨gL,0,none⟩) n n):=(aT wr.drew bF 4 _ _ (0,0) hfs.f).trans rfl;have z5:wr.drew.cell? ⟨el.eb,1,none⟩=some (.slice (some ⟨el.gl,0,none⟩) n n):=(aT wr.drew el.eb 1 _ _ (0,0) wQ.st).trans rfl;have z6:wr.drew.cell? ⟨el.gl,r,none⟩=some (Vl r):=wQ.rl.cell CU;have lb:bF<wr.drew.heap.size:=hfs.tb.lt;have le:el.eb<wr.drew.heap.size:=wQ.kC.lt;have lg:el.gl<wr.drew.heap.size:=wQ.rl.lt;have dH:=ah (fun w' (hb:Below wr.drew.heap.size wr.drew w')=>ai (bn hb lb z4) (ai (bn hb le z5) (bn hb lg z6)));have hne:∀x T,TB wr.drew x T->T≠92->¬some x=(Vl r).ownBlock:=fun x T ht hT hx=>ht.ne (wQ.N3 hop hx.symm) hT rfl;have gV:=hne bF _ hfs.tb (by decide);have iw:=hne el.eb _ wQ.kC (by decide);have jS:=hne el.gl _ wQ.rl.tb (by decide);have ni:=hne gL _ wQ.vl.tb (by decide);have rX:=ah (show¬bF=gL/\¬el.eb=gL/\¬el.gl=gL from⟨hfs.tb.ne (show TB wr gL _ from Ad.vl.tb) (by decide),Ad.kC.ne (show TB wr gL _ from Ad.vl.tb) (by decide),fun e=>Ad.ne.2.2.1 e.symm⟩)
      have Es:sk M n<=M2/\1<=M2/\1<=sk M n:=by
       have h1:=HP.out.2.2.2.2.1;have h2:=HP.out.2.1;have h3:=HP.out.2.2.1;have h4:1<=sk M n:=Mb (by omega);refine⟨?_,?_,h4⟩<;>omega
      have abb:=ah (show∀(Wb:World) (g cap:Nat) (w':World) (x y z:Value),F2 Wb (rC.mk n el (.slice (some ⟨el.gf,0,none⟩) lf.length n) Vr Vl L A1 Ls rs gL gU (sk M n) M2 (fun i u=>Can n u/\∀p,p<n->gv u p=gv (A1 (rs i)) (cs p))) a a VL VU U->RO Wb (rC.m (rC.mk n el (.slice (some ⟨el.gf,0,none⟩) lf.length n) Vr Vl L A1 Ls rs gL gU (sk M n) M2 (fun i u=>Can n u/\∀p,p<n->gv u p=gv (A1 (rs i)) (cs p))) 0) x y z 1 1->w'.ownsRow el.lo 92 4 (.slice (some ⟨g,0,none⟩) (ll+1) cap) (ll+1) (L r++ [.int .i64 (a:Int),x,y,z])->Wb.grownBy w' (Vl r).ownBlock->((Vl r).ownBlock=some g∨g=Wb.heap.size)->F2 (w'.setCell ⟨gL,a,none⟩ (.slice (some ⟨g,0,none⟩) (ll+1) cap)) (rC.mk n el (.slice (some ⟨el.gf,0,none⟩) lf.length n) Vr Vl L A1 Ls rs gL gU (sk M n) M2 (fun i u=>Can n u/\∀p,p<n->gv u p=gv (A1 (rs i)) (cs p))) (a+1) a (bE VL a (.slice (some ⟨g,0,none⟩) (ll+1) cap)) VU U/\bw (rC.m (rC.mk n el (.slice (some ⟨el.gf,0,none⟩) lf.length n) Vr Vl L A1 Ls rs gL gU (sk M n) M2 (fun i u=>Can n u/\∀p,p<n->gv u p=gv (A1 (rs i)) (cs p))) a) Wb (w'.setCell ⟨gL,a,none⟩ (.slice (some ⟨g,0,none⟩) (ll+1) cap))from by
       intro Wb g cap w' x y z h1 h2 h3 h4 h5;subst er qB;exact h1.low hla hop h3 h4 h5 h2 Es.1 Es.2.1)
      have HLO:=ah (show el.lo<=wr.drew.heap.size from by have:=G8.out.1;have h9:=HEB.out;exact ay h9.1 (aR le));have PW:=ah qB;have QN:=ah wQ;have HOP:=ah hop;have QG:=ah (ai hfs (ai hB (ai cF (ai Es er))));clear Ad wQ hfs hB cF hop qB er z4 z5 z6 lb le lg hne hdr Es;go_upto_region 21 with fail
      clear zR;refine wp_region_held_drew (S:=(fun w'=>w'.cell? ⟨bF,4,none⟩=some (.slice (some ⟨gL,0,none⟩) n n)/\w'.cell? ⟨el.eb,1,none⟩=some (.slice (some ⟨el.gl,0,none⟩) n n)/\w'.cell? ⟨el.gl,r,none⟩=some (Vl r))) (by kernel_rfl) (dH.out _ (aq _ _)) (fun aU=>?_);refine tq 0 aU ?_;refine tq 1 aU ?_;refine tq 2 aU ?_;refine tq 3 aU ?_;refine tq 4 aU ?_;refine tq 5 aU ?_;refine tq 6 aU ?_;refine tq 7 aU ?_;refine tq 8 aU ?_;refine tq 9 aU ?_;refine tq 10 aU ?_;refine tq 11 aU ?_;refine tv 12 (fun κ hκ=>?_);go_simp;go_at_call 47;refine(fO (by omega) (by omega) E1.out).mono ?_;rintro ret w12 ⟨b12,s12,t12,rfl,o12,g12⟩;have k12:=dH.out _ g12;have afa:=QN.out.below g12;have oz:RO w12 (rC.m (rC.mk n el (.slice (some ⟨el.gf,0,none⟩) lf.length n) Vr Vl L A1 Ls rs gL gU (sk M n) M2 (fun i u=>Can n u/\∀p,p<n->gv u p=gv (A1 (rs i)) (cs p))) 0) b12 s12 t12 1 1:=o12.ro (nW (aj 1)) (fun x hx=>QN.out.m0 x hx);have hone:=(o12.is (nW (aj 1))).qG (a:Int);have hba:=bI w12 (.cells #[.int .i64 (a:Int),b12,s12,t12] 92);have h6:(w12.alloc (.cells #[.int .i64 (a:Int),b12,s12,t12] 92)).heap[w12.heap.size]?=some (.cells #[.int .i64 (a:Int),b12,s12,t12] 92 (0,0)):=aS w12 _;obtain⟨Wb,oV⟩:=xeq (w12.alloc (.cells #[.int .i64 (a:Int),b12,s12,t12] 92));obtain⟨nb,hnb⟩:=xeq w12.heap.size;rw[oV]at hba h6;rw[hnb]at h6;have NC:=afa.below hba;have SX:=oz.bJ (P:=fun _=>False) (bw.of hba) (fun _ h=>h.elim);have hown:Wb.ownsRow el.lo 92 4 (Vl r) ll (L r):=by rw[<-PW.out];exact NC.own r HOP.out
      have GF:=g12.trans (hba.mono g12.size);have jR:el.lo<=Wb.heap.size:=ay HLO.out GF.size;have HG:=ah (fun g cap w' ho hg iX=>abb.out Wb g cap w' b12 s12 t12 NC SX ho hg iX);have Ft:=ah NC;have HGW:=ah GF;have xT:=ah NC.vl;have afb:=ah (dH.out _ GF);have Ab:=ah oV;have uY:=ah hnb;clear o12 g12 afa oz hba NC SX oV hnb GF;go_wp2_with fail
      refine hκ.out _ _ ?_ (fun aU=>?_)
      ·exact k12
      clear hκ κ;refine tu ?_;refine tq 13 aU ?_;refine tv 14 (fun κ hκ=>?_);go_simp;(try rw[Ab.out]);(try rw[uY.out]);have k14:=afb.out;refine hκ.out _ _ ?_ (fun aU=>?_)
      ·exact k14
      clear hκ κ;refine tu ?_;refine tv 15 (fun κ hκ=>?_);refine step_append_lies _ rfl (.tmp 96) (.tmp 100) 40 rfl el.lo 92 _ (.agg #[.int .i64 0, .bool false, .slice none 0 0, .slice none 0 0]) 4 64 Tryz.underlying40 bT.1 bT.2.1 bT.2.2.1 bT.2.2.2 rfl (by decide) (Vl r) _ _ rfl hown ⟨nb,0,none⟩ 1 1 [.int .i64 (a:Int),b12,s12,t12] rfl rfl (World.news_of_block h6) hone (by decide) (by simp only[maxLen];omega) (by omega) jR Wb.heap.size rfl ?_;intro g7 bR w7 ew dR eO kR;have c7:=bw.grown dR;have mF:=xT.out.bJ c7 ni;have x7:=mF.cell hla;have Kc:=mF.frozen a;have k16:=ai (c7.cell gV k14.1) (ai (c7.cell iw k14.2.1) (c7.cell jS k14.2.2));have sG:=ah (HG.out g7 bR w7 ew dR eO);clear ew dR eO c7 mF;refine hκ.out _ _ ?_ (fun aU=>?_)
      ·exact k16
      clear hκ κ;refine tu ?_;refine tq 16 aU ?_;refine tv 17 (fun κ hκ=>?_);go_simp;have c18:bw (fun x=>x=gL) w7 (w7.setCell ⟨gL,a,none⟩ (.slice (some ⟨g7,0,none⟩) (ll+1) bR)):=bw.set (P:=(·=gL)) (p:=⟨gL,a,none⟩) rfl _ _;have k18:=ai (c18.cell rX.out.1 aU.1) (ai (c18.cell rX.out.2.1 aU.2.1) (c18.cell rX.out.2.2 aU.2.2));clear c18;refine hκ.out _ _ ?_ (fun aU=>?_)
      ·exact k18
      clear hκ κ;refine tu ?_;refine td ?_ _;have hF7:=sG.out;obtain⟨w8,Af⟩:=xeq (w7.setCell ⟨gL,a,none⟩ (.slice (some ⟨g7,0,none⟩) (ll+1) bR));rw[Af]at hF7⊢;clear aU Af sG rX gV iw jS ni xT afb Ab uY HG h6 hown hone jR dH abb HLO;obtain⟨hfs,hB,cF,Es,er⟩:=QG.out;obtain⟨Jl,nD⟩:=hF7;have CR:=(aq wr.heap.size wr).drew.trans HGW.out;have rD:FSt Wb n bF gR gC gP gL gU rs cs pl:=hfs.bJ (P:=fun _=>False) (bw.of CR) (fun h=>h) (fun h=>h) (fun h=>h) (fun h=>h);have tN:TB Wb N1 96:=⟨_,(CR.block N1 (au.1 hB).1).trans hB⟩;have wW:=rD.bJ nD (Ft.out.nm rD.tb (by decide) (by decide)) (Ft.out.nm rD.r.tb (by decide) (by decide)) (Ft.out.nm rD.c.tb (by decide) (by decide)) (Ft.out.nm rD.p.tb (by decide) (by decide));have SY:=(nD.block N1 tN.lt (Ft.out.nm tN (by decide) (by decide))).trans ((CR.block N1 (au.1 hB).1).trans hB);obtain⟨s1,s2,s3,s4,s5,s6,s7⟩:=HN.out;have Ml:N0<=wr.heap.size:=by have:=cF.size;have:=Oh.out;omega
      have Rf:N0<=el.lo:=by have:=G8.out.2.1;omega
      have qL:Below N0 w w8:=(cF.trans (CR.mono Ml)).trans (nD.below (ay Ml CR.size) (fun q hq hm=>by have:=Ft.out.mge (B:=N0) s4 s5 Rf hm;omega));obtain⟨Dr,cr,XI,hcr,hrw⟩:∃D c,Vr r= .slice D (A1 r).length c/\((A1 r).length<=c/\c<=9223372036854775807)/\RW w8 (rC.m (rC.mk n el (.slice (some ⟨el.gf,0,none⟩) lf.length n) Vr Vl L A1 Ls rs gL gU (sk M n) M2 (fun i u=>Can n u/\∀p,p<n->gv u p=gv (A1 (rs i)) (cs p))) 0) D (A1 r) (sk M n):=Jl.rws r CU;have hdr:Below w8.heap.size w8 w8.drew:=(aq _ _).drew;have wR:=Jl.below hdr;have hel:=hrw.el.below hdr;obtain⟨la,kL⟩:=xeq ((A1 r).length);have BJ:=Rg.out.2.1 r CU;have hpm:=Iq (w:=w8.drew) (c:=cr) (cp:=n) (n:=n) (M:=M2) (p:=pl) hel (by have:=BJ.len;omega) hcr.1 BJ.lt Es.2.2 (by have h1:=HP.out.2.2.2.2.1;have h2:=BJ.len;have h3:=aH (sk M n+1) h2;omega) HP.out.2.2.2.2.2.1 hn (Dp:=some ⟨gP,0,none⟩) (fun _=>⟨gP,0,rfl,wW.p.lt,fun i hi=>by rw[Nat.zero_add];exact wW.p.cell hi⟩) (fun i hi=>(Rg.out.2.2.2.2.1 i hi).1) Rg.out.2.2.2.2.2;rw[kL]at hpm hcr XI;have z4:w8.drew.cell? ⟨bF,7,none⟩=some (.slice (some ⟨gU,0,none⟩) n n):=(aT w8.drew bF 7 _ _ (0,0) wW.f).trans rfl;have z5:w8.drew.cell? ⟨el.eb,0,none⟩=some (.slice (some ⟨el.gr,0,none⟩) n n):=(aT w8.drew el.eb 0 _ _ (0,0) wR.st).trans rfl;have z6:w8.drew.cell? ⟨el.gr,r,none⟩=some (.slice Dr la cr):=(wR.rr.cell (by exact CU)).trans (by rw[<-XI]);have lb:bF<w8.drew.heap.size:=wW.tb.lt;have le:el.eb<w8.drew.heap.size:=wR.kC.lt;have lg:el.gr<w8.drew.heap.size:=wR.rr.lt;have HCM:=ah (fun w' (hb:Below w8.drew.heap.size w8.drew w')=>ai (bn hb lb z4) (ai (bn hb le z5) (bn hb lg z6)));have Sj:=ah (show¬bF=gU/\¬el.eb=gU/\¬el.gr=gU from⟨wW.tb.ne (show TB w8 gU _ from Jl.vu.tb) (by decide),Jl.kC.ne (show TB w8 gU _ from Jl.vu.tb) (by decide),fun e=>Jl.ne.2.2.2.1 e.symm⟩)
      have Si:=ah (show∀u,Can n u->(∀j,j<n->gv u (pl j)=gv (A1 r) j)->rC.up (rC.mk n el (.slice (some ⟨el.gf,0,none⟩) lf.length n) Vr Vl L A1 Ls rs gL gU (sk M n) M2 (fun i u=>Can n u/\∀p,p<n->gv u p=gv (A1 (rs i)) (cs p))) a u from fun u h1 h2=>⟨h1,fun p hp=>by
       show gv u p=gv (A1 (rs a)) (cs p)
       rw[er,<-h2 (cs p) (Rg.out.1.El p hp),Rg.out.2.2.2.1 p hp]⟩)
      have HF3:=ah wR;have QK:=ah (ai wR (ai wW (ai SY qL)));clear Jl wR wW SY qL hfs hB cF Es er nD CR rD tN XI hcr hrw hdr hel kL BJ z4 z5 z6 lb le lg QN Ft HGW PW HOP QG;go_upto_region 22 with fail
      refine wp_region_held_drew (S:=(fun w'=>w'.cell? ⟨bF,7,none⟩=some (.slice (some ⟨gU,0,none⟩) n n)/\w'.cell? ⟨el.eb,0,none⟩=some (.slice (some ⟨el.gr,0,none⟩) n n)/\w'.cell? ⟨el.gr,r,none⟩=some (.slice Dr la cr))) (by kernel_rfl) (HCM.out _ (aq _ _)) (fun aU=>?_);refine tq 0 aU ?_;refine tq 1 aU ?_;refine tq 2 aU ?_;refine tq 3 aU ?_;refine tq 4 aU ?_;refine tq 5 aU ?_;refine tq 6 aU ?_;refine tq 7 aU ?_;refine tq 8 aU ?_;refine tq 9 aU ?_;refine tq 10 aU ?_;refine tq 11 aU ?_;refine tv 12 (fun κ hκ=>?_);go_simp;go_at_call 85;refine hpm.mono ?_;rintro ret w22 ⟨D22,u22,c22,rfl,SZ,aoy,ND,S0,g22⟩;have k22:=HCM.out _ g22;have sL:=HF3.out.below g22;have x22:=sL.vu.cell hla;have f22:=sL.vu.frozen a;have HU:=ah (ai (sL.upp hla (Si.out u22 ND S0) aoy (SZ.rw (fun x hx=>HF3.out.mlt hx))) g22);clear sL SZ ND S0 g22 hpm;go_wp2_with fail
      refine hκ.out _ _ ?_ (fun aU=>?_)
      ·exact k22
      clear hκ κ;refine tu ?_;refine tq 13 aU ?_;refine tq 14 aU ?_;refine tq 15 aU ?_;refine tq 16 aU ?_;refine tv 17 (fun κ hκ=>?_);go_simp;have Qo:bw (fun x=>x=gU) w22 (w22.setCell ⟨gU,a,none⟩ (.slice D22 u22.length c22)):=bw.set (P:=(·=gU)) (p:=⟨gU,a,none⟩) rfl _ _;have k23:=ai (Qo.cell Sj.out.1 aU.1) (ai (Qo.cell Sj.out.2.1 aU.2.1) (Qo.cell Sj.out.2.2 aU.2.2));clear Qo;refine hκ.out _ _ ?_ (fun aU=>?_)
      ·exact k23
      clear hκ κ;refine tu ?_;refine td ?_ _;have hu:=HU.out;obtain⟨w9,WR⟩:=xeq (w22.setCell ⟨gU,a,none⟩ (.slice D22 u22.length c22));have QT:=hu.1;have abd:w22.setCell ⟨rC.gU (rC.mk n el (.slice (some ⟨el.gf,0,none⟩) lf.length n) Vr Vl L A1 Ls rs gL gU (sk M n) M2 (fun i u=>Can n u/\∀p,p<n->gv u p=gv (A1 (rs i)) (cs p))),a,none⟩ (.slice D22 u22.length c22)=w9:=WR;rw[abd]at QT;rw[WR];obtain⟨⟨hF9,WT⟩,WU⟩:=ai QT hu.2;obtain⟨wR,wW,SY,qL⟩:=QK.out;have sL:=wR.below WU;have CR:=(aq w8.heap.size w8).drew.trans WU;have rD:FSt w22 n bF gR gC gP gL gU rs cs pl:=wW.bJ (P:=fun _=>False) (bw.of CR) (fun h=>h) (fun h=>h) (fun h=>h) (fun h=>h);have tN:TB w22 N1 96:=⟨_,(CR.block N1 (au.1 SY).1).trans SY⟩;have afc:=rD.bJ WT (sL.nm rD.tb (by decide) (by decide)) (sL.nm rD.r.tb (by decide) (by decide)) (sL.nm rD.c.tb (by decide) (by decide)) (sL.nm rD.p.tb (by decide) (by decide));have hB9:=(WT.block N1 tN.lt (sL.nm tN (by decide) (by decide))).trans ((CR.block N1 (au.1 SY).1).trans SY);obtain⟨s1,s2,s3,s4,s5,s6,s7⟩:=HN.out;have Ml:N0<=w8.heap.size:=by have:=qL.size;have:=Oh.out;omega
      have Rf:N0<=el.lo:=by have:=G8.out.2.1;omega
      have qM:Below N0 w w9:=(qL.trans (CR.mono Ml)).trans (WT.below (ay Ml CR.size) (fun q hq hm=>by have:=sL.mge (B:=N0) s4 s5 Rf hm;omega));have HR:=ah (ai hF9 (ai afc (ai hB9 qM)));clear hu QT WR abd hF9 WT WU wR wW SY qL sL CR rD tN afc hB9 qM HU QK HF3 HCM Sj Si aU;go_wp2_with fail
      go_roundw
      case rel=>exact⟨a+1,_,_,_,by omega,by go_num,HR.out⟩
      case measure=>simp[intOf];omega
     ·obtain rfl:n=a:=by omega
      have hd:=Ad.done;obtain⟨hdL,hdU⟩:=hd;obtain⟨⟨x0,x1,x2,x3,x4,x5,x6,x7⟩,z0,z1,z2,z3,z4,z5,z6,z7⟩:=fQ hB;obtain⟨⟨y0,y1,y2,y3,y4,y5,y6,y7⟩,-⟩:=fQ hfs.f;obtain⟨w9,hs1,oN,Cn⟩:=Nw (v:=#[.slice (some ⟨gR,0,none⟩) n n, .slice (some ⟨gC,0,none⟩) n n, .int .i64 (n:Int), .int .i64 (n:Int), .slice (some ⟨gL,0,none⟩) n n, .int .i64 (n:Int), .int .i64 (n:Int), .slice (some ⟨gU,0,none⟩) n n]) rfl hB;have tN:TB wr N1 96:=⟨_,hB⟩
      have XT:∀k,k=N1->NE wr k:=fun k e=>by
       subst e;refine NE.of hB fun i v hv=>?_
       match i,hv with
       |0,hv=>injection hv with hv;subst hv;exact⟨fun z e=>(by cases e),fun p e=>(by cases e)⟩
       |1,hv=>injection hv with hv;subst hv;exact⟨fun z e=>(by cases e),fun p e=>(by cases e)⟩
       |2,hv=>injection hv with hv;subst hv;exact⟨fun z e=>(by cases e),fun p e=>(by cases e)⟩
       |3,hv=>injection hv with hv;subst hv;exact⟨fun z e=>(by cases e),fun p e=>(by cases e)⟩
       |4,hv=>injection hv with hv;subst hv;exact⟨fun z e=>(by cases e),fun p e=>(by cases e)⟩
       |5,hv=>injection hv with hv;subst hv;exact⟨fun z e=>(by cases e),fun p e=>(by cases e)⟩
       |6,hv=>injection hv with hv;subst hv;exact⟨fun z e=>(by cases e),fun p e=>(by cases e)⟩
       |7,hv=>injection hv with hv;subst hv;exact⟨fun z e=>(by cases e),fun p e=>(by cases e)⟩
       |i+8,hv=>simp at hv
      have hur:=Eo.of Rg.out.1 (fun i hi=>(Ad.du i hi).1);have QT:=hur.congr (N':=fun i j=>gv (A i) j) (fun i j hi hj=>((HCR.out i hi).2 j).symm);have s7:=HN.out.2.2.2.2.2.2
      have hR:(∃v rs cs lo up,Ending.returned (.tuple #[.agg #[.slice (some ⟨gR,0,none⟩) n n, .slice (some ⟨gC,0,none⟩) n n, .int .i64 (n:Int), .int .i64 (n:Int), .slice (some ⟨gL,0,none⟩) n n, .int .i64 (n:Int), .int .i64 (n:Int), .slice (some ⟨gU,0,none⟩) n n], .int .i64 0])= .returned (.tuple #[v, .int .i64 0])/\Sc w9 v n rs cs lo up M2/\Eo n (fun i j=>gv (A i) j) rs cs lo up/\Below w.heap.size w w9):=by
       refine⟨_,rs,cs,_,U,rfl,⟨gR,gC,some ⟨gL,0,none⟩,some ⟨gU,0,none⟩,n,n,rfl,hfs.r.bJ Cn (fun e=>hfs.r.tb.ne tN (by decide) e),hfs.c.bJ Cn (fun e=>hfs.c.tb.ne tN (by decide) e),hdL.wO (fun e=>TB.ne (show TB wr gL _ from Ad.vl.tb) tN (by decide) e) Cn XT,hdU.wO (fun e=>TB.ne (show TB wr gU _ from Ad.vu.tb) tN (by decide) e) Cn XT⟩,QT,?_⟩;have h1:=cF.trans (Cn.below (by have:=cF.size;have:=Oh.out;omega) (fun q hq e=>by omega));rw[Oh.out];exact h1
      rw[hs1]at hR;have HR:=ah hR;clear Ad hfs cF hdL hdU hs1 oN Cn tN XT hur QT s7 hR hB;go_wp2_with fail
      exact bodyPost_ret (v:= .tuple #[.agg #[.slice (some ⟨gR,0,none⟩) n n, .slice (some ⟨gC,0,none⟩) n n, .int .i64 (n:Int), .int .i64 (n:Int), .slice (some ⟨gL,0,none⟩) n n, .int .i64 (n:Int), .int .i64 (n:Int), .slice (some ⟨gU,0,none⟩) n n], .int .i64 0]) (by simp[results,Tryz.results46,go_sem,x0,x1,x2,x3,x4,x5,x6,x7]) rfl HR.out
end Go.Proofs.YtkmpoleajjgfaaaGreat
