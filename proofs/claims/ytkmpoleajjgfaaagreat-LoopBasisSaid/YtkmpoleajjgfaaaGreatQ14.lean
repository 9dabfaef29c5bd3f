/- Parts of the proof, in order. -/
import Derived.Test.YtkmpoleajjgfaaaGreatQ12
import Derived.Shelf.SlSortCmp.InsertionK
import Derived.Shelf.Small.Bits
namespace Go.Proofs.YtkmpoleajjgfaaaGreat
open Go.RowKit Gm Go.Sort Go.Shelf
set_option maxRecDepth 100000
set_option maxHeartbeats 16000000
structure En where
 i:Nat
 r:Rat
 b:Bool
 A:Option Addr
 n:Nat
 c:Nat
 B:Option Addr
 m:Nat
 d:Nat
instance:Inhabited En:=⟨⟨0,0,false,none,0,0,none,0,0⟩⟩
def En.enc(x:En):List Value:=[.int .i64 (x.i:Int), .bool x.b, .slice x.A x.n x.c, .slice x.B x.m x.d]
def En.p(x:En):Nat×Rat:=(x.i,x.r)
def En.ok(w:World)(P:Nat->Prop)(K:Nat)(x:En):Prop:=
 bG w (.bool x.b) (.slice x.A x.n x.c) (.slice x.B x.m x.d) x.r K/\Av P (.slice x.A x.n x.c)/\Av P (.slice x.B x.m x.d)
theorem En.ok.bJ{w w':World}{P Q:Nat->Prop}{K:Nat}{x:En}(h:x.ok w P K)(hc:bw Q w w')(hq:∀k,Q k->P k∨w.heap.size<=k):x.ok w' P K:=by
 obtain⟨h5,h6,h7⟩:=h;obtain⟨a1,a2⟩:=h5.av;exact⟨h5.bJ hc ((h6.or a1).mono hq) ((h7.or a2).mono hq),h6,h7⟩
theorem En.ok.wide{w:World}{P Q:Nat->Prop}{K:Nat}{x:En}(h:x.ok w P K)(hq:∀k,Q k->P k∨w.heap.size<=k):x.ok w Q K:=by
 obtain⟨h5,h6,h7⟩:=h;obtain⟨a1,a2⟩:=h5.av;exact⟨h5,(h6.or a1).mono hq,(h7.or a2).mono hq⟩
theorem En.one(x:En):∀v∈x.enc,v.oneCell'=true:=fun v hv=>by
 simp[En.enc]at hv;rcases hv with rfl|rfl|rfl|rfl<;>rfl
def rho:Ren:=⟨fun n=>if n=20 then 134 else n,fun n=>if n=22 then 40 else if n=24 then 92 else if n=25 then 125 else n,fun n=>n⟩
theorem ad2:SlLaysF0.n20 Tryz.prog rho where
 mixed:=by kernel_rfl
 f20:=⟨Tryz.f134.name,of_decide_eq_true (by kernel_rfl),by kernel_rfl⟩
 t0:=by kernel_rfl
 a0:=fun w=>by kernel_rfl
 z0:=fun w=>by kernel_rfl
 v0:=fun w=>by kernel_rfl
 t3:=by kernel_rfl
 a3:=fun w=>by kernel_rfl
 z3:=fun w=>by kernel_rfl
 v3:=fun w=>by kernel_rfl
 t4:=by kernel_rfl
 a4:=fun w=>by kernel_rfl
 z4:=fun w=>by kernel_rfl
 v4:=fun w=>by kernel_rfl
 t22:=by kernel_rfl
 a22:=fun w=>by kernel_rfl
 z22:=fun w=>by kernel_rfl
 v22:=fun w=>by kernel_rfl
 t25:=by kernel_rfl
 a25:=fun w=>by kernel_rfl
 z25:=fun w=>by kernel_rfl
 v25:=fun w=>by kernel_rfl
def pK(x y:En):Int:=Lib.compareInt (x.i:Int) (y.i:Int)
theorem ltE(x y:En):ltOf pK x y=decide (x.i<y.i):=by
 unfold ltOf pK Lib.compareInt
 by_cases h1:x.i<y.i
 ·have h1':(x.i:Int)< (y.i:Int):=by omega
  simp[h1,h1']
 ·have h1':¬(x.i:Int)< (y.i:Int):=by omega
  by_cases h2:(y.i:Int)< (x.i:Int)<;>simp[h1,h1',h2]
theorem akh:SWO (ltOf pK) where
 irrefl x:=by rw[ltE];simp
 trans x y z h1 h2:=by rw[ltE]at*;simp at*;omega
 ntrans x y z h1 h2:=by rw[ltE]at*;simp at*;omega
theorem RS(x y:Int)(w:World):Calls Tryz.prog 81 #[.int .i64 x, .int .i64 y] w (fun e w'=>e= .returned (.int .i64 (Lib.compareInt x y))/\w'=w):=by
 have hn:∀z w,Calls Tryz.prog 68 #[.int .i64 z] w (fun e w'=>e= .returned (.bool false)/\w'=w):=fun z w=>by
  go_enter Tryz.func68,Tryz.ntmps68
  go_wp2_with fail
  go_ret;exact⟨rfl,rfl⟩
 unfold Lib.compareInt
 by_cases h1:x<y
 ·rw[if_pos h1];go_enter Tryz.func81,Tryz.ntmps81
  go_wp2_with (first|(refine(hn _ _).mono ?_;rintro e w' ⟨rfl,rfl⟩))
  go_ret;exact⟨rfl,rfl⟩
 ·rw[if_neg h1]
  by_cases h2:x>y
  ·rw[if_pos h2];have h2':y<x:=h2;go_enter Tryz.func81,Tryz.ntmps81
   go_wp2_with (first|(refine(hn _ _).mono ?_;rintro e w' ⟨rfl,rfl⟩))
   go_ret;exact⟨rfl,rfl⟩
  ·rw[if_neg h2];have h2':¬y<x:=h2;go_enter Tryz.func81,Tryz.ntmps81
   go_wp2_with (first|(refine(hn _ _).mono ?_;rintro e w' ⟨rfl,rfl⟩))
   go_ret;exact⟨rfl,rfl⟩
def Bg(g:Nat):Prop:=(∀(a:Array Value) (w:World),(callFunc g a).run Tryz.prog w= .ok (.enter g a) w)/\∀(x y:En) (W:World),Calls Tryz.prog g #[.agg x.enc.toArray, .agg y.enc.toArray] W fun e w'=>e= .returned (.int .i64 (pK x y))/\∃q os',w'=grow (W.drewN q) os'
theorem xI:Bg 111:=by
 refine⟨enters_of Tryz.func111 (by kernel_rfl) rfl,fun x y W=>?_⟩;have LF:=fun W'=>RS (x.i:Int) (y.i:Int) W';unfold pK;generalize Lib.compareInt (x.i:Int) (y.i:Int)=r at LF⊢;unfold En.enc;go_enter Tryz.func111,Tryz.ntmps111
 go_wp2_with (first|(refine(LF _).mono ?_;rintro e w' ⟨rfl,rfl⟩))
 go_ret;exact⟨rfl,0,_,by rw[alloc_eq_grow,alloc_eq_grow,grow_grow];rfl⟩
theorem RT{g:Nat}(hg:Bg g){w:World}{blk off cap n:Nat}{d:Array En}(hn:d.size=n)(hH:HoldsK En.enc 4 w blk off d)(hblk:blk<w.heap.size)(hsz:n<=1048576):
 Calls Tryz.prog 134 #[.slice (some ⟨blk,off,none⟩) n cap, .int .i64 0, .int .i64 (n:Int), .func (.func g) #[] #[]] w fun e w'=>e= .returned (.tuple #[])/\∃k os,w'=sortWorldK En.enc 4 w blk off k (Sort.insertionSort (ltOf pK) d 0 n) os:=by
 subst hn;exact AnyQ.insertionSortCmpFunc ad2 4 (fun w=>by kernel_rfl) (fun w=>by kernel_rfl) En.enc (fun _=>rfl) En.one pK g #[] blk off cap 0 d.size d w hg.1 (fun m os dk _ x y=>hg.2 x y _) hH hblk (aF _) (aj _) (by omega)
theorem ZK{g:Nat}(hg:Bg g){w:World}{blk off cap n:Nat}{d:Array En}(hn:d.size=n)(hH:HoldsK En.enc 4 w blk off d)(hblk:blk<w.heap.size)(h12:n<=12)(lim:Int):
 Calls Tryz.prog 113 #[.slice (some ⟨blk,off,none⟩) n cap, .int .i64 0, .int .i64 (n:Int), .int .i64 lim, .func (.func g) #[] #[]] w fun e w'=>e= .returned (.tuple #[])/\∃k os,w'=sortWorldK En.enc 4 w blk off k (Sort.insertionSort (ltOf pK) d 0 n) os:=by
 have hi:=RT hg (cap:=cap) hn hH hblk (by omega);clear hH hg;have aki:(n:Int)<=12:=by omega
 go_enter Tryz.func113,Tryz.ntmps113
 go_wp2
 refine wp_loop_rounds 1 ?_;rw[rounds_succ];go_wp2_with (first|(refine hi.mono ?_;rintro e w' ⟨rfl,k,os,rfl⟩))
 (try simp only[Exit.inBlock,Exit.then]);refine bodyPost_ret (results_none rfl _ _ _) rfl ?_
 exact⟨rfl,k,os,rfl⟩
theorem LG{g:Nat}(hg:Bg g){w:World}{blk off cap n:Nat}{d:Array En}(hn:d.size=n)(hH:HoldsK En.enc 4 w blk off d)(hblk:blk<w.heap.size)(h12:n<=19):
 Calls Tryz.prog 133 #[.slice (some ⟨blk,off,none⟩) n cap, .int .i64 (n:Int), .func (.func g) #[] #[]] w fun e w'=>e= .returned (.tuple #[])/\∃k os,w'=sortWorldK En.enc 4 w blk off k (Sort.insertionSort (ltOf pK) d 0 n) os:=by
 have hi:=RT hg (cap:=cap) hn hH hblk (by omega);clear hH hg;have aki:¬(20:Int)<=n:=by omega
 have h13':¬(20:Int)<n:=by omega
 go_enter Tryz.func133,Tryz.ntmps133
 go_wp2
 refine wp_loop_rounds 1 ?_;rw[rounds_succ];go_wp2_with (first|(refine hi.mono ?_;rintro e w' ⟨rfl,k,os,rfl⟩))
 refine wp_loop_rounds 1 ?_;rw[rounds_succ];go_wp2_with fail
 go_end0
 exact⟨rfl,k,os,rfl⟩
theorem Il{g:Nat}(hg:Bg g){w:World}{blk off cap n:Nat}{d:Array En}(hn:d.size=n)(hH:HoldsK En.enc 4 w blk off d)(hblk:blk<w.heap.size)(h12:n<=19):
 Calls Tryz.prog 110 #[.slice (some ⟨blk,off,none⟩) n cap, .func (.func g) #[] #[]] w fun e w'=>e= .returned (.tuple #[])/\∃k os,w'=sortWorldK En.enc 4 w blk off k (Sort.insertionSort (ltOf pK) d 0 n) os:=by
 have hi:=LG hg (cap:=cap) hn hH hblk h12;clear hH hg;go_enter Tryz.func110,Tryz.ntmps110
 go_wp2_with (first|(refine hi.mono ?_;rintro e w' ⟨rfl,k,os,rfl⟩))
 go_end0
 exact⟨rfl,k,os,rfl⟩
def akj:Ren:=⟨fun n=>if n=125 then 114 else if n=128 then 142 else if n=129 then 143 else n,fun n=>if n=46 then 87 else if n=51 then 75 else if n=53 then 117 else n,fun n=>n⟩
theorem Nh:Lays.n125 Tryz.prog akj where
 mixed:=by kernel_rfl
 f125:=by kernel_rfl
 f128:=by kernel_rfl
 f129:=by kernel_rfl
 t3:=by kernel_rfl
 a3:=fun w=>by kernel_rfl
 z3:=fun w=>by kernel_rfl
 v3:=fun w=>by kernel_rfl
 t4:=by kernel_rfl
 a4:=fun w=>by kernel_rfl
 z4:=fun w=>by kernel_rfl
 v4:=fun w=>by kernel_rfl
 t5:=by kernel_rfl
 a5:=fun w=>by kernel_rfl
 z5:=fun w=>by kernel_rfl
 v5:=fun w=>by kernel_rfl
 t9:=by kernel_rfl
 a9:=fun w=>by kernel_rfl
 z9:=fun w=>by kernel_rfl
 v9:=fun w=>by kernel_rfl
 t46:=by kernel_rfl
 a46:=fun w=>by kernel_rfl
 z46:=fun w=>by kernel_rfl
 v46:=fun w=>by kernel_rfl
 t51:=by kernel_rfl
 a51:=fun w=>by kernel_rfl
 z51:=fun w=>by kernel_rfl
 v51:=fun w=>by kernel_rfl
 t53:=by kernel_rfl
 a53:=fun w=>by kernel_rfl
 z53:=fun w=>by kernel_rfl
 v53:=fun w=>by kernel_rfl
theorem LH{g:Nat}(hg:Bg g){w:World}{blk off cap n:Nat}{d:Array En}(hn:d.size=n)(hH:HoldsK En.enc 4 w blk off d)(hblk:blk<w.heap.size)(h12:n<=12):
 Calls Tryz.prog 79 #[.slice (some ⟨blk,off,none⟩) n cap, .func (.func g) #[] #[]] w fun e w'=>e= .returned (.tuple #[])/\∃k os,w'=sortWorldK En.enc 4 w blk off k (Sort.insertionSort (ltOf pK) d 0 n) os:=by
 have hi:=ZK hg (cap:=cap) hn hH hblk h12;have hl:=fun W=>Any.bits_Len Nh (n:Int) W (by omega) (by omega)
 change∀W,Calls Tryz.prog 114 _ _ _ at hl
 generalize ((Lib.bitLen ((n:Int).toNat):Nat):Int)=q at hl;clear hH hg;go_enter Tryz.func79,Tryz.ntmps79
 go_wp2_with (first|(refine(hl _).mono ?_;rintro e w' ⟨rfl,rfl⟩)|(refine(hi _).mono ?_;rintro e w' ⟨rfl,k,os,rfl⟩))
 go_end0
 exact⟨rfl,k,os,rfl⟩
theorem Bh{g:Nat}{w:World}{D:Option Addr}{cap:Nat}:Calls Tryz.prog 79 #[.slice D 0 cap, .func (.func g) #[] #[]] w fun e w'=>e= .returned (.tuple #[])/\w'=w:=by
 have hp:∀W lim,Calls Tryz.prog 113 #[.slice D 0 cap, .int .i64 0, .int .i64 0, .int .i64 lim, .func (.func g) #[] #[]] W fun e w'=>e= .returned (.tuple #[])/\w'=W:=fun W lim=>by
  have hi:∀W,Calls Tryz.prog 134 #[.slice D 0 cap, .int .i64 0, .int .i64 0, .func (.func g) #[] #[]] W fun e w'=>e= .returned (.tuple #[])/\w'=W:=fun W=>by
   go_enter Tryz.func134,Tryz.ntmps134
   go_wp2
   refine wp_loop_rounds 1 ?_;rw[rounds_succ];go_wp2_with fail
   go_end0
   exact⟨rfl,rfl⟩
  go_enter Tryz.func113,Tryz.ntmps113
  go_wp2
  refine wp_loop_rounds 1 ?_;rw[rounds_succ];go_wp2_with (first|(refine(hi _).mono ?_;rintro e w' ⟨rfl,rfl⟩))
  (try simp only[Exit.inBlock,Exit.then]);refine bodyPost_ret (results_none rfl _ _ _) rfl ?_
  exact⟨rfl,rfl⟩
 have hl:=fun W=>Any.bits_Len Nh 0 W (by omega) (by omega)
 change∀W,Calls Tryz.prog 114 _ _ _ at hl
 generalize ((Lib.bitLen ((0:Int).toNat):Nat):Int)=q at hl;go_enter Tryz.func79,Tryz.ntmps79
 go_wp2_with (first|(refine(hl _).mono ?_;rintro e w' ⟨rfl,rfl⟩)|(refine(hp _ _).mono ?_;rintro e w' ⟨rfl,rfl⟩))
 go_end0
 exact⟨rfl,rfl⟩
def fP(w:World)(N off m:Nat)(f:Nat->En):Prop:=∀i,i<m->
 (w.cell? ⟨N,off+i*4,none⟩=some (.int .i64 ((f i).i:Int))/\w.cell? ⟨N,off+i*4+1,none⟩=some (.bool (f i).b)/\w.cell? ⟨N,off+i*4+2,none⟩=some (.slice (f i).A (f i).n (f i).c)/\w.cell? ⟨N,off+i*4+3,none⟩=some (.slice (f i).B (f i).m (f i).d))/\
 (w.frozen? ⟨N,off+i*4,none⟩=false/\w.frozen? ⟨N,off+i*4+1,none⟩=false/\w.frozen? ⟨N,off+i*4+2,none⟩=false/\w.frozen? ⟨N,off+i*4+3,none⟩=false)
section
variable {w w':World}{N off m n K:Nat}{f:Nat->En}
theorem fP.bJ{P:Nat->Prop}(h:fP w N off m f)(hc:bw P w w')(hN:N<w.heap.size)(hp:¬P N):fP w' N off m f:=fun i hi=>by
 obtain⟨⟨a0,a1,a2,a3⟩,b0,b1,b2,b3⟩:=h i hi;have hb:=hc.block N hN hp;have e:∀k,w'.cell? ⟨N,k,none⟩=w.cell? ⟨N,k,none⟩:=fun k=>by simp only[World.cell?,hb]
 have e2:∀k,w'.frozen? ⟨N,k,none⟩=w.frozen? ⟨N,k,none⟩:=fun k=>by simp only[World.frozen?,hb]
 exact⟨⟨(e _).trans a0,(e _).trans a1,(e _).trans a2,(e _).trans a3⟩,(e2 _).trans b0,(e2 _).trans b1,(e2 _).trans b2,(e2 _).trans b3⟩
theorem fP.congr(h:fP w N off m f){g:Nat->En}(e:∀i,i<m->g i=f i):fP w N off m g:=fun i hi=>by rw[e i hi];exact h i hi
theorem fP.of(d:Array En)(h:HoldsK En.enc 4 w N off d):fP w N off d.size (fun i=>d[i]!):=fun i hi=>
 ⟨⟨(HoldsK.cell h hi (c:=0) (by decide)).1,(HoldsK.cell h hi (c:=1) (by decide)).1,(HoldsK.cell h hi (c:=2) (by decide)).1,(HoldsK.cell h hi (c:=3) (by decide)).1⟩,
   (HoldsK.cell h hi (c:=0) (by decide)).2,(HoldsK.cell h hi (c:=1) (by decide)).2,(HoldsK.cell h hi (c:=2) (by decide)).2,(HoldsK.cell h hi (c:=3) (by decide)).2⟩
theorem fP.holds{d:Array En}(h:fP w N off d.size (fun i=>d[i]!)):HoldsK En.enc 4 w N off d:=fun t ht=>by
 have ht':t<d.size*4:=by simpa using ht
 rw[get_flatK _ _ _ _ ht'];have hi:t/4<d.size:=by omega
 obtain⟨⟨a0,a1,a2,a3⟩,b0,b1,b2,b3⟩:=h (t/4) hi;have h4:t % 4<4:=Nat.mod_lt _ (by decide);have e:off+t=off+t/4*4+t % 4:=by omega
 rw[e];generalize t % 4=c at h4⊢
 match c,h4 with
 |0,_=>exact⟨a0,b0⟩
 |1,_=>exact⟨a1,b1⟩
 |2,_=>exact⟨a2,b2⟩
 |3,_=>exact⟨a3,b3⟩
theorem fP.sJ(h:fP w N off m f){i:Nat}(hi:i<m)(x:En):
 fP ((((w.setCell ⟨N,off+i*4,none⟩ (.int .i64 (x.i:Int))).setCell ⟨N,off+i*4+1,none⟩ (.bool x.b)).setCell ⟨N,off+i*4+2,none⟩ (.slice x.A x.n x.c)).setCell ⟨N,off+i*4+3,none⟩ (.slice x.B x.m x.d)) N off m (bE f i x):=fun j hj=>by
 obtain⟨⟨a0,a1,a2,a3⟩,b0,b1,b2,b3⟩:=h i hi
 by_cases e:j=i
 ·subst e;rw[aW];refine⟨⟨?_,?_,?_,?_⟩,?_,?_,?_,?_⟩<;>go_simp
 ·rw[bk _ _ e];obtain⟨⟨c0,c1,c2,c3⟩,d0,d1,d2,d3⟩:=h j hj;have n00:¬off+i*4=off+j*4:=by omega
  have ne:∀p q:Nat,p<4->q<4->¬off+i*4+p=off+j*4+q:=fun p q _ _=>by omega
  have o:∀(W:World) (u:Value) (p q:Nat),p<4->q<4->(W.setCell ⟨N,off+i*4+p,none⟩ u).cell? ⟨N,off+j*4+q,none⟩=W.cell? ⟨N,off+j*4+q,none⟩:=fun W u p q hp hq=>World.cell?_setCell_other W ⟨N,off+i*4+p,none⟩ ⟨N,off+j*4+q,none⟩ u (by intro e2;injection e2 with _ e3 _;exact ne p q hp hq (by omega));have o2:∀(W:World) (u:Value) (p:Nat) (A:Addr),(W.setCell ⟨N,off+i*4+p,none⟩ u).frozen? A=W.frozen? A:=fun W u p A=>World.frozen?_setCell W _ A u;refine⟨⟨?_,?_,?_,?_⟩,?_,?_,?_,?_⟩
  ·rw[show off+j*4=off+j*4+0 from rfl,o _ _ 3 0 (by decide) (by decide),o _ _ 2 0 (by decide) (by decide),o _ _ 1 0 (by decide) (by decide)];exact(o w _ 0 0 (by decide) (by decide)).trans c0
  ·rw[o _ _ 3 1 (by decide) (by decide),o _ _ 2 1 (by decide) (by decide),o _ _ 1 1 (by decide) (by decide)];exact(o w _ 0 1 (by decide) (by decide)).trans c1
  ·rw[o _ _ 3 2 (by decide) (by decide),o _ _ 2 2 (by decide) (by decide),o _ _ 1 2 (by decide) (by decide)];exact(o w _ 0 2 (by decide) (by decide)).trans c2
  ·rw[o _ _ 3 3 (by decide) (by decide),o _ _ 2 3 (by decide) (by decide),o _ _ 1 3 (by decide) (by decide)];exact(o w _ 0 3 (by decide) (by decide)).trans c3
  ·rw[o2 _ _ 3,o2 _ _ 2,o2 _ _ 1];exact(o2 w _ 0 _).trans d0
  ·rw[o2 _ _ 3,o2 _ _ 2,o2 _ _ 1];exact(o2 w _ 0 _).trans d1
  ·rw[o2 _ _ 3,o2 _ _ 2,o2 _ _ 1];exact(o2 w _ 0 _).trans d2
  ·rw[o2 _ _ 3,o2 _ _ 2,o2 _ _ 1];exact(o2 w _ 0 _).trans d3
theorem fP.gY(h:fP w N off m f){i:Nat}(hi:i<m)(x:En)(hx:x.i=(f i).i):
 fP (((w.setCell ⟨N,off+i*4+1,none⟩ (.bool x.b)).setCell ⟨N,off+i*4+2,none⟩ (.slice x.A x.n x.c)).setCell ⟨N,off+i*4+3,none⟩ (.slice x.B x.m x.d)) N off m (bE f i x):=fun j hj=>by
 obtain⟨⟨a0,a1,a2,a3⟩,b0,b1,b2,b3⟩:=h i hi
 by_cases e:j=i
 ·subst e;rw[aW];rw[<-hx]at a0;refine⟨⟨?_,?_,?_,?_⟩,?_,?_,?_,?_⟩<;>go_simp
 ·rw[bk _ _ e];obtain⟨⟨c0,c1,c2,c3⟩,d0,d1,d2,d3⟩:=h j hj;have ne:∀p q:Nat,p<4->q<4->¬off+i*4+p=off+j*4+q:=fun p q _ _=>by omega
  have o:∀(W:World) (u:Value) (p q:Nat),p<4->q<4->(W.setCell ⟨N,off+i*4+p,none⟩ u).cell? ⟨N,off+j*4+q,none⟩=W.cell? ⟨N,off+j*4+q,none⟩:=fun W u p q hp hq=>World.cell?_setCell_other W ⟨N,off+i*4+p,none⟩ ⟨N,off+j*4+q,none⟩ u (by intro e2;injection e2 with _ e3 _;exact ne p q hp hq (by omega));have o2:∀(W:World) (u:Value) (p:Nat) (A:Addr),(W.setCell ⟨N,off+i*4+p,none⟩ u).frozen? A=W.frozen? A:=fun W u p A=>World.frozen?_setCell W _ A u;refine⟨⟨?_,?_,?_,?_⟩,?_,?_,?_,?_⟩
  ·rw[show off+j*4=off+j*4+0 from rfl,o _ _ 3 0 (by decide) (by decide),o _ _ 2 0 (by decide) (by decide),o _ _ 1 0 (by decide) (by decide)];exact c0
  ·rw[o _ _ 3 1 (by decide) (by decide),o _ _ 2 1 (by decide) (by decide),o _ _ 1 1 (by decide) (by decide)];exact c1
  ·rw[o _ _ 3 2 (by decide) (by decide),o _ _ 2 2 (by decide) (by decide),o _ _ 1 2 (by decide) (by decide)];exact c2
  ·rw[o _ _ 3 3 (by decide) (by decide),o _ _ 2 3 (by decide) (by decide),o _ _ 1 3 (by decide) (by decide)];exact c3
  ·rw[o2 _ _ 3,o2 _ _ 2,o2 _ _ 1];exact d0
  ·rw[o2 _ _ 3,o2 _ _ 2,o2 _ _ 1];exact d1
  ·rw[o2 _ _ 3,o2 _ _ 2,o2 _ _ 1];exact d2
  ·rw[o2 _ _ 3,o2 _ _ 2,o2 _ _ 1];exact d3
def dh(n:Nat)(f:Nat->En):List (Nat×Rat):=(List.range n).map fun i=>(f i).p
theorem cN:(dh n f).length=n:=by simp[dh]
theorem dA{i:Nat}(hi:i<n):(dh n f)[i]?=some (f i).p:=by simp[dh,hi]
theorem kJ:dh (n+1) f=dh n f++ [(f n).p]:=by simp[dh,List.range_succ]
theorem rU{g:Nat->En}(h:∀i,i<n->f i=g i):dh n f=dh n g:=by
 unfold dh;apply List.map_congr_left;intro i hi;rw[h i (List.mem_range.1 hi)]
theorem fP.el{P:Nat->Prop}(h:fP w N off m f)(hN:N<w.heap.size)(hn:n<=m)(hok:∀i,i<n->(f i).ok w P K):EL w (some ⟨N,off,none⟩) (dh n f) K:=fun _=>by
 refine⟨N,off,rfl,hN,fun i p hp=>?_⟩;have hi:i<n:=by have:=(aC.1 hp).1;rw[cN]at this;exact this
 rw[dA hi]at hp;injection hp with hp
 subst hp;obtain⟨⟨a0,a1,a2,a3⟩,_⟩:=h i (by omega);exact⟨a0,_,_,_,a1,a2,a3,(hok i hi).1⟩
theorem EL.fn{D:Option Addr}{l:List (Nat×Rat)}(h:EL w D l K)(h0:0<l.length):∃b o,∃f:Nat->En,D=some ⟨b,o,none⟩/\b<w.heap.size/\dh l.length f=l/\(∀i,i<l.length->(f i).ok w (fun k=>w.heap.size<=k) K)/\
 ∀i,i<l.length->w.cell? ⟨b,o+i*4,none⟩=some (.int .i64 ((f i).i:Int))/\w.cell? ⟨b,o+i*4+1,none⟩=some (.bool (f i).b)/\w.cell? ⟨b,o+i*4+2,none⟩=some (.slice (f i).A (f i).n (f i).c)/\w.cell? ⟨b,o+i*4+3,none⟩=some (.slice (f i).B (f i).m (f i).d):=by
 obtain⟨b,o,rfl,hb,hc⟩:=h h0
 have hx:∀i,∃x:En,i<l.length->l[i]?=some x.p/\x.ok w (fun k=>w.heap.size<=k) K/\w.cell? ⟨b,o+i*4,none⟩=some (.int .i64 (x.i:Int))/\w.cell? ⟨b,o+i*4+1,none⟩=some (.bool x.b)/\w.cell? ⟨b,o+i*4+2,none⟩=some (.slice x.A x.n x.c)/\w.cell? ⟨b,o+i*4+3,none⟩=some (.slice x.B x.m x.d):=fun i=>by
  by_cases hi:i<l.length
  ·have hp:l[i]?=some l[i]:=aB hi;obtain⟨c0,x,y,z,c1,c2,c3,hr⟩:=hc i _ hp;obtain⟨a1,a2⟩:=hr.av;obtain⟨p,A,xs,c,B,ys,d,rfl,rfl,rfl,hrest⟩:=id hr;exact⟨⟨l[i].1,l[i].2,p,A,xs.length,c,B,ys.length,d⟩,fun _=>⟨hp,⟨hr,a1,a2⟩,c0,c1,c2,c3⟩⟩
  ·exact⟨default,fun h=>absurd h hi⟩
 obtain⟨f,hf⟩:=Classical.axiomOfChoice hx;refine⟨b,o,f,rfl,hb,?_,fun i hi=>(hf i hi).2.1,fun i hi=>(hf i hi).2.2⟩;apply List.ext_getElem?;intro i
 by_cases hi:i<l.length
 ·rw[dA hi,(hf i hi).1]
 ·rw[aQ (by rw[cN];omega),aQ (by omega)]
theorem EO.row{lo:Nat}{v:Value}{l:List (Nat×Rat)}(h:EO w lo v l K)(h0:0<l.length):∃N c,∃f:Nat->En,v= .slice (some ⟨N,0,none⟩) l.length c/\lo<=N/\N<w.heap.size/\l.length<=c/\dh l.length f=l/\(∀i,i<l.length->(f i).ok w (fun k=>(k<lo∨k=N)∨w.heap.size<=k) K)/\fP w N 0 l.length f:=by
 obtain⟨D,c,rfl,hel,hc,_⟩:=h.slice;obtain⟨N,o,f,rfl,hN,hlf,hok,hcs⟩:=hel.fn h0;obtain⟨xs,hown,ld⟩:=h;obtain⟨h1,h2|⟨g,cap,cur,e,hb,hh,h3⟩⟩:=hown
 ·obtain⟨h2,_⟩:=h2;cases h2
 ·injection e with e1 e2 e3
  injection e1 with e1
  injection e1 with e4 e5 _
  subst e4 e5;refine⟨N,c,f,rfl,hb,hN,hc,hlf,fun i hi=>?_,fun i hi=>⟨hcs i hi,?_⟩⟩
  ·have Wn:=hok i hi;obtain⟨k0,x,y,z,k1,k2,k3,k4,k5,k6⟩:=ld i _ (by rw[<-hlf];exact dA hi);have hcl:=fun g hg=> @World.ownsRow.cells _ _ _ _ _ _ _ (⟨h1, .inr ⟨N,cap,cur,by rw[e2,e3],hb,hh,h3⟩⟩:w.ownsRow lo 92 4 (.slice (some ⟨N,0,none⟩) l.length c) l.length xs) g hg;have a2:=hcl N rfl _ _ k2;have a3:=hcl N rfl _ _ k3;rw[ow]at a2 a3;obtain⟨_,_,b2,b3⟩:=hcs i hi;rw[Nat.zero_add]at b2 b3;rw[a2]at b2;rw[a3]at b3;injection b2 with b2
   injection b3 with b3
   subst b2 b3;exact⟨Wn.1,(k5.mono fun k hk=>hk.imp id fun hk=>by rw[hk];rfl).or Wn.2.1,(k6.mono fun k hk=>hk.imp id fun hk=>by rw[hk];rfl).or Wn.2.2⟩
  ·have hf:∀k,w.frozen? ⟨N,k,none⟩=false:=fun k=>by simp[World.frozen?,hh]
   exact⟨hf _,hf _,hf _,hf _⟩
end
theorem LJ(w:World)(blk off n:Nat)(d:Array En)(os:Array Obj):bw (fun k=>k=blk) w (sortWorldK En.enc 4 w blk off n d os):=by
 unfold sortWorldK;refine⟨rfl,rfl,rfl,by rw[size_grow,size_putRowK];exact Nat.le_add_right _ _,fun k hk hp=>?_⟩
 show(_++os)[k]?=_
 rw[Array.getElem?_append_left (by rw[size_putRowK];exact hk)]
 show((w.heap.modify blk _)[k]?)=_
 rw[Array.getElem?_modify,if_neg (fun e=>hp e.symm)]
theorem pL{w w':World}{N off m k:Nat}{f:Nat->En}{os:Array Obj}(h:fP w N off m f)(hN:N<w.heap.size)
 (e:w'=sortWorldK En.enc 4 w N off k (Sort.insertionSort (ltOf pK) ((List.range m).map f).toArray 0 m) os):
 ∃g:Nat->En,fP w' N off m g/\(dh m g).Perm (dh m f)/\(∀i,i<m->∃j,j<m/\g i=f j)/\(∀i j,i<j->j<m->(g i).i<=(g j).i)/\bw (fun k=>k=N) w w':=by
 obtain⟨d,ed⟩:∃d:Array En,((List.range m).map f).toArray=d:=⟨_,rfl⟩;rw[ed]at e;have hs:d.size=m:=by rw[<-ed];simp
 have hdi:∀i,i<m->d[i]! =f i:=fun i hi=>by rw[<-ed];simp[hi]
 have hH:HoldsK En.enc 4 w N off d:=fP.holds (by rw[hs];exact h.congr fun i hi=>hdi i hi);obtain⟨⟨s1,_,s3⟩,s4⟩:=insertionSort_holds (lt:=ltOf pK) akh d 0 m (aF _) (by omega);obtain⟨d',ed'⟩:=xeq (Sort.insertionSort (ltOf pK) d 0 m);rw[ed']at e s1 s3 s4;have hs':d'.size=m:=by omega
 have hh:=holdsK_sortWorldK_c En.enc 4 w N off d d' k os hH hN s1;rw[<-e]at hh;have hrow:=fP.of d' hh;rw[hs']at hrow
 have x1:(d'.extract 0 m).toList=(List.range m).map fun i=>d'[i]!:=by
  apply List.ext_getElem
  ·simp[hs']
  ·intro i h1 h2;simp at h1 h2;simp[show i<d'.size by omega]
 have x2:(d.extract 0 m).toList=(List.range m).map f:=by
  apply List.ext_getElem
  ·simp[hs]
  ·intro i h1 h2;simp at h1 h2;have:=hdi i (by omega);rw[getElem!_pos _ _ (by omega)]at this;simp[this]
 rw[x1,x2]at s3;refine⟨fun i=>d'[i]!,hrow,?_,fun i hi=>?_,fun i j hij hj=>?_,by rw[e];exact LJ ..⟩
 ·have:=s3.map En.p;simp only[List.map_map]at this;exact this
 ·have:d'[i]!∈(List.range m).map f:=s3.mem_iff.1 (List.mem_map.2 ⟨i,List.mem_range.2 hi,rfl⟩);obtain⟨j,hj,e⟩:=List.mem_map.1 this;exact⟨j,List.mem_range.1 hj,e.symm⟩
 ·have:=s4 i j (aF _) hij hj;rw[ltE]at this
  simpa using this
theorem yV{l m:List (Nat×Rat)}(h:l.Perm m)(j:Nat):gv l j=gv m j:=by
 induction h with
 |nil=>rfl
 |cons a _ ih=>rw[gv,gv,ih]
 |swap a b l=>rw[gv,gv,gv,gv,<-Rat.add_assoc,<-Rat.add_assoc,Rat.add_comm (if b.1=j then b.2 else 0)]
 |trans _ _ h1 h2=>rw[h1,h2]
theorem LK(n:Nat)(hn:n<=1048576)(u:World):
 (Instr.makeSlice 40 (.int .i64 (n:Int)) (.int .i64 (n:Int))).run Tryz.prog u= .ok (.slice (some ⟨u.heap.size,0,none⟩) n n) (u.alloc (.cells (madeCells (Value.agg #[.int .i64 0, .bool false, .slice none 0 0, .slice none 0 0]).cells (n*4)) 92)):=by
 obtain⟨hi,hz0,hz1,hz2⟩:=bT;have h:=run_make (P:=Tryz.prog) u 40 92 _ _ Tryz.underlying40 hi hz0 .i64 .i64 (n:Int) (n:Int) (by omega) (by omega) (by rw[hz2];omega) (by omega);simp only[Int.toNat_natCast]at h;rw[hz1]at h;exact h
theorem PD:(Tryz.prog.info? 92).map (·.size)=some 4:=by kernel_rfl
theorem Bj(w:World)(g n dCap:Nat)(a:Addr)(sCap:Nat)(cur:Array Value)(cs:List Value)
 (hg:w.heap[g]?=some (.cells cur 92 (0,0))) (hn:cs.length=n*4)
 (hsrc:∀j v,cs[j]?=some v->w.cell? (a.add j)=some v) (hfit:cs.length=cur.size) (h1:∀v∈cs,v.oneCell'=true):
 (Builtin.copy_ #[40,40] 3 #[.slice (some ⟨g,0,none⟩) n dCap, .slice (some a) n sCap]).run Tryz.prog w=
   .ok (goInt n) (w.setRow g cs.toArray):=by
 have hl:=run_loadCells_list (P:=Tryz.prog) w a cs hsrc;have hst:=run_storeCells_at Tryz.prog g 0 92 cs 0 cur w hg (by omega) h1;have hu:=run_underlying Tryz.underlying40;have hs:=PD;have hmin:Nat.min n n=n:=Nat.min_self n;rw[Nat.zero_add,List.take_zero,List.nil_append,Nat.zero_add,List.drop_of_length_le (by rw[hfit];simp),List.append_nil]at hst
 cases hq:Tryz.prog.info? 92 with
 |none=>simp[hq]at hs
 |some i=>
  have hi:i.size=4:=by simpa [hq] using hs
  rw[hn]at hl;simp[Builtin.copy_,hu,Builtin.lenOf,Builtin.firstCells,sizeOf,typeInfo,hq,hi,hmin,hl,hst]
def iV(m:Nat)(f:Nat->En):List Value:=(List.range m).flatMap fun i=>(f i).enc
theorem rV(m:Nat)(f:Nat->En):iV (m+1) f=iV m f++ (f m).enc:=by simp[iV,List.range_succ]
theorem jq(m:Nat)(f:Nat->En):(iV m f).length=m*4:=by
 induction m with
 |zero=>rfl
 |succ m ih=>rw[rV,List.length_append,ih];show _+4=_;omega
theorem uJ{m:Nat}{f:Nat->En}{i c:Nat}(hi:i<m)(hc:c<4):(iV m f)[i*4+c]?=(f i).enc[c]?:=by
 induction m with
 |zero=>omega
 |succ m ih=>
  rw[rV]
  by_cases e:i<m
  ·rw[aL (by rw[jq];omega)];exact ih e
  ·obtain rfl:i=m:=by omega
   rw[aK (by rw[jq];omega),jq,Nat.add_sub_cancel_left]
theorem DT(m:Nat)(f:Nat->En):∀v∈iV m f,v.oneCell'=true:=fun v hv=>by
 obtain⟨i,_,h⟩:=List.mem_flatMap.1 hv;exact(f i).one v h
theorem fP.copied{w:World}{N m:Nat}{f:Nat->En}(h:w.heap[N]?=some (.cells (iV m f).toArray 92 (0,0))):fP w N 0 m f:=fun i hi=>by
 have hc:∀c,c<4->w.cell? ⟨N,i*4+c,none⟩=(f i).enc[c]?:=fun c hc=>by
  rw[aT w N (i*4+c) _ _ (0,0) h,List.getElem?_toArray,uJ hi hc]
 have hf:∀k,w.frozen? ⟨N,k,none⟩=false:=fun k=>by simp[World.frozen?,h]
 rw[Nat.zero_add];exact⟨⟨hc 0 (by decide),hc 1 (by decide),hc 2 (by decide),hc 3 (by decide)⟩,hf _,hf _,hf _,hf _⟩
structure Fold(ds:List (Nat×Rat))(k n:Nat)(f:Nat->En):Prop where
 jF:jo (dh n f)
 gv:∀j,gv (dh n f) j=gv (ds.take k) j
 lt:∀i,i<n->∀q∈ds.drop k,(f i).i<=q.1
 idx:∀i,i<n->∃q∈ds,q.1=(f i).i
 nk:n<=k
section
variable {ds:List (Nat×Rat)}{k n:Nat}{f:Nat->En}{p:Nat×Rat}
theorem Fold.start(ds:List (Nat×Rat))(f:Nat->En):Fold ds 0 0 f:=⟨fun a b p q _ hp=>by simp[dh]at hp,fun j=>by simp[dh],fun i h=>absurd h (by omega),fun i h=>absurd h (by omega),aj _⟩
theorem Bk(hp:ds[k]?=some p):p∈ds.drop k:=by
 have h:(ds.drop k)[0]?=some p:=by rw[List.getElem?_drop];exact hp
 exact aD h
theorem Bl{q:Nat×Rat}(h:q∈ds.drop (k+1)):q∈ds.drop k:=by
 rw[<-List.drop_drop]at h;exact List.mem_of_mem_drop h
theorem Fold.new(h:Fold ds k n f)(hp:ds[k]?=some p)(hs:∀q∈ds.drop (k+1),p.1<=q.1)(hne:∀n',n=n'+1->(f n').i≠p.1)(x:En)(hx:x.p=p):Fold ds (k+1) (n+1) (bE f n x):=by
 have he:dh (n+1) (bE f n x)=dh n f++ [p]:=by
  rw[kJ,aW,hx,rU (g:=f) fun i hi=>bk _ _ (by omega)]
 have hlt:∀i,i<n->(f i).i<p.1:=fun i hi=>by
  have h1:=h.lt i hi p (Bk hp);obtain⟨n',rfl⟩:∃n',n=n'+1:=⟨n-1,by omega⟩;have h2:=hne n' rfl;have h3:=h.lt n' (by omega) p (Bk hp)
  by_cases e:i=n'
  ·subst e;omega
  ·have:=h.jF i n' _ _ (by omega) (dA (by omega)) (dA (by omega));have t:(f i).i< (f n').i:=this;omega
 refine⟨?_,fun j=>?_,fun i hi q hq=>?_,fun i hi=>?_,by have:=h.nk;omega⟩
 ·rw[he];refine h.jF.snoc fun q hq=>?_;obtain⟨i,hi,rfl⟩:=List.mem_map.1 hq;exact hlt i (List.mem_range.1 hi)
 ·rw[he,fJ,h.gv,yU hp,Go.Proofs.YtkmpoleajjgfaaaGreat.gv,Go.Proofs.YtkmpoleajjgfaaaGreat.gv,Rat.add_zero]
 ·by_cases e:i=n
  ·subst e;rw[aW,show x.i=p.1 from congrArg Prod.fst hx];exact hs q hq
  ·rw[bk _ _ e];exact h.lt i (by omega) q (Bl hq)
 ·by_cases e:i=n
  ·subst e;rw[aW];exact⟨p,aD hp,(congrArg Prod.fst hx).symm⟩
  ·rw[bk _ _ e];exact h.idx i (by omega)
theorem Fold.add(h:Fold ds k (n+1) f)(hp:ds[k]?=some p)(he:(f n).i=p.1)(x:En)(hx:x.i=(f n).i)(hr:x.r=(f n).r+p.2):Fold ds (k+1) (n+1) (bE f n x):=by
 have e1:dh (n+1) (bE f n x)=dh n f++ [x.p]:=by
  rw[kJ,aW,rU (g:=f) fun i hi=>bk _ _ (by omega)]
 have hg:∀i,i<n+1->(bE f n x i).i=(f i).i:=fun i hi=>by
  by_cases e:i=n
  ·subst e;rw[aW,hx]
  ·rw[bk _ _ e]
 refine⟨fun a b q r hab hq hr=>?_,fun j=>?_,fun i hi q hq=>?_,fun i hi=>?_,by have:=h.nk;omega⟩
 ·have hb:=(aC.1 hr).1;rw[cN]at hb;rw[dA (by omega)]at hq hr;injection hq with hq
  injection hr with hr
  have:=h.jF a b _ _ hab (dA (by omega)) (dA (by omega));subst hq hr
  show(bE f n x a).i< (bE f n x b).i
  rw[hg a (by omega),hg b (by omega)];exact this
 ·rw[e1,fJ,yU hp,<-h.gv j,kJ,fJ,Rat.add_assoc]
  congr 1
  show Go.Proofs.YtkmpoleajjgfaaaGreat.gv [(x.i,x.r)] j=Go.Proofs.YtkmpoleajjgfaaaGreat.gv [((f n).i,(f n).r)] j+_
  simp only[Go.Proofs.YtkmpoleajjgfaaaGreat.gv,Rat.add_zero];rw[hx,hr,he]
  by_cases e:p.1=j
  ·simp[e]
  ·simp[e,Rat.add_zero]
 ·rw[hg i hi];exact h.lt i hi q (Bl hq)
 ·rw[hg i hi];exact h.idx i hi
end
def xJ(w:World)(l:List (Nat×Rat))(M:Nat)(e:Ending)(w':World):Prop:=
 ∃D r c,e= .returned (.slice D r.length c)/\EL w' D r M/\jo r/\r.length<=c/\r.length<=l.length/\(∀j,gv r j=gv l j)/\(∀p∈r,∃q∈l,q.1=p.1)/\Below w.heap.size w w'
theorem mV{w:World}{D:Option Addr}{l:List (Nat×Rat)}{c K:Nat}(hl:EL w D l K)(hm:l.length<=1048576)(hc:l.length<=c)(hs:jo l):
 Calls Tryz.prog 71 #[.slice D l.length c] w (xJ w l K):=by
 have ha:=fun W (hW:Below w.heap.size w W)=>LA (c:=c) (hl.below hW) hm;have H:=ah (ai hl (ai hs hc));obtain⟨m,em⟩:=xeq l.length;have EM:=ah em;rw[em]at ha⊢;clear hl hs hc em hm;go_enter Tryz.func71,Tryz.ntmps71
 go_wp2_with fail
 refine(ha _ (aq _ _)).mono ?_;rintro e w1 ⟨b,rfl,hb,g1⟩;obtain rfl:b=true:=hb.2 H.out.2.1;clear ha;go_wp2_with fail
 go_ret;have em:=EM.out;subst em;exact⟨D,l,c,rfl,H.out.1.below g1,H.out.2.1,H.out.2.2,aj _,fun _=>rfl,fun p hp=>⟨p,hp,rfl⟩,g1⟩
theorem xJ.mono{w w':World}{l:List (Nat×Rat)}{K M:Nat}{e:Ending}(h:xJ w l K e w')(hk:K<=M):xJ w l M e w':=by
 obtain⟨D,r,c,h1,h2,h3⟩:=h;exact⟨D,r,c,h1,h2.mono hk,h3⟩
theorem qq(b o j:Nat):(⟨b,o,none⟩:Addr).add j=⟨b,o+j,none⟩:=by unfold Addr.add;split<;>simp_all
theorem En.ok.below{w w':World}{P:Nat->Prop}{K:Nat}{x:En}(h:x.ok w P K)(hb:Below w.heap.size w w'):x.ok w' P K:=h.bJ (Q:=fun _=>False) (bw.of hb) (fun _ h=>h.elim)
theorem En.ok.mono{w:World}{P:Nat->Prop}{K L:Nat}{x:En}(h:x.ok w P K)(hk:K<=L):x.ok w P L:=⟨h.1.mono hk,h.2⟩
theorem cV.en{lo:Nat}{w:World}{b s t:Value}{r:Rat}{K:Nat}(o:cV lo w b s t r)(hz:Sz r K)(i:Nat){P:Nat->Prop}(hp:∀k,P k->k<lo):
 ∃x:En,x.i=i/\x.r=r/\b= .bool x.b/\s= .slice x.A x.n x.c/\t= .slice x.B x.m x.d/\x.ok w P K:=by
 have hi:=o.is hz;obtain⟨a1,a2⟩:=o.av;obtain⟨p,A,xs,c,B,ys,d,rfl,rfl,rfl,hrest⟩:=id hi;exact⟨⟨i,r,p,A,xs.length,c,B,ys.length,d⟩,rfl,rfl,rfl,rfl,rfl,hi,a1.mono hp,a2.mono hp⟩
theorem Sz.LL{r s t:Rat}{k j l:Nat}(h:Sz r k)(h2:Sz s j)(e:r+s=t)(hj:k+j+1<=l):Sz t l:=by
 have hm:r+s=mkRat (r.num* (s.den:Int)+s.num* (r.den:Int)) (r.den*s.den):=Rat.add_def' r s;rw[<-e,hm];constructor
 ·refine ay (bN (gN _ _)) ?_;have z1:(limbs (r.num* (s.den:Int)).natAbs).length<=k+j:=gM h.1 (n:=(s.den:Int)) (by rw[Int.natAbs_natCast];exact h2.2) rfl (aj _);have z2:(limbs (s.num* (r.den:Int)).natAbs).length<=j+k:=gM h2.1 (n:=(r.den:Int)) (by rw[Int.natAbs_natCast];exact h.2) rfl (aj _);exact sR z1 z2 rfl (by omega) (by omega)
 ·refine ay (bN (gO _ (Nat.mul_ne_zero r.den_nz s.den_nz))) ?_;exact oH h.2 h2.2 rfl (by omega)
theorem Sz.yX{r s t:Rat}{k j l:Nat}(h:Sz r k)(h2:Sz s j)(e:r-s=t)(hj:k+j+1<=l):Sz t l:=by
 rw[Rat.sub_eq_add_neg]at e;exact h.LL (h2.neg rfl) e hj
theorem Sz.mul'{r s t:Rat}{k j l:Nat}(h:Sz r k)(h2:Sz s j)(e:r*s=t)(hj:k+j<=l):Sz t l:=by
 have hm:r*s=mkRat (r.num*s.num) (r.den*s.den):=Rat.mul_def' r s;rw[<-e,hm];constructor
 ·exact ay (bN (gN _ _)) (gM h.1 h2.1 rfl hj)
 ·refine ay (bN (gO _ (Nat.mul_ne_zero r.den_nz s.den_nz))) ?_;exact oH h.2 h2.2 rfl hj
def yY(w:World)(N m K k n:Nat)(f0 f:Nat->En)(W:World):Prop:=
 fP W N 0 m f/\N<W.heap.size/\(∀i,i<n->(f i).ok W (fun q=>q=N) (k* (K+1)))/\(∀i,k<=i->i<m->f i=f0 i)/\Fold (dh m f0) k n f/\Below w.heap.size w W
theorem yY.new{w wr w':World}{N m K k n:Nat}{f0 f:Nat->En}(h:yY w N m K k n f0 f wr)(hb:Below wr.heap.size wr w'):yY w N m K k n f0 f w':=by
 obtain⟨h1,h2,h3,h4,h5,h6⟩:=h;exact⟨h1.bJ (P:=fun _=>False) (bw.of hb) h2 (fun h=>h),ak h2 hb.size,fun i hi=>(h3 i hi).below hb,h4,h5,h6.trans (hb.mono h6.size)⟩
theorem Bm{m k:Nat}{f0:Nat->En}(hs:∀i j,i<j->j<m->(f0 i).i<=(f0 j).i):∀q∈(dh m f0).drop (k+1),(f0 k).i<=q.1:=fun q hq=>by
 obtain⟨j,hj⟩:=aJ hq;rw[List.getElem?_drop]at hj;have hl:=(aC.1 hj).1;rw[cN]at hl;rw[dA hl]at hj;injection hj with hj
 subst hj;exact hs k (k+1+j) (by omega) hl
theorem Gg{w wz:World}{N m k n K:Nat}{f f0:Nat->En}{x:En}(h:yY w N m K k n f0 f wz)(JV:w.heap.size<=N)(hk:k<m)(hnk:n<=k)(hs:∀i j,i<j->j<m->(f0 i).i<=(f0 j).i)(hx:f0 k=x)(ZM:x.ok wz (fun q=>w.heap.size<=q) K)(hne:∀n',n=n'+1->(f n').i≠x.i):
 yY w N m K (k+1) (n+1) f0 (bE f n x) ((((wz.setCell ⟨N,n*4,none⟩ (.int .i64 (x.i:Int))).setCell ⟨N,n*4+1,none⟩ (.bool x.b)).setCell ⟨N,n*4+2,none⟩ (.slice x.A x.n x.c)).setCell ⟨N,n*4+3,none⟩ (.slice x.B x.m x.d)):=by
 obtain⟨hr,hN,hfo,Tp,hF,hb⟩:=h;have h1:=hr.sJ (i:=n) (by omega) x;simp only[Nat.zero_add]at h1
 have hc:bw (·=N) wz ((((wz.setCell ⟨N,n*4,none⟩ (.int .i64 (x.i:Int))).setCell ⟨N,n*4+1,none⟩ (.bool x.b)).setCell ⟨N,n*4+2,none⟩ (.slice x.A x.n x.c)).setCell ⟨N,n*4+3,none⟩ (.slice x.B x.m x.d)):=
  (((bw.set (P:=(·=N)) (p:=⟨N,n*4,none⟩) rfl _ _).trans (bw.set (P:=(·=N)) (p:=⟨N,n*4+1,none⟩) rfl _ _)).trans (bw.set (P:=(·=N)) (p:=⟨N,n*4+2,none⟩) rfl _ _)).trans (bw.set (P:=(·=N)) (p:=⟨N,n*4+3,none⟩) rfl _ _)
 have hkk:k* (K+1)+K+1=(k+1)* (K+1):=by rw[Nat.add_mul];omega
 refine⟨h1,ak hN hc.size,fun i hi=>?_,fun i hi him=>?_,?_,hb.trans (hc.below hb.size (fun q hq e=>by omega))⟩
 ·by_cases e:i=n
  ·subst e;rw[aW];exact((ZM.wide (Q:=(·=N)) (fun q hq=> .inl (by omega))).bJ hc (fun q hq=> .inl hq)).mono (by omega)
  ·rw[bk _ _ e];exact((hfo i (by omega)).bJ hc (fun q hq=> .inl hq)).mono (by omega)
 ·rw[bk _ _ (by omega)];exact Tp i (by omega) him
 ·refine hF.new (p:=x.p) (by rw[<-hx];exact dA hk) (by rw[<-hx];exact Bm hs) hne x rfl
theorem PE{w wz:World}{N m k n K:Nat}{f f0:Nat->En}{x:En}{b s t:Value}(h:yY w N m K k (n+1) f0 f wz)(JV:w.heap.size<=N)(hk:k<m)(hx:f0 k=x)(he:(f n).i=x.i)(ho:cV (N+1) wz b s t ((f n).r+x.r))(hz:Sz ((f n).r+x.r) ((k+1)* (K+1))):
 ∃f',yY w N m K (k+1) (n+1) f0 f' (((wz.setCell ⟨N,n*4+1,none⟩ b).setCell ⟨N,n*4+2,none⟩ s).setCell ⟨N,n*4+3,none⟩ t):=by
 obtain⟨hr,hN,hfo,Tp,hF,hb⟩:=h;have hnk:=hF.nk;obtain⟨y,y1,y2,rfl,rfl,rfl,hy⟩:=ho.en hz (f n).i (P:=(·=N)) (fun q hq=>by omega);have h1:=hr.gY (i:=n) (by omega) y y1;simp only[Nat.zero_add]at h1
 have hc:bw (·=N) wz (((wz.setCell ⟨N,n*4+1,none⟩ (.bool y.b)).setCell ⟨N,n*4+2,none⟩ (.slice y.A y.n y.c)).setCell ⟨N,n*4+3,none⟩ (.slice y.B y.m y.d)):=
  ((bw.set (P:=(·=N)) (p:=⟨N,n*4+1,none⟩) rfl _ _).trans (bw.set (P:=(·=N)) (p:=⟨N,n*4+2,none⟩) rfl _ _)).trans (bw.set (P:=(·=N)) (p:=⟨N,n*4+3,none⟩) rfl _ _)
 have hkk:k* (K+1)<=(k+1)* (K+1):=aH _ (by omega);refine⟨bE f n y,h1,ak hN hc.size,fun i hi=>?_,fun i hi him=>?_,?_,hb.trans (hc.below hb.size (fun q hq e=>by omega))⟩
 ·by_cases e:i=n
  ·subst e;rw[aW];exact hy.bJ hc (fun q hq=> .inl hq)
  ·rw[bk _ _ e];exact((hfo i hi).bJ hc (fun q hq=> .inl hq)).mono hkk
 ·rw[bk _ _ (by omega)];exact Tp i (by omega) him
 ·exact hF.add (p:=x.p) (by rw[<-hx];exact dA hk) he y y1 (by rw[y2];rfl)
theorem DV{w:World}{D:Option Addr}{l:List (Nat×Rat)}{c K M:Nat}(hl:EL w D l K)(hm:l.length<=19)(hns:¬jo l)(mB:1<=K)(hM:l.length* (K+1)+K<=M)(vS:M<=1099511627776):
 Calls Tryz.prog 71 #[.slice D l.length c] w (xJ w l M):=by
 have h0:0<l.length:=by
  rcases l with _|⟨a,l⟩
  ·exact absurd (fun a b p q _ hp=>by simp at hp) hns
  ·simp
 have ha:=LA (c:=c) hl (by omega);obtain⟨b,o,g,rfl,hb,hlg,hok,hcs⟩:=hl.fn h0;clear hl;obtain⟨m,em⟩:=xeq l.length;rw[em]at ha hlg hok hcs hm hM h0⊢;have HNS:=ah hns;have EM:=ah em;have HLG:=ah hlg;clear hns em hlg;go_enter Tryz.func71,Tryz.ntmps71
 go_wp2_with fail
 refine ha.mono ?_;rintro e w1 ⟨bq,rfl,NU,g1⟩
 obtain rfl:bq=false:=by
  cases bq with
  |false=>rfl
  |true=>exact absurd (NU.1 rfl) HNS.out
 clear ha NU;have hmk:=LK m (by omega) w1;have hb1:b<w1.heap.size:=ak hb g1.size;obtain⟨cur,UL⟩:=xeq (madeCells (Value.agg #[.int .i64 0, .bool false, .slice none 0 0, .slice none 0 0]).cells (m*4));have hcur:cur.size=m*4:=by rw[<-UL];simp[madeCells]
 rw[UL]at hmk;clear UL;have bo:=bI w1 (.cells cur 92)
 have hsrc:∀j v,(iV m g)[j]?=some v->(w1.alloc (.cells cur 92)).cell? ((⟨b,o,none⟩:Addr).add j)=some v:=fun j v hv=>by
  have hj:=(aC.1 hv).1;rw[jq]at hj;rw[qq,show o+j=o+j/4*4+j % 4 by omega];refine((g1.trans (bo.mono g1.size)).cell (p:=⟨b,_,none⟩) hb).trans ?_;obtain⟨a0,a1,a2,a3⟩:=hcs (j/4) (by omega);rw[show j=j/4*4+j % 4 by omega,uJ (by omega) (Nat.mod_lt _ (by decide))]at hv;rw[<-hv];have h4:j % 4<4:=Nat.mod_lt _ (by decide);generalize j % 4=c4 at h4⊢
  match c4,h4 with
  |0,_=>exact a0
  |1,_=>exact a1
  |2,_=>exact a2
  |3,_=>exact a3
 have hcp:=Bj (w1.alloc (.cells cur 92)) w1.heap.size m m ⟨b,o,none⟩ c cur (iV m g) (aS w1 _) (jq _ _) hsrc (by rw[jq,hcur]) (DT _ _);have hrow:fP ((w1.alloc (.cells cur 92)).setRow w1.heap.size (iV m g).toArray) w1.heap.size 0 m g:=fP.copied (setRow_heap _ w1.heap.size cur _ 92 _ (aS w1 _));have cF:Below w1.heap.size w1 ((w1.alloc (.cells cur 92)).setRow w1.heap.size (iV m g).toArray):=below_setRow bo (aj _) _
 have Xz:w1.heap.size< ((w1.alloc (.cells cur 92)).setRow w1.heap.size (iV m g).toArray).heap.size:=by
  have:=(au.1 (setRow_heap (w1.alloc (.cells cur 92)) w1.heap.size cur (iV m g).toArray 92 _ (aS w1 _))).1;exact this
 clear hsrc hcs hcur bo hb1;obtain⟨W3,Jo⟩:=xeq ((w1.alloc (.cells cur 92)).setRow w1.heap.size (iV m g).toArray);rw[Jo]at hcp hrow cF Xz;obtain⟨N,eN⟩:=xeq w1.heap.size;have JV:w.heap.size<=N:=by rw[<-eN];exact g1.size
 have fq:Below w.heap.size w W3:=g1.trans (cF.mono g1.size);have EN:=ah eN;rw[eN]at hrow Xz
 have hsort:=Il xI (w:=W3) (blk:=N) (off:=0) (cap:=m) (n:=m) (d:=((List.range m).map g).toArray) (by simp) (fP.holds (by
  simp only[List.size_toArray,List.length_map,List.length_range];exact hrow.congr fun i hi=>by simp[hi])) Xz hm
 have pM:=ah (ai hrow (ai Xz fq));clear Jo cF hrow Xz fq hb;have ZN:=hok;clear hok eN;go_wp2_with fail
 rw[EN.out];refine hsort.mono ?_;rintro e w4 ⟨rfl,kq,os,e4⟩;clear hsort hcp hmk;obtain⟨f0,Wo,hperm,uK,mW,zO⟩:=pL pM.out.1 pM.out.2.1 e4;have hN4:N<w4.heap.size:=ak pM.out.2.1 zO.size;have hb4:Below w.heap.size w w4:=pM.out.2.2.trans (zO.below pM.out.2.2.size (fun k hk e=>by omega))
 have QV:∀i,i<m->(f0 i).ok w (fun k=>w.heap.size<=k) K:=fun i hi=>by
  obtain⟨j,hj,e⟩:=uK i hi;rw[e];exact ZN j hj
 clear e4 zO ZN uK;have HS:=ah mW;have HP:=ah hperm;clear mW hperm os kq EN pM g1;have SH:yY w N m K 0 0 f0 f0 w4:=⟨Wo,hN4,fun i hi=>absurd hi (by omega),fun _ _ _=>rfl,Fold.start _ _,hb4⟩;have HA0:=ah SH;clear Wo hN4 hb4 SH;have hmk:m* (K+1)<=1099511627776:=by omega
 go_wp2_with fail
 go_loopw [4,20] (fun s t wr=>∃k n f,s= .int .i64 ((n:Nat):Int)/\t= .int .i64 ((k:Nat):Int)/\k<=m/\yY w N m K k n f0 f wr) (fun _ t _=>m- (intOf t).toNat)
 case atStart=>exact⟨0,0,f0,rfl,rfl,aF _,HA0.out⟩
 case round=>
  clear HA0;obtain⟨k,n,f,rfl,rfl,hk,hA⟩:=hrel;have hnk:=hA.2.2.2.2.1.nk
  by_cases hlt:k<m
  ·have HMK:=ah (show(k+1)* (K+1)<=1099511627776 from ay (aH _ hlt) hmk);clear hmk;obtain⟨x,ex⟩:=xeq (f k);obtain⟨⟨a0,a1,a2,a3⟩,_⟩:=hA.1 k hlt;rw[ex]at a0 a1 a2 a3;rw[Nat.zero_add]at a0 a1 a2 a3;have hxf:f0 k=x:=by rw[<-hA.2.2.2.1 k (aj _) hlt,ex]
   have hx0:x.ok wr (fun q=>w.heap.size<=q) K:=by
    rw[<-hxf];exact(QV k hlt).below hA.2.2.2.2.2
   obtain⟨u,eu⟩:=xeq x.i;rw[eu]at a0;obtain⟨y1,Yi⟩:=xeq (Value.bool x.b);obtain⟨y2,Yj⟩:=xeq (Value.slice x.A x.n x.c);obtain⟨y3,Yk⟩:=xeq (Value.slice x.B x.m x.d);obtain⟨q0,q1,q2⟩:=hx0.1.st;rw[Yi]at a1 q0;rw[Yj]at a2 q1;rw[Yk]at a3 q2;have EX:=ah (ai Yi (ai Yj (ai Yk eu)));have HXF:=ah hxf;have v0:(0:Int)<=(k:Int):=by omega
   have v1:(k:Int)<m:=by omega
   have n0:(0:Int)<=(n:Int):=by omega
   have n1:(n:Int)<m:=by omega
   have bo:=bI wr (.cells #[.int .i64 (u:Int),y1,y2,y3] 92);have i5:=Cr.new wr (.int .i64 (u:Int)) y1 y2 y3;obtain⟨wa,iP⟩:=xeq (wr.alloc (.cells #[.int .i64 (u:Int),y1,y2,y3] 92));obtain⟨Ne,fG⟩:=xeq wr.heap.size;rw[iP]at bo i5;have hNe:N<Ne:=by rw[<-fG];exact hA.2.1
   have bz:=bo.trans ((aq wa.heap.size wa).drew.mono bo.size);have JW:=i5.keep ((aq wa.heap.size wa).drew);have Gh:=hA.new bz;have hxz:=hx0.below bz;obtain⟨wz,JX⟩:=xeq wa.drew;rw[JX]at JW Gh hxz bz;rw[fG]at JW;have Im:=JW.lt;have HXZ:=ah hxz;have HWA:=ah iP;have wF:=ah JX;have ny:=ah fG;have HAZ:=ah Gh;have I5Z:=ah JW;clear hx0 hxf Yi Yj Yk eu ex iP JX fG QV hA bo bz Gh JW hxz;go_upto_region 10 with fail
   rw[HWA.out,ny.out];rw[ny.out]at i5;obtain⟨v2,v3,v4,v5,v6,v7,v8,v9⟩:=id i5;have Gh:=HAZ.out;have hxz:=HXZ.out.1;have JW:=I5Z.out;have ex:=EX.out;rw[ex.1,ex.2.1,ex.2.2.1]at hxz;clear a0 a1 a2 a3 HAZ I5Z i5 ex v3 v4 v5 v6 v7 v8 v9
   by_cases hn0:n=0
   ·have akr:¬(0:Int)< (n:Int):=by omega
    have HN0:=ah hn0;clear hn0;refine wp_region_held_drew (S:=(fun _=>True)) (by kernel_rfl) (trivial) (fun aU=>?_);refine tq 0 aU ?_;refine tr (v:= .bool false) 1 aU (fun w cZ=>?_) ?_
    focus((try dsimp only at cZ);go_simp;(try omega);done)
    try simp only[Act.put,List.setIfInBounds_toArray,List.set_cons_zero,List.set_cons_succ]
    refine tq 2 aU ?_;refine tn 3 aU ?_;refine tn 4 aU ?_;refine tn 5 aU ?_;refine tn 6 aU ?_;refine tn 7 aU ?_;refine tn 8 aU ?_;refine tn 9 aU ?_;refine tn 10 aU ?_;refine tn 11 aU ?_;refine tq 12 aU ?_;refine td ?_ _;rw[wF.out];clear aU v2;obtain⟨u0,u1,u2,u3,_⟩:=id JW;have fz:=Gh.1 n (by omega);simp only[Nat.zero_add]at fz;obtain⟨⟨d0,d1,d2,d3⟩,b0,b1,b2,b3⟩:=fz;have hn1:=Gg Gh JV hlt hnk HS.out HXF.out HXZ.out (fun n' e=>by have:=HN0.out;omega);have ex:=EX.out;rw[ex.1,ex.2.1,ex.2.2.1,ex.2.2.2]at hn1;have HR:=ah hn1;clear hn1 Gh JW ex hxz;go_wp2_with fail
    go_roundw
    case rel=>exact⟨k+1,n+1,_,by go_num,by go_num,by omega,HR.out⟩
    case measure=>simp[intOf];omega
   ·have akr:(0:Int)< (n:Int):=by omega
    clear hn0;obtain⟨n',en'⟩:∃n',n=n'+1:=⟨n-1,by omega⟩;obtain⟨⟨a0,a1,a2,a3⟩,_⟩:=Gh.1 n' (by omega);have PF:=(Gh.2.2.1 n' (by omega)).1;obtain⟨z,ez⟩:=xeq ((f n').i);obtain⟨p1,ep1⟩:=xeq (Value.bool (f n').b);obtain⟨p2,ep2⟩:=xeq (Value.slice (f n').A (f n').n (f n').c);obtain⟨p3,ep3⟩:=xeq (Value.slice (f n').B (f n').m (f n').d);rw[ez]at a0;rw[ep1]at a1 PF;rw[ep2]at a2 PF;rw[ep3]at a3 PF;rw[Nat.zero_add]at a0 a1 a2 a3;have e1:IntKind.i64.wrap ((n:Int) -1)=(n':Int):=by rw[show(n:Int) -1=(n':Int) by omega];exact IntWalk.i64_in _ (by omega)
    have n'0:(0:Int)<=(n':Int):=by omega
    have n'1:(n':Int)<m:=by omega
    have Pq:=ah en';have EZ:=ah ez;clear en' ez ep1 ep2 ep3;have XA:=a0;rw[<-wF.out]at XA
    by_cases hzu:z=u
    ·have aks:(z:Int)=(u:Int):=by omega
     have HZ:=ah hzu;clear hzu;refine wp_region_held_drew (S:=(fun w'=>w'.cell? ⟨N,n'*4,none⟩=some (.int .i64 (z:Int))/\w'.cell? ⟨Ne,0,none⟩=some (.int .i64 (u:Int)))) (by kernel_rfl) (⟨XA,v2⟩) (fun aU=>?_);refine tq 0 aU ?_;refine tr (v:= .bool true) 1 aU (fun w cZ=>?_) ?_
     focus((try dsimp only at cZ);go_simp;(try omega);done)
     try simp only[Act.put,List.setIfInBounds_toArray,List.set_cons_zero,List.set_cons_succ]
     refine tq 2 aU ?_;refine tq 3 aU ?_;refine tq 4 aU ?_;refine tq 5 aU ?_;refine tq 6 aU ?_;refine tq 7 aU ?_;refine tq 8 aU ?_;refine tq 9 aU ?_;refine tq 10 aU ?_;refine tr (v:= .bool true) 11 aU (fun w cZ=>?_) ?_
     focus((try dsimp only at cZ);go_simp;(try omega);done)
     try simp only[Act.put,List.setIfInBounds_toArray,List.set_cons_zero,List.set_cons_succ]
     refine tq 12 aU ?_;refine td ?_ _;rw[wF.out];clear aU v2 a0 XA;obtain⟨u0,w1b,w2b,w3b,_⟩:=id JW;have ZP:=Gh.new ((aq wz.heap.size wz).drew);have akt:bG wz.drew y1 y2 y3 x.r ((k+1)* (K+1)):=(hxz.keep ((aq wz.heap.size wz).drew)).mono (by rw[Nat.add_mul];omega);have hzs:=Sz.LL PF.sz hxz.sz rfl (show k* (K+1)+K+1<=(k+1)* (K+1) by rw[Nat.add_mul];omega);replace PF:=(PF.keep ((aq wz.heap.size wz).drew)).mono (show k* (K+1)<=(k+1)* (K+1)from aH _ (by omega));have Wp:Ne<wz.drew.heap.size:=Im;have Io:=ah hzs;have HAZD:=ah ZP;clear Gh JW hzs hxz;go_upto_region 11 with fail
     refine wp_region_held_drew (S:=(fun w'=>w'.cell? ⟨Ne,1,none⟩=some y1/\w'.cell? ⟨Ne,2,none⟩=some y2/\w'.cell? ⟨Ne,3,none⟩=some y3)) (by kernel_rfl) (⟨w1b,w2b,w3b⟩) (fun aU=>?_);refine tq 0 aU ?_;refine tq 1 aU ?_;refine tq 2 aU ?_;refine tq 3 aU ?_;refine tq 4 aU ?_;refine tq 5 aU ?_;refine tq 6 aU ?_;refine tq 7 aU ?_;refine tq 9 aU ?_;refine tq 10 aU ?_;refine tv 8 (fun κ hκ=>?_);go_simp;refine hκ.out _ _ ?_ (fun aU=>?_)
     ·exact aU
     clear hκ κ;refine tu ?_;refine tv 11 (fun κ hκ=>?_);go_simp;go_at_call 29;refine(kI (K:=(k+1)* (K+1)) (q:=(f n').r+x.r) PF akt (by have h1:=HMK.out;omega) rfl).mono ?_;rintro e w3 ⟨b3,s3,t3,rfl,o3,g3⟩;obtain⟨q3,q4,q5⟩:=o3.st;have k0:=bn g3 Wp w1b;have k1:=bn g3 Wp w2b;have k2:=bn g3 Wp w3b;have kf:=ZP.new (g3.mono (by omega));have kfz:=kf.1 n' (by omega);simp only[Nat.zero_add]at kfz;obtain⟨⟨d0,d1,d2,d3⟩,c0,c1,c2,c3⟩:=kfz;have HKF:=ah kf;have HO3:=ah o3;clear kf o3;go_wp2_with fail
     refine hκ.out _ _ ?_ (fun aU=>?_)
     ·exact⟨k0,k1,k2⟩
     clear hκ κ;refine tu ?_;refine tq 12 aU ?_;refine tq 13 aU ?_;refine tv 14 (fun κ hκ=>?_);go_simp;refine hκ.out _ _ ?_ (fun aU=>?_)
     ·exact⟨by go_simp,by go_simp,by go_simp⟩
     clear hκ κ;refine tu ?_;refine td ?_ _;have ha:=PE (n:=n') (by have h:=HKF.out;rw[Pq.out]at h;exact h) JV hlt HXF.out (by rw[EZ.out,HZ.out];exact EX.out.2.2.2.symm) (HO3.out.mono (by omega)) Io.out;obtain⟨f',hf'⟩:=ha;rw[<-Pq.out]at hf';have HR:=ah hf';clear hf' aU;go_wp2_with fail
     go_roundw
     case rel=>exact⟨k+1,n,f',by go_num,by go_num,by omega,HR.out⟩
     case measure=>simp[intOf];omega
    ·have aks:¬(z:Int)=(u:Int):=by omega
     have HZ:=ah hzu;clear hzu;refine wp_region_held_drew (S:=(fun w'=>w'.cell? ⟨N,n'*4,none⟩=some (.int .i64 (z:Int))/\w'.cell? ⟨Ne,0,none⟩=some (.int .i64 (u:Int)))) (by kernel_rfl) (⟨XA,v2⟩) (fun aU=>?_);refine tq 0 aU ?_;refine tr (v:= .bool true) 1 aU (fun w cZ=>?_) ?_
     focus((try dsimp only at cZ);go_simp;(try omega);done)
     try simp only[Act.put,List.setIfInBounds_toArray,List.set_cons_zero,List.set_cons_succ]
     refine tq 2 aU ?_;refine tq 3 aU ?_;refine tq 4 aU ?_;refine tq 5 aU ?_;refine tq 6 aU ?_;refine tq 7 aU ?_;refine tq 8 aU ?_;refine tq 9 aU ?_;refine tq 10 aU ?_;refine tr (v:= .bool false) 11 aU (fun w cZ=>?_) ?_
     focus((try dsimp only at cZ);go_simp;(try omega);done)
     try simp only[Act.put,List.setIfInBounds_toArray,List.set_cons_zero,List.set_cons_succ]
     refine tq 12 aU ?_;refine td ?_ _;rw[wF.out];clear aU v2 a0 XA a1 a2 a3 PF;obtain⟨u0,u1,u2,u3,_⟩:=id JW;have fz:=Gh.1 n (by omega);simp only[Nat.zero_add]at fz;obtain⟨⟨d0,d1,d2,d3⟩,b0,b1,b2,b3⟩:=fz;have hn1:=Gg Gh JV hlt hnk HS.out HXF.out HXZ.out (fun n2 e=>by have h1:=Pq.out;obtain rfl:n2=n':=(by omega);rw[EZ.out,EX.out.2.2.2];exact HZ.out);have ex:=EX.out;rw[ex.1,ex.2.1,ex.2.2.1,ex.2.2.2]at hn1;have HR:=ah hn1;clear hn1 Gh JW ex hxz;go_wp2_with fail
     go_roundw
     case rel=>exact⟨k+1,n+1,_,by go_num,by go_num,by omega,HR.out⟩
     case measure=>simp[intOf];omega
  ·obtain rfl:k=m:=by omega
   obtain⟨h1,h2,h3,h4,h5,h6⟩:=hA
   have xK:∀j,gv (dh n f) j=gv l j:=fun j=>by
    rw[h5.gv,aI (by rw[cN];omega),yV HP.out,HLG.out]
   have Hv:∀p∈dh n f,∃q∈l,q.1=p.1:=fun p hp=>by
    obtain⟨i,hi,rfl⟩:=List.mem_map.1 hp;obtain⟨q,hq,e⟩:=h5.idx i (List.mem_range.1 hi);exact⟨q,by rw[<-HLG.out];exact HP.out.mem_iff.1 hq,e⟩
   have hel:EL wr (some ⟨N,0,none⟩) (dh n f) M:=(h1.el h2 hnk h3).mono (by omega);have H:=ah (ai hel (ai h5.jF (ai xK (ai Hv h6))));have hn0:(0:Int)<=(n:Int):=by omega
   have hnm:(n:Int)<=(k:Int):=by omega
   clear h1 h3 h4 h5 h6 xK Hv hel QV hlt;go_wp2_with fail
   go_ret;refine⟨some ⟨N,0,none⟩,dh n f,k,by rw[cN];go_num,H.out.1,H.out.2.1,by rw[cN];omega,by rw[cN,EM.out];omega,H.out.2.2.1,H.out.2.2.2.1,H.out.2.2.2.2⟩
end Go.Proofs.YtkmpoleajjgfaaaGreat
namespace Go.Proofs.YtkmpoleajjgfaaaGreat
open Go.RowKit Gm
set_option maxRecDepth 100000
set_option maxHeartbeats 16000000
theorem EO.lo{w:World}{lo lo':Nat}{v:Value}{l:List (Nat×Rat)}{K:Nat}(h:EO w lo v l K)(hl:lo'<=lo):EO w lo' v l K:=by
 obtain⟨xs,⟨h1,h2|⟨g,cap,cur,e,hb,h3⟩⟩,hx⟩:=h
 ·exact⟨xs,⟨h1, .inl h2⟩,hx.wide fun k hk=> .inl (hk.imp (fun h=>ak h hl) id)⟩
 ·exact⟨xs,⟨h1, .inr ⟨g,cap,cur,e,ay hl hb,h3⟩⟩,hx.wide fun k hk=> .inl (hk.imp (fun h=>ak h hl) id)⟩
theorem rT.conv{w w1 w2:World}{n M:Nat}{f g:Nat->Rat}{e:Ending}(h:rT w1 n M f e w2)(hb:Below w.heap.size w w1)(hf:∀j,f j=g j):rT w n M g e w2:=by
 obtain⟨v,r,rfl,h1,h2,h3,h4⟩:=h;exact⟨v,r,rfl,h1.lo hb.size,h2,fun j=>by rw[h3,hf],hb.trans (h4.mono hb.size)⟩
theorem Gn{w:World}{ax sC az:Value}{ra:Rat}{bx dX bz:Value}{rb:Rat}{K:Nat}(ha:bG w ax sC az ra K)(hb:bG w bx dX bz rb K)(hK:K<=1099511627776):Calls Tryz.prog 72 #[.agg #[ax,sC,az], .agg #[bx,dX,bz]] w (nV w ra):=by
 obtain⟨W,hW,bC,i0,i1,i2⟩:∃W,((w.alloc (.cells #[ax,sC,az] 45)).alloc (.cells #[bx,dX,bz] 45)).alloc (.cells #[.bool false, .slice none 0 0, .slice none 0 0] 45)=W/\Below w.heap.size w W/\cK W (w.heap.size) ax sC az/\cK W (w.heap.size+1) bx dX bz/\cK W (w.heap.size+1+1) (.bool false) (.slice none 0 0) (.slice none 0 0):=⟨_,rfl,(((aq _ _).alloc (by simp<;>omega) _).alloc (by simp<;>omega) _).alloc (by simp<;>omega) _,by refine⟨?_,?_,?_,?_,?_,?_⟩<;>go_simp,by refine⟨?_,?_,?_,?_,?_,?_⟩<;>go_simp,by refine⟨?_,?_,?_,?_,?_,?_⟩<;>go_simp⟩;have wU:=i0.lt;have x00:=i0.c0;have x01:=i0.c1;have x02:=i0.c2;have CZ:=i1.lt;have x10:=i1.c0;have x11:=i1.c1;have x12:=i1.c2;have ji2:=i2.lt;have x20:=i2.c0;have x21:=i2.c1;have x22:=i2.c2;have HW:=ah hW;clear hW;replace ha:=ha.keep bC;replace hb:=hb.keep bC;go_enter Tryz.func72,Tryz.ntmps72
 go_wp2_with fail
 rw[HW.out];refine(yT ha hK rfl).mono ?_;rintro e w1 ⟨b1,s1,t1,rfl,o1,g1⟩;have tR:=i2.keep g1;obtain⟨y0,y1,y2,y3,y4,y5⟩:=id tR;obtain⟨q0,q1,q2⟩:=o1.st;have dw:=ah (Bb (w:=w) tR (by omega) o1 bC.size (bC.trans (g1.mono bC.size)));clear o1 tR;go_wp2_with fail
 exact bodyPost_ret (v:= .agg #[b1,s1,t1]) (by simp[results,Tryz.results72,go_sem,y0,y1,y2]) rfl dw.out
theorem PI{w:World}{ax sC az:Value}{ra:Rat}{bx dX bz:Value}{rb:Rat}{K:Nat}{L N:Nat}{cx cy_ cz:Value}{rc q:Rat}(ha:bG w ax sC az ra K)(hb:bG w bx dX bz rb K)(hK:K<=1099511627776)(eq:ra+rc*rb=q)(ic:cK w N cx cy_ cz)(hc:bG w cx cy_ cz rc K)(hL:2*K<=L)(hL2:L<=1099511627776):Calls Tryz.prog 144 #[.agg #[ax,sC,az], .agg #[bx,dX,bz], .pointer (some ⟨N,0,none⟩)] w (nV w q):=by
 obtain⟨W,hW,bC,i0,i1,i2⟩:∃W,((w.alloc (.cells #[ax,sC,az] 45)).alloc (.cells #[bx,dX,bz] 45)).alloc (.cells #[.bool false, .slice none 0 0, .slice none 0 0] 45)=W/\Below w.heap.size w W/\cK W (w.heap.size) ax sC az/\cK W (w.heap.size+1) bx dX bz/\cK W (w.heap.size+1+1) (.bool false) (.slice none 0 0) (.slice none 0 0):=⟨_,rfl,(((aq _ _).alloc (by simp<;>omega) _).alloc (by simp<;>omega) _).alloc (by simp<;>omega) _,by refine⟨?_,?_,?_,?_,?_,?_⟩<;>go_simp,by refine⟨?_,?_,?_,?_,?_,?_⟩<;>go_simp,by refine⟨?_,?_,?_,?_,?_,?_⟩<;>go_simp⟩;have wU:=i0.lt;have x00:=i0.c0;have x01:=i0.c1;have x02:=i0.c2;have CZ:=i1.lt;have x10:=i1.c0;have x11:=i1.c1;have x12:=i1.c2;have ji2:=i2.lt;have x20:=i2.c0;have x21:=i2.c1;have x22:=i2.c2;have HW:=ah hW;clear hW;replace ha:=ha.keep bC;replace hb:=hb.keep bC;have zc:=hc.sz;have zb:=hb.sz;have Xz:=ic.lt;have hm:=Sz.mul' zc zb rfl (show K+K<=L by omega);replace ic:=ic.keep bC;replace hc:=hc.keep bC;obtain⟨sg,kZ⟩:=xeq (fZ rb.num);have ES:=ah kZ;obtain⟨pr,UR⟩:=xeq (rc*rb);rw[UR]at hm;rw[UR]at eq;have EQ:=ah eq;have EP:=ah UR;have HM:=ah hm;clear kZ UR zc zb hm eq;go_enter Tryz.func144,Tryz.ntmps144
 go_wp2_with fail
 rw[HW.out];refine(fN hb hK ES.out).mono ?_;rintro e w1 ⟨rfl,g1⟩;replace ha:=ha.keep g1;replace hb:=hb.keep g1;replace hc:=hc.keep g1;replace i0:=i0.keep g1;replace i1:=i1.keep g1;replace i2:=i2.keep g1;replace ic:=ic.keep g1;have hb1:=bC.trans (g1.mono bC.size);clear x00 x01 x02 x10 x11 x12 x20 x21 x22 wU CZ ji2 HW;have wU:=i0.lt;have x00:=i0.c0;have x01:=i0.c1;have x02:=i0.c2;have CZ:=i1.lt;have x10:=i1.c0;have x11:=i1.c1;have x12:=i1.c2;have ji2:=i2.lt;have x20:=i2.c0;have x21:=i2.c1;have x22:=i2.c2
 by_cases hz:sg=0
 ·subst hz
  have jG:ra=q:=by
   have h1:=ES.out
   have h2:rb=0:=by
    refine Rat.num_eq_zero.1 ?_;unfold fZ at h1;split at h1
    ·omega
    ·split at h1<;>omega
   have h3:=EP.out;rw[h2,Rat.mul_zero]at h3;rw[<-EQ.out,<-h3,Rat.add_zero]
  have HQ:=ah jG;clear jG;go_wp2_with fail
  refine(yT ha hK HQ.out).mono ?_;rintro e w2 ⟨b1,s1,t1,rfl,o1,g2⟩;have tR:=i2.keep g2;obtain⟨y0,y1,y2,y3,y4,y5⟩:=id tR;obtain⟨q0,q1,q2⟩:=o1.st;have dw:=ah (Bb (w:=w) tR (by omega) o1 hb1.size (hb1.trans (g2.mono hb1.size)));clear o1 tR i0 i1 i2 ic;go_wp2_with fail
  exact bodyPost_ret (v:= .agg #[b1,s1,t1]) (by simp[results,Tryz.results144,go_sem,y0,y1,y2]) rfl dw.out
 ·
  have hz':¬sg=0:=hz;have kQ:True:=trivial;have pT:True:=trivial;have wU:=i0.lt;have p00:=i0.c0;have p01:=i0.c1;have p02:=i0.c2;have CZ:=i1.lt;have p10:=i1.c0;have p11:=i1.c1;have p12:=i1.c2;have XE:=ic.lt;have p20:=ic.c0;have p21:=ic.c1;have p22:=ic.c2;have nz0:w.heap.size≠w.heap.size+1+1:=by omega
  have nz1:w.heap.size+1≠w.heap.size+1+1:=by omega
  have nz2:N≠w.heap.size+1+1:=by omega
  go_wp2_with fail
  have bB:Below w1.heap.size w1 w1.drew:=(aq _ _).drew;replace ha:=ha.keep bB;replace hb:=hb.keep bB;replace hc:=hc.keep bB
  go_region_held3 (fun w'=>w'.cell? ⟨w.heap.size,0,none⟩=some ax/\w'.cell? ⟨w.heap.size,1,none⟩=some sC/\w'.cell? ⟨w.heap.size,2,none⟩=some az/\w'.cell? ⟨w.heap.size+1,0,none⟩=some bx/\w'.cell? ⟨w.heap.size+1,1,none⟩=some dX/\w'.cell? ⟨w.heap.size+1,2,none⟩=some bz/\w'.cell? ⟨N,0,none⟩=some cx/\w'.cell? ⟨N,1,none⟩=some cy_/\w'.cell? ⟨N,2,none⟩=some cz)
   (first|(with_reducible exact⟨bn bB wU p00,bn bB wU p01,bn bB wU p02,bn bB CZ p10,bn bB CZ p11,bn bB CZ p12,bn bB XE p20,bn bB XE p21,bn bB XE p22⟩)|(with_reducible exact⟨(kT nz0 _ _ _).trans (bn bB wU p00),(kT nz0 _ _ _).trans (bn bB wU p01),(kT nz0 _ _ _).trans (bn bB wU p02),(kT nz1 _ _ _).trans (bn bB CZ p10),(kT nz1 _ _ _).trans (bn bB CZ p11),(kT nz1 _ _ _).trans (bn bB CZ p12),(kT nz2 _ _ _).trans (bn bB XE p20),(kT nz2 _ _ _).trans (bn bB XE p21),(kT nz2 _ _ _).trans (bn bB XE p22)⟩)|go_keep)
   (first
     |(go_at_call 31;have _t:=kQ;clear kQ;refine(iT hc hb hK EP.out).mono ?_;rintro e v0 ⟨b0,s0,t0,rfl,o0,g0⟩;replace ha:=ha.keep g0;replace bB:=bB.trans (g0.mono bB.size))
     |(go_at_call 29;have _t:=pT;clear pT;refine(kI (K:=L) (ha.mono (by omega)) (o0.is HM.out) hL2 EQ.out).mono ?_;rintro e v1 ⟨b1,s1,t1,rfl,o1,g1⟩;have hlo:=ay hb1.size bB.size;replace bB:=bB.trans (g1.mono bB.size);have tR:=i2.keep bB;obtain⟨y0,y1,y2,y3,y4,y5⟩:=id tR;obtain⟨q0,q1,q2⟩:=o1.st))
  rename_i aU
  clear aU;have dw:=ah (Bb (w:=w) tR (by omega) o1 hlo (hb1.trans (bB.mono hb1.size)));go_wp2_with fail
  exact bodyPost_ret (v:= .agg #[b1,s1,t1]) (by simp[results,Tryz.results144,go_sem,y0,y1,y2]) rfl dw.out
theorem Ip{w:World}{D:Option Addr}{l:List (Nat×Rat)}{c K M:Nat}(hl:EL w D l K)(hm:l.length<=19)(hc:l.length<=c)(mB:1<=K)(hM:l.length* (K+1)+K<=M)(vS:M<=1099511627776):
 Calls Tryz.prog 71 #[.slice D l.length c] w (xJ w l M):=by
 by_cases hs:jo l
 ·exact(mV hl (by omega) hc hs).mono fun _ _ h=>h.mono (by omega)
 ·exact DV hl hm hs mB hM vS
theorem LO{w:World}{D:Option Addr}{l:List (Nat×Rat)}{c K M n:Nat}(hl:EL w D l K)(hm:l.length<=19)(hc:l.length<=c)(mB:1<=K)(hM:l.length* (K+1)+K<=M)(vS:M<=1099511627776)(hlt:∀p∈l,p.1<n)(hn:n<=1048576):
 Calls Tryz.prog 43 #[.slice D l.length c] w (rT w n M (gv l)):=by
 have ha:=Ip hl hm hc mB hM vS;have ZU:1<=M:=by omega
 have HH:=ah (ai vS (ai hlt (ai hn (ai ZU hm))));obtain⟨m,em⟩:=xeq l.length;rw[em]at ha⊢;clear hl hm hc hM vS hlt hn ZU;go_enter Tryz.func43,Tryz.ntmps43
 go_wp2_with fail
 refine ha.mono ?_;rintro e w1 ⟨D1,r,c1,rfl,h1,h2,h3,h4,h5,h6,g1⟩;clear ha
 have hme:=yZ (w:=w1) (Da:=D1) (Db:=none) (A:=r) (B:=[]) (ca:=c1) (cb:=0) (K:=M) (M:=M) (n:=n) (kf:=72) (cs:=#[]) (op:=fun x _=>x) h1 EL.nil h3 (aj _) (by have:=HH.out.2.2.2.2;omega) (by simp) h2 (fun _ _ _ _ _ h=>by simp at h)
  (fun p hp=>by obtain⟨q,hq,e⟩:=h6 p hp;rw[<-e];exact HH.out.2.1 q hq) (fun p hp=>by simp at hp) HH.out.2.2.1 HH.out.2.2.2.1 HH.out.1 rfl (fun x y h _=>h) (enters_of Tryz.func72 (by kernel_rfl) rfl)
  (fun wr a b c a' b' c' x y _ hx hy=>Gn hx hy HH.out.1)
 have H5:=ah h5;clear h1 h2 h3 h4 h5 h6;go_wp2_with fail
 refine hme.mono ?_;rintro e w2 hr;have iW:=hr.conv g1 H5.out;obtain⟨v,rr,rfl,Jv⟩:=iW;have HR:=ah Jv;clear hr hme Jv;go_wp2_with fail
 go_ret;exact⟨v,rr,rfl,HR.out⟩
theorem Bv{w:World}{D1 D2:Option Addr}{a b:List (Nat×Rat)}{c1 c2 K M n:Nat}{fx fy fz:Value}{rf:Rat}(ha:EL w D1 a K)(hb:EL w D2 b K)(hf:bG w fx fy fz rf K)(hsa:jo a)(hsb:jo b)(hma:a.length<=1048576)(hmb:b.length<=1048576)(ad4:a.length<=262144)(ad5:b.length<=262144)(hca:a.length<=c1)(hcb:b.length<=c2)(mB:1<=K)(hM:3*K+1<=M)(vS:M<=1099511627776)(hla:∀p∈a,p.1<n)(hlb:∀p∈b,p.1<n)(hn:n<=1048576):
 Calls Tryz.prog 118 #[.slice D1 a.length c1, .agg #[fx,fy,fz], .slice D2 b.length c2] w (rT w n M fun j=>gv a j+rf*gv b j):=by
 obtain⟨W,hW,bC,i0⟩:∃W,w.alloc (.cells #[fx,fy,fz] 45)=W/\Below w.heap.size w W/\cK W w.heap.size fx fy fz:=⟨_,rfl,bI _ _,cK.new _ _ _ _⟩;have h1:=mV (c:=c1) (ha.below bC) hma hca hsa;have h2:=fun W' (g:Below W.heap.size W W')=>mV (c:=c2) ((hb.below bC).below g) hmb hcb hsb;have hf':=hf.keep bC;have HH:=ah (ai vS (ai hla (ai hlb (ai hn (ai hM (ai ad4 (ai ad5 mB)))))));obtain⟨m1,em1⟩:=xeq a.length;obtain⟨m2,em2⟩:=xeq b.length;rw[em1]at h1⊢;rw[em2]at h2⊢;have E1:=ah em1;have E2:=ah em2;have HW:=ah hW;clear ha hb hf hma hmb ad4 ad5 hca hcb hM vS hla hlb hn hsa hsb mB em1 em2 hW;go_enter Tryz.func118,Tryz.ntmps118
 go_wp2_with fail
 rw[HW.out];refine h1.mono ?_;rintro e w1 ⟨A1,r1,k1,rfl,p1,p2,p3,p4,p5,p6,g1⟩;have i1:=i0.keep g1;have hf1:=hf'.keep g1;have h2':=h2 _ g1;have P1:=ah (ai p1 (ai p2 (ai p3 (ai p4 (ai p5 p6)))));clear h1 h2 p1 p2 p3 p4 p5 p6 i0 hf';go_wp2_with fail
 refine h2'.mono ?_;rintro e w2 ⟨A2,r2,k2,rfl,s1,s2,s3,s4,s5,s6,g2⟩;have i2:=i1.keep g2;have hf2:=hf1.keep g2;obtain⟨p1,p2,p3,p4,p5,p6⟩:=P1.out;obtain⟨z1,z2,z3,z4,z5,z6,z7,z8⟩:=HH.out
 have hme:=yZ (w:=w2) (Da:=A1) (Db:=A2) (A:=r1) (B:=r2) (ca:=k1) (cb:=k2) (K:=K) (M:=M) (n:=n) (kf:=144) (cs:=#[.pointer (some ⟨w.heap.size,0,none⟩)]) (op:=fun x y=>x+rf*y) (p1.below g2) s1 p3 s3 (by omega) (by omega) p2 s2
  (fun p hp=>by obtain⟨q,hq,e⟩:=p6 p hp;rw[<-e];exact z2 q hq) (fun p hp=>by obtain⟨q,hq,e⟩:=s6 p hp;rw[<-e];exact z3 q hq) z4 z8 z1 (by rw[Rat.mul_zero,Rat.add_zero])
  (fun x y hx hy=>Sz.LL (k:=K) (j:=K+K) hx (Sz.mul' hf2.sz hy rfl (aj _)) rfl (by omega)) (enters_of Tryz.func144 (by kernel_rfl) rfl)
  (fun wr a b c a' b' c' x y hbr hx hy=>PI (L:=M) hx hy (by omega) rfl (i2.keep hbr) (hf2.keep hbr) (by omega) z1)
 have xK:∀j,gv r1 j+rf*gv r2 j=gv a j+rf*gv b j:=fun j=>by rw[p5,s5]
 have HG:=ah xK;have hb2:=bC.trans ((g1.trans (g2.mono g1.size)).mono bC.size);clear h2' s1 s2 s3 s4 s5 s6 p1 p2 p3 p4 p5 p6 z1 z2 z3 z4 z5 z6 z7 z8 xK;go_wp2_with fail
 refine hme.mono ?_;rintro e w3 hr;have iW:=hr.conv hb2 HG.out;obtain⟨v,rr,rfl,Jv⟩:=iW;have HR:=ah Jv;clear hr hme Jv;go_wp2_with fail
 go_ret;exact⟨v,rr,rfl,HR.out⟩
end Go.Proofs.YtkmpoleajjgfaaaGreat
namespace Go.Proofs.YtkmpoleajjgfaaaGreat
open Go.RowKit Gm Go.Sort Go.Shelf
set_option maxRecDepth 100000
set_option maxHeartbeats 16000000
theorem LP{w:World}{D:Option Addr}{n c:Nat}{p:Nat->Nat}(hn:n<=16384)(hp:IL w D n p)(hlt:∀i,i<n->p i<n)(hinj:∀i j,i<n->j<n->p i=p j->i=j):
 Calls Tryz.prog 119 #[.slice D n c] w (fun e w'=>e= .returned (.bool true)/\Below w.heap.size w w'):=by
 have hmk:=tX (n:Int) n rfl (by omega);have hv:=dm.new w 4 n (fun _=> .bool false);have hb:=bI w (.cells ((List.range n).map fun _=>Value.bool false).toArray 4);obtain⟨g,eg⟩:=xeq w.heap.size;have EG:=ah eg;rw[eg]at hv;clear eg;go_enter Tryz.func119,Tryz.ntmps119
 go_wp2_with fail
 rw[EG.out];clear hmk
 go_loopw [11] (fun t wr=>∃(k:Nat) (s:Nat->Bool),k<=n/\t= .int .i64 (k:Int)/\dm wr g 4 n (fun i=> .bool (s i))/\(∀j,s j=true↔∃i,i<k/\p i=j)/\Below w.heap.size w wr) (fun t _=>n- (intOf t).toNat)
 case atStart=>exact⟨0,fun _=>false,aF _,rfl,hv,fun j=>by simp,hb⟩
 case round=>
  clear hv hb;obtain⟨k,s,hk,rfl,hv,hs,hb⟩:=hrel
  by_cases hlk:k<n
  ·obtain⟨b,off,rfl,hbl,hc⟩:=(hp.below hb) (by omega);have c0:=hc k hlk;have hx:=hlt k hlk
   have hsx:s (p k)=false:=by
    cases e:s (p k)with
    |false=>rfl
    |true=>
     obtain⟨i,hi,hpi⟩:=(hs _).1 e;have:=hinj i k (by omega) hlk hpi;omega
   have c1:=hv.cell hx;have f1:=hv.frozen (p k)
   have hv2:=(hv.set (p k) (.bool true)).congr (U:=fun i=> .bool (if i=p k then true else s i)) (fun i _=>by
    by_cases e:i=p k
    ·subst e;rw[aW,if_pos rfl]
    ·rw[bk _ _ e,if_neg e])
   have oN:∀j,(if j=p k then true else s j)=true↔∃i,i<k+1/\p i=j:=fun j=>by
    by_cases e:j=p k
    ·subst e;rw[if_pos rfl];exact⟨fun _=>⟨k,by omega,rfl⟩,fun _=>rfl⟩
    ·rw[if_neg e,hs];constructor
     ·rintro⟨i,hi,h⟩;exact⟨i,by omega,h⟩
     ·rintro⟨i,hi,h⟩;refine⟨i,?_,h⟩;rcases aN i k with h1|h1
      ·exact h1
      ·obtain rfl:i=k:=by omega
       exact absurd h.symm e
   have hg2:w.heap.size<=g:=by rw[EG.out];exact aj _
   have hb2:=hb.trans ((bw.set (P:=(·=g)) (p:=⟨g,p k,none⟩) rfl wr (.bool true)).below hb.size (fun q hq e=>by omega));(try dsimp only at c1);rw[hsx]at c1;obtain⟨x,ex⟩:=xeq (p k);rw[ex]at c0 c1 f1 hx hv2 hb2;have HR:=ah (ai hv2 (ai oN hb2));have i0:(0:Int)<=(k:Int):=by omega
   have i1:(k:Int)<n:=by omega
   have x0:(0:Int)<=(x:Int):=by omega
   have x1:(x:Int)<n:=by omega
   have x2:¬(x:Int)<0:=by omega
   have x3:¬(n:Int)<=(x:Int):=by omega
   have EXX:=ah ex;clear hc hv hs hv2 oN hb2 hb hp hlt hinj hsx ex;go_wp2_with fail
   go_roundw
   case rel=>exact⟨k+1,_,by omega,by go_num,HR.out.1,by have:=HR.out.2.1;rw[EXX.out]at this;exact this,HR.out.2.2⟩
   case measure=>simp[intOf];omega
  ·obtain rfl:k=n:=by omega
   clear hp hlt hinj hv hs;go_wp2_with fail
   go_ret;exact⟨rfl,hb⟩
def uP(w:World)(lo:Nat)(D:Option Addr)(l:List (Nat×Rat))(K:Nat):Prop:=
 0<l.length->∃N f,D=some ⟨N,0,none⟩/\lo<=N/\N<w.heap.size/\dh l.length f=l/\(∀i,i<l.length->(f i).ok w (fun k=>k<lo∨k=N) K)/\fP w N 0 l.length f
theorem uP.el{w:World}{lo:Nat}{D:Option Addr}{l:List (Nat×Rat)}{K:Nat}(h:uP w lo D l K):EL w D l K:=fun h0=>by
 obtain⟨N,f,rfl,h1,h2,h3,h4,h5⟩:=h h0;have:=h5.el h2 (aj _) h4;rw[h3]at this;exact this h0
theorem uP.bJ{P:Nat->Prop}{w w':World}{lo:Nat}{D:Option Addr}{l:List (Nat×Rat)}{K:Nat}(h:uP w lo D l K)(hc:bw P w w')(hp:∀k,P k->k<lo):uP w' lo D l K:=fun h0=>by
 obtain⟨N,f,rfl,h1,h2,h3,h4,h5⟩:=h h0;exact⟨N,f,rfl,h1,ak h2 hc.size,h3,fun i hi=>(h4 i hi).bJ hc (fun k hk=> .inl (.inl (hp k hk))),h5.bJ hc h2 (fun h=>by have:=hp _ h;omega)⟩
theorem uP.below{w w':World}{lo:Nat}{D:Option Addr}{l:List (Nat×Rat)}{K:Nat}(h:uP w lo D l K)(hb:Below w.heap.size w w'):uP w' lo D l K:=h.bJ (P:=fun _=>False) (bw.of hb) (fun _ h=>h.elim)
theorem uP.lo{w:World}{lo lo':Nat}{D:Option Addr}{l:List (Nat×Rat)}{K:Nat}(h:uP w lo D l K)(hl:lo'<=lo):uP w lo' D l K:=fun h0=>by
 obtain⟨N,f,rfl,h1,h2,h3,h4,h5⟩:=h h0;exact⟨N,f,rfl,by omega,h2,h3,fun i hi=>(h4 i hi).wide (fun k hk=> .inl (by omega)),h5⟩
theorem uP.mono{w:World}{lo:Nat}{D:Option Addr}{l:List (Nat×Rat)}{K L:Nat}(h:uP w lo D l K)(hk:K<=L):uP w lo D l L:=fun h0=>by
 obtain⟨N,f,rfl,h1,h2,h3,h4,h5⟩:=h h0;exact⟨N,f,rfl,h1,h2,h3,fun i hi=>(h4 i hi).mono hk,h5⟩
theorem EO.sF{w:World}{lo:Nat}{v:Value}{l:List (Nat×Rat)}{K:Nat}(h:EO w lo v l K):∃D c,v= .slice D l.length c/\(l.length<=c/\c<=9223372036854775807)/\uP w lo D l K:=by
 obtain⟨D,c,rfl,_,hc⟩:=h.slice;refine⟨D,c,rfl,hc,fun h0=>?_⟩;obtain⟨N,c',f,e,h1,h2,h3,h4,h5,h6⟩:=h.row h0;injection e with e1 e2 e3
 exact⟨N,f,e1,h1,h2,h4,fun i hi=>(h5 i hi).wide (fun k hk=> .inl (.inl hk)),h6⟩
theorem fP.Fe{w:World}{N off m:Nat}{f:Nat->En}(h:fP w N off m f){i:Nat}(hi:i<m)(v:Nat):
 fP (w.setCell ⟨N,off+i*4,none⟩ (.int .i64 (v:Int))) N off m (bE f i {f i with i:=v}):=fun j hj=>by
 obtain⟨⟨a0,a1,a2,a3⟩,b0,b1,b2,b3⟩:=h i hi
 by_cases e:j=i
 ·subst e;rw[aW];refine⟨⟨?_,?_,?_,?_⟩,?_,?_,?_,?_⟩<;>go_simp
 ·rw[bk _ _ e];obtain⟨⟨c0,c1,c2,c3⟩,d0,d1,d2,d3⟩:=h j hj;have o:∀q:Nat,q<4->(w.setCell ⟨N,off+i*4,none⟩ (.int .i64 (v:Int))).cell? ⟨N,off+j*4+q,none⟩=w.cell? ⟨N,off+j*4+q,none⟩:=fun q hq=>World.cell?_setCell_other w ⟨N,off+i*4,none⟩ ⟨N,off+j*4+q,none⟩ _ (by intro e2;injection e2 with _ e3 _;omega);have o2:∀A:Addr,(w.setCell ⟨N,off+i*4,none⟩ (.int .i64 (v:Int))).frozen? A=w.frozen? A:=fun A=>World.frozen?_setCell w _ A _;exact⟨⟨(o 0 (by decide)).trans c0,(o 1 (by decide)).trans c1,(o 2 (by decide)).trans c2,(o 3 (by decide)).trans c3⟩,(o2 _).trans d0,(o2 _).trans d1,(o2 _).trans d2,(o2 _).trans d3⟩
def JZ(p:Nat->Nat)(x:En):En:={x with i:=p x.i}
theorem UU{w:World}{P:Nat->Prop}{K:Nat}{x:En}(p:Nat->Nat)(h:x.ok w P K):(JZ p x).ok w P K:=h
theorem ZV{n m:Nat}{p:Nat->Nat}{f:Nat->En}(hinj:∀i j,i<n->j<n->p i=p j->i=j)(hf:∀i,i<m->(f i).i<n){j:Nat}(hj:j<n):gv (dh m fun i=>JZ p (f i)) (p j)=gv (dh m f) j:=by
 induction m with
 |zero=>rfl
 |succ m ih=>
  rw[kJ,kJ,fJ,fJ,ih fun i hi=>hf i (by omega)]
  congr 1
  show(if p (f m).i=p j then(f m).r else 0)+0=(if (f m).i=j then(f m).r else 0)+0
  have:=hf m (by omega)
  by_cases e:(f m).i=j
  ·rw[if_pos e,if_pos (by rw[e])]
  ·rw[if_neg e,if_neg (fun e2=>e (hinj _ _ this hj e2))]
theorem jo.ge{l:List (Nat×Rat)}(h:jo l):∀(i:Nat) (q:Nat×Rat),l[i]?=some q->i<=q.1
 |0,_,_=>aF _
 |i+1,q,hq=>by
  have hl:=(aC.1 hq).1;have hp:l[i]?=some l[i]:=aB (by omega);have h1:=Go.Proofs.YtkmpoleajjgfaaaGreat.jo.ge h i _ hp;have h2:=h i (i+1) _ q (by omega) hp hq;omega
theorem Can.len{n:Nat}{l:List (Nat×Rat)}(h:Can n l):l.length<=n:=by
 rcases aM l.length with e|e
 ·omega
 ·have hp:l[l.length-1]?=some l[l.length-1]:=aB (by omega);have h1:=Go.Proofs.YtkmpoleajjgfaaaGreat.jo.ge h.jF _ _ hp;have h2:=h.lt _ (aD hp);omega
def ZW(w:World)(n M:Nat)(p:Nat->Nat)(l:List (Nat×Rat))(e:Ending)(w':World):Prop:=
 ∃D r c,e= .returned (.tuple #[.slice D r.length c, .bool true])/\uP w' w.heap.size D r M/\(r.length<=c/\c<=9223372036854775807)/\Can n r/\(∀j,j<n->gv r (p j)=gv l j)/\Below w.heap.size w w'
theorem Iq{w:World}{D Dp:Option Addr}{l:List (Nat×Rat)}{c cp n K M:Nat}{p:Nat->Nat}(hl:EL w D l K)(hm:l.length<=19)(hc:l.length<=c)(hlt:∀q∈l,q.1<n)(mB:1<=K)(hM:l.length* (K+1)+K<=M)(vS:M<=1099511627776)(hn:n<=12)(hp:IL w Dp n p)(hpl:∀i,i<n->p i<n)(hinj:∀i j,i<n->j<n->p i=p j->i=j):
 Calls Tryz.prog 85 #[.slice D l.length c, .slice Dp n cp] w (ZW w n M p l):=by
 have h1:=LP (c:=cp) (by omega) hp hpl hinj;have h2:=fun W (hW:Below w.heap.size w W)=>LO (n:=n) (hl.below hW) (by omega) hc mB hM vS hlt (by omega);have HPL:=ah hpl;have ZX:=ah hinj;obtain⟨lm,elm⟩:=xeq l.length;have ELM:=ah elm;rw[elm]at h2 hm⊢;clear hl hc hlt hM hpl hinj elm;go_enter Tryz.func85,Tryz.ntmps85
 go_wp2_with fail
 refine h1.mono ?_;rintro e w1 ⟨rfl,g1⟩;have h2':=h2 w1 g1;clear h1 h2;go_wp2_with fail
 refine h2'.mono ?_;rintro e w2 ⟨v,r,rfl,dY,hcan,xK,g2⟩;obtain⟨D2,c2,rfl,hc2,mC⟩:=dY.sF;have hb2:=g1.trans (g2.mono g1.size);have GY:=mC.lo g1.size;have hrl:r.length<=n:=hcan.len;have hfi:∀q∈r,q.1<n:=hcan.lt;have ZY:∀W,Below w.heap.size w W->IL W Dp n p:=fun W h=>hp.below h;have HPW:=ah ZY;have Bw:=ah (ai hcan xK);clear h2' dY mC g1 g2 ZY hp hcan xK;rcases aM r.length with h0|h0
 ·obtain rfl:r=[]:=List.eq_nil_of_length_eq_zero h0;have HR:=ah (ai GY (ai hc2 hb2));clear GY hc2 hb2 h0 hrl hfi;dsimp only[List.length_nil];go_wp2_with fail
  go_loopw [16] (fun t wr=>t= .int .i64 0/\wr=w2) (fun t _=>0)
  case atStart=>exact⟨rfl,rfl⟩
  case round=>
   obtain⟨rfl,rfl⟩:=hrel;go_wp2_with (first|(refine Bh.mono ?_;rintro e w' ⟨rfl,rfl⟩))
   go_ret2;exact⟨D2,[],c2,rfl,HR.out.1,HR.out.2.1,Bw.out.1,fun j _=>by rw[<-Bw.out.2 j];rfl,HR.out.2.2⟩
 ·obtain⟨N,f,rfl,JV,hN,hlf,hok,hrow⟩:=GY h0;obtain⟨m,em⟩:=xeq r.length;rw[em]at hc2 hrl hlf hok hrow h0⊢;have Hv:∀i,i<m->(f i).i<n:=fun i hi=>hfi (f i).p (by rw[<-hlf];exact List.mem_map.2 ⟨i,List.mem_range.2 hi,rfl⟩);have XF:=ah hlf;have ad6:∀i,i<m->(f i).ok w2 (fun k=>k<w.heap.size∨k=N) M:=hok;have UW:=ah ad6;have EM:=ah em;clear hlf hok ad6 em GY hfi;go_wp2_with fail
  go_loopw [16] (fun t wr=>∃k:Nat,k<=m/\t= .int .i64 (k:Int)/\fP wr N 0 m (fun i=>if i<k then JZ p (f i)else f i)/\N<wr.heap.size/\(∀i,i<m->(f i).ok wr (fun q=>q<w.heap.size∨q=N) M)/\Below w.heap.size w wr) (fun t _=>m- (intOf t).toNat)
  case atStart=>exact⟨0,aF _,rfl,hrow.congr fun i _=>by rw[if_neg (by omega)],hN,UW.out,hb2⟩
  case round=>
   clear hrow hN hb2;obtain⟨k,hk,rfl,hrow,hN,hok,hb⟩:=hrel
   by_cases hlk:k<m
   ·obtain⟨x,ex⟩:=xeq (f k);obtain⟨⟨a0,a1,a2,a3⟩,Cs,_⟩:=hrow k hlk;simp only[if_neg (Nat.lt_irrefl k),Nat.zero_add]at a0 a1 a2 a3 Cs;have ZM:=hok k hlk;have hxn:=Hv k hlk;rw[ex]at a0 a1 a2 a3 ZM hxn;obtain⟨u,eu⟩:=xeq x.i;rw[eu]at a0 hxn;obtain⟨y1,Yi⟩:=xeq (Value.bool x.b);obtain⟨y2,Yj⟩:=xeq (Value.slice x.A x.n x.c);obtain⟨y3,Yk⟩:=xeq (Value.slice x.B x.m x.d);obtain⟨q0,q1,q2⟩:=ZM.1.st;rw[Yi]at a1 q0;rw[Yj]at a2 q1;rw[Yk]at a3 q2;obtain⟨b,off,rfl,hbl,hc⟩:=(HPW.out _ hb) (by omega);have c0:=hc u hxn;have hpu:=HPL.out u hxn;obtain⟨pu,epu⟩:=xeq (p u);rw[epu]at c0 hpu;have v0:(0:Int)<=(k:Int):=by omega
    have v1:(k:Int)<m:=by omega
    have u0:(0:Int)<=(u:Int):=by omega
    have u1:(u:Int)<n:=by omega
    have u2:¬(u:Int)<0:=by omega
    have u3:¬(n:Int)<=(u:Int):=by omega
    have bo:=bI wr (.cells #[.int .i64 (u:Int),y1,y2,y3] 92);have iW:=(hrow.bJ (P:=fun _=>False) (bw.of bo) hN (fun h=>h)).Fe hlk pu
    have Jv:=iW.congr (g:=fun i=>if i<k+1 then JZ p (f i)else f i) (fun i hi=>by
     by_cases e:i=k
     ·subst e;rw[aW,if_pos (by omega)];show JZ p (f i)={(if i<i then JZ p (f i)else f i)with i:=pu};rw[if_neg (Nat.lt_irrefl i),<-epu,<-eu,<-ex];rfl
     ·rw[bk _ _ e]
      by_cases e2:i<k
      ·rw[if_pos (by omega),if_pos e2]
      ·rw[if_neg (by omega),if_neg e2])
    simp only[Nat.zero_add]at Jv;obtain⟨wa,iP⟩:=xeq (wr.alloc (.cells #[.int .i64 (u:Int),y1,y2,y3] 92));rw[iP]at bo Jv;have dB:N<wa.heap.size:=ak hN bo.size;have hcs:bw (·=N) wa (wa.setCell ⟨N,k*4,none⟩ (.int .i64 (pu:Int))):=bw.set (P:=(·=N)) (p:=⟨N,k*4,none⟩) rfl _ _
    have hR:fP (wa.setCell ⟨N,k*4,none⟩ (.int .i64 (pu:Int))) N 0 m (fun i=>if i<k+1 then JZ p (f i)else f i)/\N< (wa.setCell ⟨N,k*4,none⟩ (.int .i64 (pu:Int))).heap.size/\(∀i,i<m->(f i).ok (wa.setCell ⟨N,k*4,none⟩ (.int .i64 (pu:Int))) (fun q=>q<w.heap.size∨q=N) M)/\Below w.heap.size w (wa.setCell ⟨N,k*4,none⟩ (.int .i64 (pu:Int))):=
     ⟨Jv,ak dB hcs.size,fun i hi=>((hok i hi).below bo).bJ hcs (fun q hq=> .inl (.inr hq)),(hb.trans (bo.mono hb.size)).trans (hcs.below (ay hb.size bo.size) (fun q hq e=>by omega))⟩
    have i5:=Cr.new wr (.int .i64 (u:Int)) y1 y2 y3;rw[iP]at i5;obtain⟨Ne,fG⟩:=xeq wr.heap.size;rw[fG]at i5;obtain⟨z0,z1,z2,z3,_⟩:=id i5;have c0':=(bo.cell (p:=⟨b,off+u,none⟩) hbl).trans c0;have GZ:wa.frozen? ⟨N,k*4,none⟩=false:=by rw[<-iP];exact(bI wr _).frozen (p:=⟨N,k*4,none⟩) hN|>.trans Cs
    have XA:wa.cell? ⟨N,k*4,none⟩=some (.int .i64 (u:Int)):=by rw[<-iP];exact((bI wr _).cell (p:=⟨N,k*4,none⟩) hN).trans a0
    have HWA:=ah iP;have HR:=ah hR;have ny:=ah fG;clear hc hrow hok ZM iW Jv bo hcs hR i5 iP fG ex eu Yi Yj Yk epu hb c0;go_upto_region 7 with fail
    rw[HWA.out,ny.out];clear a0 a1 a2 a3 Cs;go_wp2_with fail
    go_roundw
    case rel=>exact⟨k+1,by omega,by go_num,HR.out⟩
    case measure=>simp[intOf];omega
   ·obtain rfl:k=m:=by omega
    have iW:=hrow.congr (g:=fun i=>JZ p (f i)) (fun i hi=>by rw[if_pos hi])
    have hsort:=LH xI (w:=wr) (blk:=N) (off:=0) (cap:=c2) (n:=k) (d:=((List.range k).map fun i=>JZ p (f i)).toArray) (by simp) (fP.holds (by
     simp only[List.size_toArray,List.length_map,List.length_range];exact iW.congr fun i hi=>by simp[hi])) hN (by omega)
    have pM:=ah (ai iW (ai hN (ai hok hb)));clear hrow iW hN hok hb;go_wp2_with fail
    refine hsort.mono ?_;rintro e w4 ⟨rfl,kq,os,e4⟩;obtain⟨iW,hN,hok,hb⟩:=pM.out;obtain⟨f0,Wo,hperm,uK,mW,zO⟩:=pL iW hN e4;have hN4:N<w4.heap.size:=ak hN zO.size;have hb4:Below w.heap.size w w4:=hb.trans (zO.below hb.size (fun q hq e=>by omega))
    have ad7:∀i,i<k->(f0 i).ok w4 (fun q=>q<w.heap.size∨q=N) M:=fun i hi=>by
     obtain⟨j,hj,e⟩:=uK i hi;rw[e];exact(UU p (hok j hj)).bJ zO (fun q hq=> .inl (.inr hq))
    have LQ:=Bw.out.1
    have hnd:((dh k fun i=>JZ p (f i)).map Prod.fst).Nodup:=by
     have h1:(dh k fun i=>JZ p (f i)).map Prod.fst=(List.range k).map fun i=>p (f i).i:=by simp[dh,JZ,En.p]
     rw[h1];refine List.pairwise_map.2 ((List.pairwise_lt_range (n:=k)).imp_of_mem ?_);intro i j hi hj hij e;have hi':=List.mem_range.1 hi;have hj':=List.mem_range.1 hj;have e2:=ZX.out _ _ (Hv i hi') (Hv j hj') e;have h3:=LQ.jF i j (f i).p (f j).p hij (by rw[<-XF.out];exact dA hi') (by rw[<-XF.out];exact dA hj');have e3:(f i).p.1< (f j).p.1:=h3;exact absurd e2 (Nat.ne_of_lt e3)
    have ad8:((dh k f0).map Prod.fst).Nodup:=(hperm.map Prod.fst).nodup_iff.2 hnd
    have Z3:jo (dh k f0):=fun i j q r hij hq hr=>by
     have hi':=(aC.1 hq).1;have hj':=(aC.1 hr).1;rw[cN]at hi' hj';rw[dA hi']at hq;rw[dA hj']at hr;injection hq with hq
     injection hr with hr
     subst hq hr;have h1:=mW i j hij hj';rcases aN (f0 i).i (f0 j).i with h|h
     ·exact h
     ·exfalso;have h2:(f0 i).i=(f0 j).i:=Nat.le_antisymm h1 h;have h3:=(List.pairwise_iff_getElem.1 ad8) i j (by simpa [cN] using hi') (by simpa [cN] using hj') hij;simp[dh,En.p]at h3;exact h3 h2
    have SI:Can n (dh k f0):=⟨Z3,fun q hq=>by
     have CY:=hperm.mem_iff.1 hq;obtain⟨i,hi,rfl⟩:=List.mem_map.1 CY;exact HPL.out _ (Hv i (List.mem_range.1 hi)),fun q hq=>by
     have CY:=hperm.mem_iff.1 hq;obtain⟨i,hi,rfl⟩:=List.mem_map.1 CY;exact LQ.ne (f i).p (by rw[<-XF.out];exact List.mem_map.2 ⟨i,hi,rfl⟩)⟩
    have ad9:∀j,j<n->gv (dh k f0) (p j)=gv l j:=fun j hj=>by
     rw[yV hperm,ZV ZX.out Hv hj,XF.out,Bw.out.2]
    have mC:uP w4 w.heap.size (some ⟨N,0,none⟩) (dh k f0) M:=fun _=>⟨N,f0,rfl,JV,hN4,by rw[cN],fun i hi=>ad7 i (by rw[cN]at hi;exact hi),by rw[cN];exact Wo⟩;have HR:=ah (ai mC (ai SI (ai ad9 hb4)));clear hsort e4 iW hN hok hb Wo hperm uK mW zO hN4 hb4 ad7 LQ hnd ad8 Z3 SI ad9 mC pM;go_wp2_with fail
    go_ret2;refine⟨some ⟨N,0,none⟩,dh k f0,c2,by rw[cN];rfl,HR.out.1,by rw[cN];exact hc2,HR.out.2.1,HR.out.2.2.1,HR.out.2.2.2⟩
def ML(w:World)(D:Option Addr)(n:Nat)(A:Nat->List (Nat×Rat))(K:Nat):Prop:=
 0<n->∃b off,D=some ⟨b,off,none⟩/\b<w.heap.size/\∀i,i<n->∃Di ci,w.cell? ⟨b,off+i,none⟩=some (.slice Di (A i).length ci)/\((A i).length<=ci/\ci<=9223372036854775807)/\EL w Di (A i) K
theorem ML.below{w w':World}{D:Option Addr}{n:Nat}{A:Nat->List (Nat×Rat)}{K:Nat}(h:ML w D n A K)(hb:Below w.heap.size w w'):ML w' D n A K:=fun h0=>by
 obtain⟨b,off,rfl,h1,h2⟩:=h h0;refine⟨b,off,rfl,ak h1 hb.size,fun i hi=>?_⟩;obtain⟨Di,ci,h3,h4,h5⟩:=h2 i hi;exact⟨Di,ci,(hb.cell (p:=⟨b,off+i,none⟩) h1).trans h3,h4,h5.below hb⟩
theorem ML.mono{w:World}{D:Option Addr}{n:Nat}{A:Nat->List (Nat×Rat)}{K L:Nat}(h:ML w D n A K)(hk:K<=L):ML w D n A L:=fun h0=>by
 obtain⟨b,off,rfl,h1,h2⟩:=h h0;refine⟨b,off,rfl,h1,fun i hi=>?_⟩;obtain⟨Di,ci,h3,h4,h5⟩:=h2 i hi;exact⟨Di,ci,h3,h4,h5.mono hk⟩
def Ir(w:World)(lo:Nat)(D:Option Addr)(n:Nat)(A:Nat->List (Nat×Rat))(K:Nat):Prop:=
 ∃g V,D=some ⟨g,0,none⟩/\lo<=g/\dm w g 40 n V/\∀i,i<n->∃Di ci,V i= .slice Di (A i).length ci/\((A i).length<=ci/\ci<=9223372036854775807)/\uP w lo Di (A i) K
theorem Ir.bJ{P:Nat->Prop}{w w':World}{lo:Nat}{D:Option Addr}{n:Nat}{A:Nat->List (Nat×Rat)}{K:Nat}(h:Ir w lo D n A K)(hc:bw P w w')(hp:∀k,P k->k<lo):Ir w' lo D n A K:=by
 obtain⟨g,V,rfl,h1,h2,h3⟩:=h;refine⟨g,V,rfl,h1,h2.bJ hc (fun h=>by have:=hp _ h;omega),fun i hi=>?_⟩;obtain⟨Di,ci,h4,h5,h6⟩:=h3 i hi;exact⟨Di,ci,h4,h5,h6.bJ hc hp⟩
theorem Ir.below{w w':World}{lo:Nat}{D:Option Addr}{n:Nat}{A:Nat->List (Nat×Rat)}{K:Nat}(h:Ir w lo D n A K)(hb:Below w.heap.size w w'):Ir w' lo D n A K:=h.bJ (P:=fun _=>False) (bw.of hb) (fun _ h=>h.elim)
theorem Ir.lo{w:World}{lo lo':Nat}{D:Option Addr}{n:Nat}{A:Nat->List (Nat×Rat)}{K:Nat}(h:Ir w lo D n A K)(hl:lo'<=lo):Ir w lo' D n A K:=by
 obtain⟨g,V,rfl,h1,h2,h3⟩:=h;refine⟨g,V,rfl,by omega,h2,fun i hi=>?_⟩;obtain⟨Di,ci,h4,h5,h6⟩:=h3 i hi;exact⟨Di,ci,h4,h5,h6.lo hl⟩
theorem Ir.ml{w:World}{lo:Nat}{D:Option Addr}{n:Nat}{A:Nat->List (Nat×Rat)}{K:Nat}(h:Ir w lo D n A K):ML w D n A K:=fun _=>by
 obtain⟨g,V,rfl,h1,h2,h3⟩:=h;refine⟨g,0,rfl,h2.lt,fun i hi=>?_⟩;obtain⟨Di,ci,h4,h5,h6⟩:=h3 i hi;exact⟨Di,ci,by rw[Nat.zero_add,h2.cell hi,h4],h5,h6.el⟩
theorem rq{n:Nat}(hn:n<=16384)(w:World):Calls Tryz.prog 77 #[.int .i64 (n:Int)] w (fun e w'=>e= .returned (.bool true)/\w'=w):=by
 have h1:(0:Int)<=(n:Int):=by omega
 have h2:(n:Int)<=16384:=by omega
 go_enter Tryz.func77,Tryz.ntmps77
 go_wp2_with fail
 go_ret;exact⟨rfl,rfl⟩
theorem uQ{w:World}{D:Option Addr}{n m c K:Nat}{A:Nat->List (Nat×Rat)}(hn:n<=16384)(hm:m<=16384)(hl:ML w D n A K)(hcan:∀i,i<n->Can m (A i))(hK:K<=1099511627776):
 Calls Tryz.prog 73 #[.agg #[.int .i64 (n:Int), .int .i64 (m:Int), .slice D n c]] w (fun e w'=>e= .returned (.bool true)/\Below w.heap.size w w'):=by
 obtain⟨W,hW,bC,x0,x1,x2⟩:∃W,w.alloc (.cells #[.int .i64 (n:Int), .int .i64 (m:Int), .slice D n c] 34)=W/\Below w.heap.size w W/\W.cell? ⟨w.heap.size,0,none⟩=some (.int .i64 (n:Int))/\W.cell? ⟨w.heap.size,1,none⟩=some (.int .i64 (m:Int))/\W.cell? ⟨w.heap.size,2,none⟩=some (.slice D n c):=⟨_,rfl,bI _ _,by go_simp,by go_simp,by go_simp⟩;have ji:=aG W _ x0;have HW:=ah hW;replace hl:=hl.below bC;have hi1:=fun W'=>rq hn W';have hi2:=fun W'=>rq hm W';have n0:((n:Int) !=(n:Int))=false:=by simp
 clear hW;go_enter Tryz.func73,Tryz.ntmps73
 go_wp2_with fail
 rw[HW.out];clear HW;have h1:=hi1 W;have h2:=hi2 W;clear hi1 hi2;go_wp2_with fail
 refine h1.mono ?_;rintro e w1 ⟨rfl,e1⟩;subst e1;go_wp2_with fail
 refine h2.mono ?_;rintro e w2 ⟨rfl,e2⟩;subst e2;clear h1 h2;go_wp2_with fail
 go_loopw [26] (fun t wr=>∃k:Nat,k<=n/\t= .int .i64 (k:Int)/\Below w2.heap.size w2 wr) (fun t _=>n- (intOf t).toNat)
 case atStart=>exact⟨0,aF _,rfl,aq _ _⟩
 case round=>
  obtain⟨k,hk,rfl,hb⟩:=hrel;have y1:=(hb.cell (p:=⟨w.heap.size,1,none⟩) ji).trans x1;clear x0 x1 x2
  by_cases hlk:k<n
  ·obtain⟨b,off,rfl,hbl,hc⟩:=(hl.below hb) (by omega);obtain⟨Di,ci,c0,hci,hel⟩:=hc k hlk;have hv:=PA (c:=ci) hel (by have:=(hcan k hlk).len;omega) (hcan k hlk) hK;obtain⟨ln,Z5⟩:=xeq ((A k).length);rw[Z5]at c0 hv;have i0:(0:Int)<=(k:Int):=by omega
   have i1:(k:Int)<n:=by omega
   clear hc hel hl hcan Z5 hci;go_wp2_with fail
   refine hv.mono ?_;rintro e w3 ⟨rfl,g3⟩;have fq:=hb.trans (g3.mono hb.size);clear hv;go_wp2_with fail
   go_roundw
   case rel=>exact⟨k+1,by omega,by go_num,fq⟩
   case measure=>simp[intOf];omega
  ·obtain rfl:k=n:=by omega
   have HB:=ah (bC.trans (hb.mono bC.size));clear hl hcan y1;go_wp2_with fail
   go_ret;exact⟨rfl,HB.out⟩
theorem cK.jJ(w:World)(T:TypeId)(b s t:Value):cK (w.alloc (.cells #[b,s,t] T)) w.heap.size b s t:=by
 refine⟨?_,?_,?_,?_,?_,?_⟩<;>go_simp
theorem PJ:(Tryz.prog.info? 40).map (fun i=>(i.zero,i.size,i.bytes))=some (some (.slice none 0 0),1,24):=by kernel_rfl
theorem mD(z:Int)(n:Nat)(hz:z=(n:Int))(hn:n<=1073741824)(u:World):
 (Instr.makeSlice 32 (.int .i64 z) (.int .i64 z)).run Tryz.prog u= .ok (.slice (some ⟨u.heap.size,0,none⟩) n n) (u.alloc (.cells ((List.range n).map fun _=>Value.slice none 0 0).toArray 40)):=by
 obtain⟨i0,hi,hz0,hz1,hz2⟩:=info_parts PJ;subst hz;have h:=run_make (P:=Tryz.prog) u 32 40 i0 (.slice none 0 0) Tryz.underlying32 hi hz0 .i64 .i64 (n:Int) (n:Int) (by omega) (Int.le_refl _) (by rw[hz2];omega) (by omega);simp only[Int.toNat_natCast]at h
 have e:madeCells (Value.slice none 0 0).cells (n*i0.size)=((List.range n).map fun _=>Value.slice none 0 0).toArray:=by
  rw[hz1];simp only[madeCells,Value.cells];apply Array.ext
  ·simp
  ·intro i h1 h2;simp[Nat.mod_one]
 rw[e]at h;exact h
theorem PK{w:World}{n m:Nat}(hn:n<=16384):
 Calls Tryz.prog 78 #[.int .i64 (n:Int), .int .i64 (m:Int)] w (fun e w'=>∃g,e= .returned (.agg #[.int .i64 (n:Int), .int .i64 (m:Int), .slice (some ⟨g,0,none⟩) n n])/\w.heap.size<=g/\dm w' g 40 n (fun _=> .slice none 0 0)/\Below w.heap.size w w'):=by
 have hmk:=mD (n:Int) n rfl (by omega);obtain⟨W,hW,bC,ir⟩:∃W,w.alloc (.cells #[.int .i64 0, .int .i64 0, .slice none 0 0] 34)=W/\Below w.heap.size w W/\cK W w.heap.size (.int .i64 0) (.int .i64 0) (.slice none 0 0):=⟨_,rfl,bI _ _,cK.jJ _ _ _ _ _⟩;obtain⟨r0,r1,r2,f0,f1,f2⟩:=id ir;have ji:=ir.lt;have HW:=ah hW;clear hW;have hv:=dm.new W 40 n (fun _=> .slice none 0 0);have hb2:=bI W (.cells ((List.range n).map fun _=>Value.slice none 0 0).toArray 40);have hne:W.heap.size≠w.heap.size:=by omega
 obtain⟨W2,Ki⟩:=xeq (W.alloc (.cells ((List.range n).map fun _=>Value.slice none 0 0).toArray 40));rw[Ki]at hv hb2;obtain⟨r0,r1,r2,f0,f1,f2⟩:=ir.keep hb2;obtain⟨N,eN⟩:=xeq W.heap.size;have aob:=hmk W;rw[Ki,eN]at aob;rw[eN]at hv hne;clear hmk
 have hcs:bw (·=w.heap.size) W2 (((W2.setCell ⟨w.heap.size,0,none⟩ (.int .i64 (n:Int))).setCell ⟨w.heap.size,1,none⟩ (.int .i64 (m:Int))).setCell ⟨w.heap.size,2,none⟩ (.slice (some ⟨N,0,none⟩) n n)):=
  ((bw.set (P:=(·=w.heap.size)) (p:=⟨w.heap.size,0,none⟩) rfl _ _).trans (bw.set (P:=(·=w.heap.size)) (p:=⟨w.heap.size,1,none⟩) rfl _ _)).trans (bw.set (P:=(·=w.heap.size)) (p:=⟨w.heap.size,2,none⟩) rfl _ _)
 have hR:w.heap.size<=N/\dm (((W2.setCell ⟨w.heap.size,0,none⟩ (.int .i64 (n:Int))).setCell ⟨w.heap.size,1,none⟩ (.int .i64 (m:Int))).setCell ⟨w.heap.size,2,none⟩ (.slice (some ⟨N,0,none⟩) n n)) N 40 n (fun _=> .slice none 0 0)/\Below w.heap.size w (((W2.setCell ⟨w.heap.size,0,none⟩ (.int .i64 (n:Int))).setCell ⟨w.heap.size,1,none⟩ (.int .i64 (m:Int))).setCell ⟨w.heap.size,2,none⟩ (.slice (some ⟨N,0,none⟩) n n)):=
  ⟨by omega,hv.bJ hcs hne,(bC.trans (hb2.mono bC.size)).trans (hcs.below (by have:=bC.size;have:=hb2.size;omega) (fun k hk e=>by omega))⟩
 have HR:=ah hR;clear hR hcs hv hb2 Ki eN;go_enter Tryz.func78,Tryz.ntmps78
 go_upto_region 1 with fail
 rw[HW.out];go_wp2_with fail
 exact bodyPost_ret (v:= .agg #[.int .i64 (n:Int), .int .i64 (m:Int), .slice (some ⟨N,0,none⟩) n n]) (by simp[results,Tryz.results78,go_sem,r0,r1,r2]) rfl ⟨N,rfl,HR.out⟩
theorem UY:Bg 80:=by
 refine⟨enters_of Tryz.func80 (by kernel_rfl) rfl,fun x y W=>?_⟩;have LF:=fun W'=>RS (x.i:Int) (y.i:Int) W';unfold pK;generalize Lib.compareInt (x.i:Int) (y.i:Int)=r at LF⊢;unfold En.enc;go_enter Tryz.func80,Tryz.ntmps80
 go_wp2_with (first|(refine(LF _).mono ?_;rintro e w' ⟨rfl,rfl⟩))
 go_ret;exact⟨rfl,0,_,by rw[alloc_eq_grow,alloc_eq_grow,grow_grow];rfl⟩
theorem PO{g:Nat}(hg:Bg g){w:World}{lo:Nat}{v:Value}{r:List (Nat×Rat)}{K:Nat}(h:EO w lo v r K)(hm:r.length<=12):
 Calls Tryz.prog 79 #[v, .func (.func g) #[] #[]] w fun e w'=>e= .returned (.tuple #[])/\∃D c r',v= .slice D r'.length c/\(r'.length<=c/\c<=9223372036854775807)/\r'.Perm r/\(∀(i j:Nat) (p q:Nat×Rat),i<j->r'[i]?=some p->r'[j]?=some q->p.1<=q.1)/\uP w' lo D r' K/\Below lo w w':=by
 obtain⟨D,c,rfl,hc,mC⟩:=h.sF;rcases aM r.length with h0|h0
 ·obtain rfl:r=[]:=List.eq_nil_of_length_eq_zero h0;refine Bh.mono ?_;rintro e w' ⟨rfl,rfl⟩;exact⟨rfl,D,c,[],rfl,hc,List.Perm.refl _,fun i j p q _ hp=>by simp at hp,mC,aq _ _⟩
 ·obtain⟨N,f,rfl,JV,hN,hlf,hok,hrow⟩:=mC h0;obtain⟨m,em⟩:=xeq r.length;rw[em]at hc hlf hok hrow hm⊢
  have hsort:=LH hg (w:=w) (blk:=N) (off:=0) (cap:=c) (n:=m) (d:=((List.range m).map f).toArray) (by simp) (fP.holds (by
   simp only[List.size_toArray,List.length_map,List.length_range];exact hrow.congr fun i hi=>by simp[hi])) hN hm
  refine hsort.mono ?_;rintro e w' ⟨rfl,kq,os,e4⟩;obtain⟨f0,Wo,hperm,uK,mW,zO⟩:=pL hrow hN e4;refine⟨rfl,some ⟨N,0,none⟩,c,dh m f0,by rw[cN],by rw[cN];exact hc,by rw[<-hlf];exact hperm,fun i j p q hij hp hq=>?_,fun _=>⟨N,f0,rfl,JV,ak hN zO.size,by rw[cN],fun i hi=>?_,by rw[cN];exact Wo⟩,zO.below (by omega) (fun k hk e=>by omega)⟩
  ·have hi':=(aC.1 hp).1;have hj':=(aC.1 hq).1;rw[cN]at hi' hj';rw[dA hi']at hp;rw[dA hj']at hq;injection hp with hp
   injection hq with hq
   subst hp hq;exact mW i j hij hj'
  ·rw[cN]at hi;obtain⟨j,hj,e⟩:=uK i hi;rw[e];exact(hok j hj).bJ zO (fun q hq=> .inl (.inr hq))
theorem LR{n:Nat}(w:World):Calls Tryz.prog 74 #[.int .i64 (n:Int)] w (fun e w'=>∃q,e= .returned (.func (.func 75) #[] #[.pointer (some ⟨q,0,none⟩)])/\w'.cell? ⟨q,0,none⟩=some (.int .i64 (n:Int))/\q<w'.heap.size/\Below w.heap.size w w'):=by
 have hb:=bI w (.cells #[.int .i64 (n:Int)] 3);go_enter Tryz.func74,Tryz.ntmps74
 go_wp2_with fail
 go_ret;exact⟨_,rfl,by go_simp,by go_simp,hb⟩
theorem PS{w:World}{n i q:Nat}(hq:w.cell? ⟨q,0,none⟩=some (.int .i64 (n:Int)))(hi:i<n):Calls Tryz.prog 75 #[.int .i64 (i:Int), .pointer (some ⟨q,0,none⟩)] w (fun e w'=>e= .returned (.bool false)/\Below w.heap.size w w'):=by
 have h1:¬(i:Int)<0:=by omega
 have h2:¬(n:Int)<=(i:Int):=by omega
 go_enter Tryz.func75,Tryz.ntmps75
 go_wp2_with fail
 go_ret;exact⟨rfl,aq _ _⟩
theorem Bx{w:World}{D:Option Addr}{m n c q:Nat}{x:Nat->Nat}(hm:m<=1073741824)(hx:IL w D m x)(hq:w.cell? ⟨q,0,none⟩=some (.int .i64 (n:Int)))(rO:q<w.heap.size)(hn:∀i,i<m->x i<n):
 Calls Tryz.prog 76 #[.slice D m c, .func (.func 75) #[] #[.pointer (some ⟨q,0,none⟩)]] w (fun e w'=>e= .returned (.bool false)/\Below w.heap.size w w'):=by
 have hi:=Au (c:=c) (p:= .pointer (some ⟨q,0,none⟩)) (Q:=fun _=>false) hm hx (enters_of Tryz.func75 (by kernel_rfl) rfl) (fun wr i hi hb=>PS ((hb.cell (p:=⟨q,0,none⟩) rO).trans hq) (hn i hi));clear hx hq;go_enter Tryz.func76,Tryz.ntmps76
 go_wp2_with fail
 refine hi.mono ?_;rintro e w1 ⟨r,rfl,hr,g1⟩;obtain⟨rfl,_⟩|⟨i,_,_,h,_⟩:=hr
 ·clear hi;go_wp2_with fail
  go_ret;exact⟨rfl,g1⟩
 ·cases h
def lW(ix:Nat->Option Nat):List (Nat×Rat)->List (Nat×Rat)
 |[]=>[]
 |p::l=>(match ix p.1 with|some i=>[(i,p.2)]|none=>[])++lW ix l
theorem BB(ix:Nat->Option Nat)(m:List (Nat×Rat)):∀l,lW ix (l++m)=lW ix l++lW ix m
 |[]=>rfl
 |p::l=>by show _++lW ix (l++m)=_;rw[BB ix m l,<-List.append_assoc];rfl
theorem Iw{ix:Nat->Option Nat}{l:List (Nat×Rat)}{q:Nat}{p:Nat×Rat}(hp:l[q]?=some p):lW ix (l.take (q+1))=lW ix (l.take q)++ (match ix p.1 with|some i=>[(i,p.2)]|none=>[]):=by
 have h1:l.take (q+1)=l.take q++ [p]:=by
  rw[List.take_add_one,hp];rfl
 rw[h1,BB]
 show _++ (_++lW ix [])=_
 rw[show lW ix []=[]from rfl,List.append_nil]
theorem uR(ix:Nat->Option Nat):∀l,(lW ix l).length<=l.length
 |[]=>aj _
 |p::l=>by
  have:=uR ix l
  show((match ix p.1 with|some i=>[(i,p.2)]|none=>[])++lW ix l).length<=_
  cases ix p.1<;>simp<;>omega
structure Ix(n:Nat)(x:Nat->Nat)(ix:Nat->Option Nat):Prop where
 yes:∀i,i<n->ix (x i)=some i
 no:∀j i,ix j=some i->i<n/\x i=j
theorem qy{n:Nat}{x:Nat->Nat}{ix:Nat->Option Nat}(h:Ix n x ix):∀{l:List (Nat×Rat)} {q:Nat×Rat},q∈lW ix l->q.1<n/\(x q.1,q.2)∈l
 |[],q,hq=>by cases hq
 |p::l,q,hq=>by
  have hq':q∈(match ix p.1 with|some i=>[(i,p.2)]|none=>[])++lW ix l:=hq;rcases List.mem_append.1 hq' with h1|h1
  ·cases e:ix p.1 with
   |none=>rw[e]at h1;cases h1
   |some i=>
    rw[e]at h1;simp at h1;subst h1;obtain⟨h2,h3⟩:=h.no _ _ e;exact⟨h2,by simp[h3]⟩
  ·obtain⟨h2,h3⟩:=qy h h1;exact⟨h2,by simp[h3]⟩
theorem Gq{n:Nat}{x:Nat->Nat}{ix:Nat->Option Nat}(h:Ix n x ix){j:Nat}(hj:j<n):∀l,gv (lW ix l) j=gv l (x j)
 |[]=>rfl
 |p::l=>by
  show gv ((match ix p.1 with|some i=>[(i,p.2)]|none=>[])++lW ix l) j=(if p.1=x j then p.2 else 0)+gv l (x j)
  rw[fJ,Gq h hj l]
  congr 1
  cases e:ix p.1 with
  |none=>
   rw[if_neg (fun e2=>by rw[e2,h.yes j hj]at e;cases e)]
   rfl
  |some i=>
   obtain⟨h2,h3⟩:=h.no _ _ e
   show(if i=j then p.2 else 0)+0=_
   rw[Rat.add_zero]
   by_cases e2:i=j
   ·subst e2;rw[if_pos rfl,if_pos h3.symm]
   ·rw[if_neg e2,if_neg (fun e3=>e2 (by have:=h.yes j hj;rw[<-e3,e]at this;injection this))]
theorem zk{n:Nat}{x:Nat->Nat}{ix:Nat->Option Nat}(h:Ix n x ix):∀{l:List (Nat×Rat)},(l.map Prod.fst).Nodup->((lW ix l).map Prod.fst).Nodup
 |[],_=>List.nodup_nil
 |p::l,hd=>by
  rw[List.map_cons,List.nodup_cons]at hd
  show(((match ix p.1 with|some i=>[(i,p.2)]|none=>[])++lW ix l).map Prod.fst).Nodup
  cases e:ix p.1 with
  |none=>exact zk h hd.2
  |some i=>
   show(i::(lW ix l).map Prod.fst).Nodup
   rw[List.nodup_cons];refine⟨fun hm=>?_,zk h hd.2⟩;obtain⟨q,hq,rfl⟩:=List.mem_map.1 hm;obtain⟨_,h3⟩:=qy h hq;exact hd.1 (List.mem_map.2 ⟨_,h3,(h.no _ _ e).2⟩)
theorem jo.nd{l:List (Nat×Rat)}(h:jo l):(l.map Prod.fst).Nodup:=by
 refine List.pairwise_iff_getElem.2 fun i j hi hj hij=>?_;simp only[List.getElem_map];have:=h i j _ _ hij (aB (by simpa using hi)) (aB (by simpa using hj));exact Nat.ne_of_lt this
theorem UZ{l:List (Nat×Rat)}(h1:∀(i j:Nat) (p q:Nat×Rat),i<j->l[i]?=some p->l[j]?=some q->p.1<=q.1)(h2:(l.map Prod.fst).Nodup):jo l:=fun i j p q hij hp hq=>by
 have hi:=(aC.1 hp).1;have hj:=(aC.1 hq).1;have h3:=h1 i j p q hij hp hq;have h4:=(List.pairwise_iff_getElem.1 h2) i j (by simpa using hi) (by simpa using hj) hij;simp only[List.getElem_map]at h4;rw[aB hi]at hp;rw[aB hj]at hq;injection hp with hp
 injection hq with hq
 rw[hp,hq]at h4;omega
theorem BD{n m:Nat}{x:Nat->Nat}{ix:Nat->Option Nat}(h:Ix n x ix){l r:List (Nat×Rat)}(hl:Can m l)(hp:r.Perm (lW ix l))(hs:∀(i j:Nat) (p q:Nat×Rat),i<j->r[i]?=some p->r[j]?=some q->p.1<=q.1):Can n r/\∀j,j<n->gv r j=gv l (x j):=by
 have hnd:(r.map Prod.fst).Nodup:=(hp.map Prod.fst).nodup_iff.2 (zk h hl.jF.nd);refine⟨⟨UZ hs hnd,fun q hq=>(qy h (hp.mem_iff.1 hq)).1,fun q hq=>hl.ne (x q.1,q.2) (qy h (hp.mem_iff.1 hq)).2⟩,fun j hj=>by rw[yV hp,Gq h hj]⟩
end Go.Proofs.YtkmpoleajjgfaaaGreat
