/- Parts of the proof, in order. -/
import Derived.Test.YtkmpoleajjgfaaaGreatQ4
import Derived.Deep.AppendLies
import Derived.StillTailTactics
import Derived.Deep.CutBlock
import Derived.Deep.DeepCutAuto
import Derived.Lib.SliceRun
import Derived.Maps.OwnOps
import Derived.Maps.Views
namespace Go.Proofs.YtkmpoleajjgfaaaGreat
open Go.RowKit Gm
set_option maxRecDepth 100000
set_option maxHeartbeats 16000000
def dm(w:World)(g:Nat)(T:TypeId)(n:Nat)(V:Nat->Value):Prop:=w.heap[g]?=some (.cells ((List.range n).map V).toArray T (0,0))
section
variable {w w':World}{g n:Nat}{T:TypeId}{V:Nat->Value}
theorem dm.lt(h:dm w g T n V):g<w.heap.size:=by
 rcases aN g w.heap.size with hlt|hge
 ·exact hlt
 ·unfold dm at h;rw[Array.getElem?_eq_none hge]at h;cases h
theorem dm.cell(h:dm w g T n V){i:Nat}(hi:i<n):w.cell? ⟨g,i,none⟩=some (V i):=by
 rw[aT w g i _ _ (0,0) h];simp[hi]
theorem dm.frozen(h:dm w g T n V)(i:Nat):w.frozen? ⟨g,i,none⟩=false:=by
 unfold dm at h;simp[World.frozen?,h]
theorem dm.congr(h:dm w g T n V){U:Nat->Value}(e:∀i,i<n->V i=U i):dm w g T n U:=by
 unfold dm at h⊢;rw[h]
 congr 3
 apply List.map_congr_left;intro i hi;exact e i (List.mem_range.1 hi)
theorem dm.new(w:World)(T:TypeId)(n:Nat)(V:Nat->Value):dm (w.alloc (.cells ((List.range n).map V).toArray T)) w.heap.size T n V:=aS w _
theorem dm.bJ{P:Nat->Prop}(h:dm w g T n V)(hc:bw P w w')(hg:¬P g):dm w' g T n V:=(hc.block g h.lt hg).trans h
theorem dm.set(h:dm w g T n V)(i:Nat)(v:Value):dm (w.setCell ⟨g,i,none⟩ v) g T n (bE V i v):=by
 unfold dm at h⊢
 have e:(((List.range n).map V).toArray).setIfInBounds i v=((List.range n).map (bE V i v)).toArray:=by
  rw[List.setIfInBounds_toArray]
  congr 1
  apply List.ext_getElem
  ·simp
  ·intro j h1 h2;rw[List.getElem_set];simp only[List.getElem_map,List.getElem_range,bE]
   by_cases h:i=j
   ·subst h;rw[if_pos rfl];try exact(if_pos rfl).symm
   ·rw[if_neg h];exact(if_neg fun e=>h e.symm).symm
 rw[<-e];simp[World.setCell,Array.getElem?_modify,h]
end
theorem bw.grown{w w':World}{v:Value}(h:w.grownBy w' v.ownBlock):bw (fun k=>some k=v.ownBlock) w w':=⟨h.os,h.tape,h.output,h.size,fun k hk hp=>h.block k hk hp⟩
theorem bL{P:Nat->Prop}{w w':World}{lo size n:Nat}{e:TypeId}{v:Value}{xs:List Value}(h:w.ownsRow lo e size v n xs)(hc:bw P w w')(hg:∀k,v.ownBlock=some k->¬P k):w'.ownsRow lo e size v n xs:=by
 obtain⟨h1,h2|⟨g,cap,cur,rfl,hb,hh,h3⟩⟩:=h
 ·exact⟨h1, .inl h2⟩
 ·exact⟨h1, .inr ⟨g,cap,cur,rfl,hb,(hc.block g (au.1 hh).1 (hg g rfl)).trans hh,h3⟩⟩
structure vY(w:World)(lo g n:Nat)(T e:TypeId)(size:Nat)(V:Nat->Value)(c:Nat->Nat)(L:Nat->List Value):Prop where
 row:dm w g T n V
 own:∀i,i<n->w.ownsRow lo e size (V i) (c i) (L i)
 out:∀i,i<n->(V i).ownBlock≠some g
 apart:∀i j,i<n->j<n->i≠j->∀k,(V i).ownBlock=some k->(V j).ownBlock≠some k
 lo:lo<=g
section
variable {w w':World}{lo g n size:Nat}{T e:TypeId}{V:Nat->Value}{c:Nat->Nat}{L:Nat->List Value}
def iq(g n:Nat)(V:Nat->Value)(k:Nat):Prop:=k=g∨∃i,i<n/\(V i).ownBlock=some k
theorem vY.ge(h:vY w lo g n T e size V c L){k:Nat}(hk:iq g n V k):lo<=k/\k<w.heap.size:=by
 rcases hk with rfl|⟨i,hi,hk⟩
 ·exact⟨h.lo,h.row.lt⟩
 ·exact(h.own i hi).lt k hk
theorem vY.bJ{P:Nat->Prop}(h:vY w lo g n T e size V c L)(hc:bw P w w')(hg:∀k,iq g n V k->¬P k):vY w' lo g n T e size V c L where
 row:=h.row.bJ hc (hg g (.inl rfl))
 own:=fun i hi=>bL (h.own i hi) hc fun k hk=>hg k (.inr ⟨i,hi,hk⟩)
 out:=h.out
 apart:=h.apart
 lo:=h.lo
theorem vY.new(w:World)(lo n:Nat)(T e:TypeId)(size:Nat)(hl:lo<=w.heap.size):vY (w.alloc (.cells ((List.range n).map fun _=>Value.slice none 0 0).toArray T)) lo w.heap.size n T e size (fun _=> .slice none 0 0) (fun _=>0) (fun _=>[]) where
 row:=dm.new w T n _
 own:=fun i _=>World.ownsRow_nil _ _ _ _
 out:=fun i _=>by simp[Value.ownBlock]
 apart:=fun i j _ _ _ k hk=>by simp[Value.ownBlock]at hk
 lo:=hl
theorem vY.grow(h:vY w lo g n T e size V c L){i m:Nat}(hi:i<n){v':Value}{news:List Value}{w1:World}(h1:w1.ownsRow lo e size v' (c i+m) (L i++news))(hg:w.grownBy w1 (V i).ownBlock)(hv:v'.ownBlock=(V i).ownBlock∨v'.ownBlock=none∨∃k,v'.ownBlock=some k/\w.heap.size<=k):
 vY (w1.setCell ⟨g,i,none⟩ v') lo g n T e size (bE V i v') (bE c i (c i+m)) (bE L i (L i++news))/\bw (iq g n V) w (w1.setCell ⟨g,i,none⟩ v'):=by
 have hc:=bw.grown hg;have hr1:=h.row.bJ hc fun e=>h.out i hi e.symm;have hs:bw (·=g) w1 (w1.setCell ⟨g,i,none⟩ v'):=bw.set (P:=(·=g)) (p:=⟨g,i,none⟩) rfl _ _
 have nb:∀k,v'.ownBlock=some k->k≠g/\∀j,j<n->j≠i->(V j).ownBlock≠some k:=by
  intro k hk;rcases hv with e|e|⟨k',e,hk'⟩
  ·rw[e]at hk;exact⟨fun e2=>h.out i hi (by rw[hk,e2]),fun j hj hji e2=>h.apart i j hi hj (fun e3=>hji e3.symm) k hk e2⟩
  ·rw[e]at hk;cases hk
  ·rw[e]at hk;injection hk with hk
   subst hk;exact⟨by have:=h.row.lt;omega,fun j hj _ e2=>by have:=((h.own j hj).lt _ e2).2;omega⟩
 refine⟨⟨hr1.set i v',fun j hj=>?_,fun j hj=>?_,fun j l hj hl hjl k=>?_,h.lo⟩,?_⟩
 ·by_cases e:j=i
  ·subst e;rw[aW,aW,aW];exact bL h1 hs fun k hk e2=>(nb k hk).1 e2
  ·rw[bk _ _ e,bk _ _ e,bk _ _ e];exact bL (bL (h.own j hj) hc fun k hk e2=>h.apart j i hj hi e k hk e2.symm) hs fun k hk e2=>h.out j hj (by rw[hk,e2])
 ·by_cases e:j=i
  ·subst e;rw[aW];exact fun e2=>(nb g e2).1 rfl
  ·rw[bk _ _ e];exact h.out j hj
 ·by_cases e:j=i
  ·subst e;rw[aW,bk _ _ (fun e=>hjl e.symm)];exact fun hk e2=>(nb k hk).2 l hl (fun e=>hjl e.symm) e2
  ·rw[bk _ _ e]
   by_cases e3:l=i
   ·subst e3;rw[aW];exact fun hk e2=>(nb k e2).2 j hj e hk
   ·rw[bk _ _ e3];exact h.apart j l hj hl hjl k
 ·exact(hc.mono (fun k _ hk=> .inr ⟨i,hi,hk.symm⟩)).trans (hs.mono fun k _ hk=> .inl hk)
end
def nj(l:Nat->Nat×Nat)(k:Nat):Bool:=decide (uf l k (l k).1≠uf l k (l k).2)
def dJ(l:Nat->Nat×Nat):Nat->List Nat
 |0=>[]
 |k+1=>if nj l k then dJ l k++ [k]else dJ l k
def oP(l:Nat->Nat×Nat):Nat->Nat->List (Nat×Nat)
 |0,_=>[]
 |k+1,b=>if nj l k then bE (bE (oP l k) (l k).1 (oP l k (l k).1++ [(k,(l k).2)])) (l k).2 (bE (oP l k) (l k).1 (oP l k (l k).1++ [(k,(l k).2)]) (l k).2++ [(k,(l k).1)]) b else oP l k b
def dK(ps:List (Nat×Nat)):List Value:=ps.flatMap fun p=>[Value.int .i64 (p.1:Int),Value.int .i64 (p.2:Int)]
def cH(xs:List Nat):List Value:=xs.map fun x:Nat=>Value.int .i64 (x:Int)
theorem Dc(a b:List (Nat×Nat)):dK (a++b)=dK a++dK b:=by simp[dK]
theorem Dd(a:List (Nat×Nat)):(dK a).length=a.length*2:=by
 induction a with
 |nil=>rfl
 |cons x a ih=>
  have e:dK (x::a)=[Value.int .i64 (x.1:Int),Value.int .i64 (x.2:Int)]++dK a:=rfl;rw[e,List.length_append,ih];simp;omega
theorem FH(l:Nat->Nat×Nat)(k:Nat):(dJ l k).length<=k:=by
 induction k with
 |zero=>exact aj _
 |succ k ih=>
  unfold dJ;split
  ·simp;omega
  ·omega
theorem FI(l:Nat->Nat×Nat)(k:Nat):∀b,(oP l k b).length<=2*k:=by
 induction k with
 |zero=>intro b;exact aj _
 |succ k ih=>
  intro b;unfold oP;split
  ·unfold bE;have h1:=ih b;have h2:=ih (l k).1;have h3:=ih (l k).2;split
   ·split<;>simp<;>omega
   ·split
    ·simp;omega
    ·omega
  ·have:=ih b;omega
theorem fH:Tryz.prog.info? 63=some (((Tryz.prog.info? 63).getD default))/\(((Tryz.prog.info? 63).getD default)).zero=some (.agg #[.int .i64 0, .int .i64 0])/\(((Tryz.prog.info? 63).getD default)).size=2/\(((Tryz.prog.info? 63).getD default)).bytes=16:=by
 refine⟨?_,?_,?_,?_⟩<;>kernel_rfl
theorem sN:Tryz.prog.info? 3=some (((Tryz.prog.info? 3).getD default))/\(((Tryz.prog.info? 3).getD default)).zero=some (.int .i64 0)/\(((Tryz.prog.info? 3).getD default)).size=1/\(((Tryz.prog.info? 3).getD default)).bytes=8:=by
 refine⟨?_,?_,?_,?_⟩<;>kernel_rfl
theorem mP{w:World}{ops:Array Oper}{rest:List Oper}{o:Oper}{a:Act}{Q:Exit->Act->World->Prop}(hgd:o.guard=none)(s x:Operand)(ho:o.op= .call {callee:= .builtin .append,args:=#[s,x],argTypes:=#[22,22]}){lo n:Nat}{v:Value}{xs:List Value}(hs:a.eval s=v)(hown:w.ownsRow lo 3 1 v n xs){B:Nat}{k:Int}(hx:a.eval x= .slice (some ⟨B,0,none⟩) 1 1)(hb:w.heap[B]?=some (.cells #[.int .i64 k] 3 (0,0)))(hn:n<=1073741824)(hlo:lo<=w.heap.size)
 (h:∀g cap w',w'.ownsRow lo 3 1 (.slice (some ⟨g,0,none⟩) (n+1) cap) (n+1) (xs++ [.int .i64 k])->w.grownBy w' v.ownBlock->(v.ownBlock=some g∨g=w.heap.size)->g<w'.heap.size->wpList Tryz.prog ops Q rest (a.put o.dst (.slice (some ⟨g,0,none⟩) (n+1) cap)) w'):wpList Tryz.prog ops Q (o::rest) a w:=
 wpList_append_lies w hgd s x 22 ho lo 3 _ (.int .i64 0) 1 8 Tryz.underlying22 sN.1 sN.2.1 sN.2.2.1 sN.2.2.2 rfl (by decide) v n xs hs hown ⟨B,0,none⟩ 1 1 [.int .i64 k] hx rfl (World.news_of_block hb) (by simp[Value.oneCell']) (by decide) (by simp only[maxLen];omega) (by omega) hlo w.heap.size rfl h
theorem Dh{w:World}{ops:Array Oper}{rest:List Oper}{o:Oper}{a:Act}{Q:Exit->Act->World->Prop}(hgd:o.guard=none)(s x:Operand)(ho:o.op= .call {callee:= .builtin .append,args:=#[s,x],argTypes:=#[30,30]}){lo n:Nat}{v:Value}{xs:List Value}(hs:a.eval s=v)(hown:w.ownsRow lo 63 2 v n xs){B:Nat}{k l:Int}(hx:a.eval x= .slice (some ⟨B,0,none⟩) 1 1)(hb:w.heap[B]?=some (.cells #[.int .i64 k, .int .i64 l] 63 (0,0)))(hn:n<=1073741824)(hlo:lo<=w.heap.size)
 (h:∀g cap w',w'.ownsRow lo 63 2 (.slice (some ⟨g,0,none⟩) (n+1) cap) (n+1) (xs++ [.int .i64 k, .int .i64 l])->w.grownBy w' v.ownBlock->(v.ownBlock=some g∨g=w.heap.size)->g<w'.heap.size->wpList Tryz.prog ops Q rest (a.put o.dst (.slice (some ⟨g,0,none⟩) (n+1) cap)) w'):wpList Tryz.prog ops Q (o::rest) a w:=
 wpList_append_lies w hgd s x 30 ho lo 63 _ (.agg #[.int .i64 0, .int .i64 0]) 2 16 Tryz.underlying30 fH.1 fH.2.1 fH.2.2.1 fH.2.2.2 rfl (by decide) v n xs hs hown ⟨B,0,none⟩ 1 1 [.int .i64 k, .int .i64 l] hx rfl (World.news_of_block hb) (by simp[Value.oneCell']) (by decide) (by simp only[maxLen];omega) (by omega) hlo w.heap.size rfl h
theorem Oy:(Tryz.prog.info? 30).map (fun i=>(i.zero,i.size,i.bytes))=some (some (.slice none 0 0),1,24):=by kernel_rfl
theorem Hj(n sz:Nat)(h:sz=1):madeCells (Value.slice none 0 0).cells (n*sz)=((List.range n).map fun _=>Value.slice none 0 0).toArray:=by
 subst h;simp only[madeCells,Value.cells];apply Array.ext
 ·simp
 ·intro i h1 h2;simp[Nat.mod_one]
theorem Oz(z:Int)(n:Nat)(hz:z=(n:Int))(hn:n<=1073741824)(u:World):
 (Instr.makeSlice 58 (.int .i64 z) (.int .i64 z)).run Tryz.prog u= .ok (.slice (some ⟨u.heap.size,0,none⟩) n n) (u.alloc (.cells ((List.range n).map fun _=>Value.slice none 0 0).toArray 30)):=by
 obtain⟨i0,hi,hz0,hz1,hz2⟩:=info_parts Oy;subst hz;have h:=run_make (P:=Tryz.prog) u 58 30 i0 (.slice none 0 0) Tryz.underlying58 hi hz0 .i64 .i64 (n:Int) (n:Int) (by omega) (Int.le_refl _) (by rw[hz2];omega) (by omega);simp only[Int.toNat_natCast]at h;rw[Hj _ _ hz1]at h;exact h
structure tW(w:World)(g n:Nat)(X:Nat->Prop)(ρ:Nat->Nat)(F:List Nat)(v:Value)(A:Nat->List (Nat×Nat))(wr:World):Prop where
 sets:Sets wr w.heap.size n ρ
 fF:∃V d,vY wr w.heap.size g n 30 63 2 V d (fun b=>dK (A b))/\(∀b,b<n->d b=(A b).length)/\(∀i,i<n->∀k,X k->(V i).ownBlock≠some k)/\∀i,i<n->(V i).ownBlock=none∨(V i).ownBlock≠v.ownBlock
 own:wr.ownsRow w.heap.size 3 1 v F.length (cH F)
 v0:∀k,X k->v.ownBlock≠some k
 vg:v.ownBlock≠some g
 x0:X w.heap.size
 xl:∀k,X k->k<wr.heap.size/\k≠g
 mH:Below w.heap.size w wr
section
variable {w wr w':World}{g n:Nat}{X:Nat->Prop}{ρ ρ':Nat->Nat}{F:List Nat}{v v':Value}{A:Nat->List (Nat×Nat)}
theorem tW.bJ{P:Nat->Prop}(h:tW w g n X ρ F v A wr)(hc:bw P wr w')(hP:∀k,k<wr.heap.size->¬P k):tW w g n X ρ F v A w':=by
 obtain⟨h1,⟨V,d,h2,h3⟩,h4,h5,h6,h8,h9,h7⟩:=h;exact⟨h1.bJ hc (hP _ h1.lt),⟨V,d,h2.bJ hc fun k hk=>hP k (h2.ge hk).2,h3⟩,bL h4 hc fun k hk=>hP k (h4.lt k hk).2,h5,h6,h8,fun k hk=>⟨ak (h9 k hk).1 hc.size,(h9 k hk).2⟩,h7.trans (hc.below h7.size fun k hk=>hP k (by have:=h7.size;omega))⟩
theorem tW.w0(h:tW w g n X ρ F v A wr):w.heap.size<wr.heap.size:=h.sets.lt
theorem tW.sub{Y:Nat->Prop}(h:tW w g n X ρ F v A wr)(hs:∀k,Y k->X k)(h0:Y w.heap.size):tW w g n Y ρ F v A wr:=by
 obtain⟨h1,⟨V,d,h2,h3,h3',ajf⟩,h4,h5,h6,h8,h9,h7⟩:=h;exact⟨h1,⟨V,d,h2,h3,fun i hi k hk=>h3' i hi k (hs k hk),ajf⟩,h4,fun k hk=>h5 k (hs k hk),h6,h0,fun k hk=>h9 k (hs k hk),h7⟩
theorem tW.add(h:tW w g n X ρ F v A wr)(hb:Below wr.heap.size wr w')(hs:wr.heap.size<w'.heap.size):tW w g n (fun k=>X k∨k=wr.heap.size) ρ F v A w':=by
 have hh:=h.bJ (bw.of (P:=fun _=>False) hb) (fun _ _ h=>h);obtain⟨h1,⟨V,d,h2,h3,h4,h5⟩,h6,h7,h8,hx,h9,h10⟩:=h;obtain⟨k1,_,k6,_,_,_,k9,k10⟩:=hh;refine⟨k1,⟨V,d,h2.bJ (bw.of (P:=fun _=>False) hb) (fun _ _ h=>h),h3,fun i hi k hk=>?_,h5⟩,k6,fun k hk=>?_,h8, .inl hx,fun k hk=>?_,k10⟩
 ·rcases hk with hk|rfl
  ·exact h4 i hi k hk
  ·intro e;have:=((h2.own i hi).lt _ e).2;omega
 ·rcases hk with hk|rfl
  ·exact h7 k hk
  ·intro e;have:=(h6.lt _ e).2;omega
 ·rcases hk with hk|rfl
  ·exact k9 k hk
  ·exact⟨hs,by have:=h2.row.lt;omega⟩
theorem tW.join(h:tW w g n X ρ F v A wr)(hs:Sets w' w.heap.size n ρ')(hc:bw (·=w.heap.size) wr w'):tW w g n X ρ' F v A w':=by
 obtain⟨h1,⟨V,d,h2,h3,h4,h5⟩,h6,h7,h8,hx,h10,h9⟩:=h
 exact⟨hs,⟨V,d,h2.bJ hc (fun k hk e=>by
  rcases hk with rfl|⟨i,hi,hk⟩
  ·exact(h10 _ hx).2 e.symm
  ·exact h4 i hi _ hx (e▸hk)),h3,h4,h5⟩,bL h6 hc (fun k hk e=>h7 _ hx (e▸hk)),h7,h8,hx,fun k hk=>⟨ak (h10 k hk).1 hc.size,(h10 k hk).2⟩,h9.trans (hc.below h9.size fun k h1 h2=>by omega)⟩
theorem tW.tV{k:Nat}(h:tW w g n X ρ F v A wr)(ho:w'.ownsRow w.heap.size 3 1 v' (F.length+1) (cH F++ [.int .i64 (k:Int)]))(hg:wr.grownBy w' v.ownBlock)(hv:v'.ownBlock=v.ownBlock∨v'.ownBlock=some wr.heap.size):tW w g n X ρ (F++ [k]) v' A w':=by
 have hc:=bw.grown hg;obtain⟨h1,⟨V,d,h2,h3,h4,h5⟩,h6,h7,h8,hx,h10,h9⟩:=h;have z1:=h1.lt;have z2:=h2.row.lt;refine⟨h1.bJ hc (fun e=>h7 _ hx e.symm),⟨V,d,h2.bJ hc (fun k hk e=>?_),h3,h4,fun i hi=>?_⟩,?_,fun k hk=>?_,?_,hx,fun k hk=>⟨ak (h10 k hk).1 hc.size,(h10 k hk).2⟩,h9.trans (hc.below h9.size fun k h1 h2=>by have:=(h6.lt _ h2.symm).1;omega)⟩
 ·rcases hk with rfl|⟨i,hi,hk⟩
  ·exact h8 e.symm
  ·rcases h5 i hi with h|h
   ·rw[h]at hk;cases hk
   ·exact h (hk.trans e)
 ·rcases hv with e|e
  ·rw[e];exact h5 i hi
  ·right;rw[e];intro e2;have:=((h2.own i hi).lt _ e2).2;omega
 ·simpa [cH] using ho
 ·rcases hv with e|e
  ·rw[e];exact h7 k hk
  ·rw[e];intro e2;injection e2 with e2;have:=(h10 k hk).1;omega
 ·rcases hv with e|e
  ·rw[e];exact h8
  ·rw[e];intro e2;injection e2 with e2;omega
theorem tW.way{w1:World}{x:Nat}{p:Nat×Nat}(h:tW w g n X ρ F v A wr)(hx:x<n){V:Nat->Value}{d:Nat->Nat}
 (h2:vY wr w.heap.size g n 30 63 2 V d (fun b=>dK (A b))) (h3:∀b,b<n->d b=(A b).length) (h4:∀i,i<n->∀k,X k->(V i).ownBlock≠some k) (h5:∀i,i<n->(V i).ownBlock=none∨(V i).ownBlock≠v.ownBlock)
 (ho:w1.ownsRow w.heap.size 63 2 v' (d x+1) (dK (A x)++ [.int .i64 (p.1:Int), .int .i64 (p.2:Int)])) (hg:wr.grownBy w1 (V x).ownBlock) (hv:v'.ownBlock=(V x).ownBlock∨v'.ownBlock=some wr.heap.size):
 tW w g n X ρ F v (bE A x (A x++ [p])) (w1.setCell ⟨g,x,none⟩ v'):=by
 obtain⟨h1,_,h6,h7,h8,hx0,h10,h9⟩:=h;obtain⟨f1,f2⟩:=h2.grow hx ho hg (by rcases hv with e|e;exact .inl e;exact .inr (.inr ⟨_,e,aj _⟩));have z1:=h1.lt;have z6:∀k,v.ownBlock=some k->k<wr.heap.size:=fun k hk=>(h6.lt k hk).2;refine⟨h1.bJ f2 ?_,⟨bE V x v',bE d x (d x+1),?_,fun b hb=>?_,fun i hi k hk=>?_,fun i hi=>?_⟩,bL h6 f2 ?_,h7,h8,hx0,fun k hk=>⟨ak (h10 k hk).1 f2.size,(h10 k hk).2⟩,h9.trans (f2.below h9.size fun k hk hb=>by have:=(h2.ge hb).1;omega)⟩
 ·rintro(e|⟨i,hi,e⟩)
  ·exact(h10 _ hx0).2 e
  ·exact h4 i hi _ hx0 e
 ·have e:(fun b=>dK (bE A x (A x++ [p]) b))=bE (fun b=>dK (A b)) x (dK (A x)++ [.int .i64 (p.1:Int), .int .i64 (p.2:Int)]):=by
   funext b
   unfold bE;split
   ·rw[Dc];rfl
   ·rfl
  rw[e];exact f1
 ·unfold bE;split
  ·next e=>subst e;rw[h3 b hb];simp
  ·exact h3 b hb
 ·by_cases e:i=x
  ·subst e;rw[aW];rcases hv with e|e
   ·rw[e];exact h4 i hi k hk
   ·rw[e];intro e2;injection e2 with e2;have:=(h10 k hk).1;omega
  ·rw[bk _ _ e];exact h4 i hi k hk
 ·by_cases e:i=x
  ·subst e;rw[aW];rcases hv with e|e
   ·rw[e];exact h5 i hi
   ·right;rw[e];intro e2;have:=z6 _ e2.symm;omega
  ·rw[bk _ _ e];exact h5 i hi
 ·intro k hk hb;rcases hb with rfl|⟨i,hi,e⟩
  ·exact h8 hk
  ·rcases h5 i hi with h|h
   ·rw[h]at e;cases e
   ·exact h (e.trans hk.symm)
end
theorem Tt{w:World}{n m c:Nat}{A:Option Addr}{l:Nat->Nat×Nat}(hn:n<=16384)(hm:m<=1048576)(hl:PL w A m l)(hv:∀i,i<m->(l i).1<n/\(l i).2<n):
 Calls Tryz.prog 17 #[.int .i64 (n:Int), .slice A m c] w (fun e w'=>∃v g V d,e= .returned (.tuple #[v, .slice (some ⟨g,0,none⟩) n n])/\w'.ownsRow w.heap.size 3 1 v (dJ l m).length (cH (dJ l m))/\vY w' w.heap.size g n 30 63 2 V d (fun b=>dK (oP l m b))/\Below w.heap.size w w'):=by
 have hmk:=Oz (n:Int) n rfl (by omega);go_enter Tryz.func17,Tryz.ntmps17
 go_wp2_with fail
 refine(tU (by omega)).mono ?_;rintro e w2 ⟨rfl,s2,b2⟩
 have ts:tW w w2.heap.size n (·=w.heap.size) (uf l 0) (dJ l 0) (.slice none 0 0) (oP l 0) (w2.alloc (.cells ((List.range n).map fun _=>Value.slice none 0 0).toArray 30)):=
  ⟨s2.bJ (P:=fun _=>False) (bw.alloc w2 _) (fun h=>h),⟨_,_,vY.new w2 w.heap.size n 30 63 2 b2.size,fun _ _=>rfl,fun i _=>by simp[Value.ownBlock],fun i _=> .inl rfl⟩,World.ownsRow_nil _ _ _ _,by simp[Value.ownBlock],by simp[Value.ownBlock],rfl,fun k hk=>by subst hk;exact⟨by simp;have:=s2.lt;omega,by have:=s2.lt;omega⟩,b2.alloc b2.size _⟩
 obtain⟨g,eg⟩:=xeq w2.heap.size;have hgg:w.heap.size<g:=by rw[<-eg];exact s2.lt
 rw[eg]at ts;go_wp2_with fail
 try rw[eg]
 clear eg s2 b2 hmk
 go_loopw [8,17] (fun v t wr=>∃k:Nat,k<=m/\t= .int .i64 (k:Int)/\tW w g n (·=w.heap.size) (uf l k) (dJ l k) v (oP l k) wr) (fun _ t _=>m- (intOf t).toNat)
 case atStart=>exact⟨0,aF _,rfl,ts⟩
 case round=>
  clear ts;obtain⟨k,hk,rfl,ts⟩:=hrel
  by_cases hlt:k<m
  ·obtain⟨b,off,rfl,hbl,hc⟩:=(hl.below ts.mH) (by omega);obtain⟨c0,c1⟩:=hc k hlt;obtain⟨v0,v1⟩:=hv k hlt;have i0:(0:Int)<=(k:Int):=by omega
   have i1:(k:Int)<m:=by omega
   obtain⟨x,ex⟩:=xeq ((l k).1);obtain⟨y,ey⟩:=xeq ((l k).2);rw[ex]at c0 v0;rw[ey]at c1 v1;obtain⟨W1,Yb⟩:=xeq (wr.alloc (.cells #[.int .i64 (x:Int), .int .i64 (y:Int)] 63));have a1:Below wr.heap.size wr W1:=by rw[<-Yb];exact(aq _ _).alloc (aj _) _
   have z0:W1.cell? ⟨wr.heap.size,0,none⟩=some (.int .i64 (x:Int)):=by rw[<-Yb,aT _ _ 0 _ _ _ (aS wr _)];rfl
   have z1:W1.cell? ⟨wr.heap.size,1,none⟩=some (.int .i64 (y:Int)):=by rw[<-Yb,aT _ _ 1 _ _ _ (aS wr _)];rfl
   have ts1:=ts.add a1 (by rw[<-Yb];simp);have hwB:=ts.w0;obtain⟨B,eB⟩:=xeq wr.heap.size;rw[eB]at z0 z1 hwB ts1;clear ts a1 hc;go_wp2_with fail
   try rw[Yb]
   try rw[eB]
   refine(Kw ts1.sets v0 v1).mono ?_;rintro e w3 ⟨rfl,s3,c3⟩;have hmr:yw (uf l k) x y=uf l (k+1):=by show _=yw (uf l k) (l k).1 (l k).2;rw[ex,ey]
   rw[hmr]at s3;have ts3:=ts1.join s3 c3;have y0:=c3.cell (by omega) z0;have y1:=c3.cell (by omega) z1;clear ts1 c3 z0 z1 Yb s3 hmr
   by_cases hT:uf l k x=uf l k y
   ·rw[decide_eq_false (by simpa using hT)];have Yc:nj l k=false:=by unfold nj;rw[ex,ey];exact decide_eq_false (by simpa using hT)
    have HA:oP l (k+1)=oP l k:=funext fun b=>by show(if nj l k then _ else oP l k b)=_;rw[Yc];rfl
    have HF:dJ l (k+1)=dJ l k:=by show(if nj l k then _ else dJ l k)=_;rw[Yc];rfl
    rw[<-HA,<-HF]at ts3;clear HA HF hT Yc y0 y1;go_wp2_with fail
    go_roundw
    case rel=>exact⟨k+1,by omega,by go_num,ts3.sub (fun _ h=> .inl h) rfl⟩
    case measure=>simp[intOf];omega
   ·rw[decide_eq_true hT];have Yc:nj l k=true:=by unfold nj;rw[ex,ey];exact decide_eq_true hT
    have lf:=FH l k;obtain⟨W4,sw⟩:=xeq (w3.alloc (.cells #[.int .i64 (k:Int)] 3));have a4:Below w3.heap.size w3 W4:=by rw[<-sw];exact(aq _ _).alloc (aj _) _
    have h4:W4.heap[w3.heap.size]?=some (.cells #[.int .i64 (k:Int)] 3 (0,0)):=by rw[<-sw];exact aS w3 _
    have Yd:=ts3.bJ (bw.of (P:=fun _=>False) a4) (fun _ _ h=>h);have y04:=(bw.of (P:=fun _=>False) a4).cell (fun h=>h) y0;have y14:=(bw.of (P:=fun _=>False) a4).cell (fun h=>h) y1;clear ts3 y0 y1 hT
    go_upto_region 9 with (first
     |(at_builtin;refine mP rfl (.tmp 25) (.tmp 27) rfl rfl Yd.own rfl h4 (by omega) Yd.mH.size ?_;intro g5 VZ w5 ho5 gr5 or5 lt5))
    have Tw:W4.grownBy w5 u8.ownBlock:=gr5;have YL:u8.ownBlock=some g5∨g5=W4.heap.size:=or5;have ts5:=Yd.tV ho5 Tw (by rcases YL with h|h;exact .inl h.symm;exact .inr (congrArg some h));have c5:=bw.grown Tw;have y05:=c5.cell (fun e=>Yd.v0 B (.inr rfl) e.symm) y04;have y15:=c5.cell (fun e=>Yd.v0 B (.inr rfl) e.symm) y14;clear Yd gr5 or5 Tw YL c5 ho5 h4 a4 sw y04 y14;obtain⟨xs,zY⟩:=xeq (oP l k);have hxl:∀b,(xs b).length<=2*k:=fun b=>by rw[<-zY];exact FI l k b
    rw[zY]at ts5;have i2:(0:Int)<=(x:Int):=by omega
    have i3:(x:Int)<n:=by omega
    have i4:(0:Int)<=(y:Int):=by omega
    have i5:(y:Int)<n:=by omega
    have lB5:=aG w5 _ y05
    go_cut [] (fun wx=>tW w g n (fun k=>k=w.heap.size∨k=B) (uf l (k+1)) (dJ l k++ [k]) (.slice (some ⟨g5,0,none⟩) ((dJ l k).length+1) VZ) (bE xs x (xs x++ [(k,y)])) wx/\wx.cell? ⟨B,0,none⟩=some (.int .i64 (x:Int))/\wx.cell? ⟨B,1,none⟩=some (.int .i64 (y:Int)))
    case first=>
     obtain⟨V,d,hF5,hd,V0,hV5⟩:=ts5.fF;have q0:=hF5.row.cell v0;have f0:=hF5.row.frozen x;have lg5:=hF5.row.lt;obtain⟨W6,CX⟩:=xeq ((w5.alloc (.cells #[.int .i64 (k:Int), .int .i64 (y:Int)] 63)).drew);have a6:Below w5.heap.size w5 W6:=by rw[<-CX];exact((aq _ _).alloc (aj _) _).drew
     have h6:W6.heap[w5.heap.size]?=some (.cells #[.int .i64 (k:Int), .int .i64 (y:Int)] 63 (0,0)):=by rw[<-CX];exact aS w5 _
     have J9:=hF5.bJ (bw.of (P:=fun _=>False) a6) (fun _ _ h=>h);have V4:=ts5.bJ (bw.of (P:=fun _=>False) a6) (fun _ _ h=>h);have y06:=(bw.of (P:=fun _=>False) a6).cell (fun h=>h) y05;have y16:=(bw.of (P:=fun _=>False) a6).cell (fun h=>h) y15;have z6:=V4.mH.size;have Xl:d x<=2*k:=by rw[hd x v0];exact hxl x
     have YM:¬some B=(V x).ownBlock:=fun e=>V0 x v0 B (.inr rfl) e.symm;have hBg:=(ts5.xl B (.inr rfl)).2;have Fb:=ah CX;have TS:=ah V4;have TF:=ah J9;have HD:=ah hd;have H4:=ah V0;have H5:=ah hV5;clear CX ts5 V4 hF5 hd V0 hV5 hxl
     go_region_law (first
      |(rw[Fb.out];(refine step_append_lies _ rfl (.tmp 36) (.tmp 41) 30 rfl w.heap.size 63 _ (.agg #[.int .i64 0, .int .i64 0]) 2 16 Tryz.underlying30 fH.1 fH.2.1 fH.2.2.1 fH.2.2.2 rfl (by decide) (V x) _ _ rfl (J9.own x v0) ⟨w5.heap.size,0,none⟩ 1 1 [.int .i64 (k:Int), .int .i64 (y:Int)] rfl rfl (World.news_of_block h6) (by simp[Value.oneCell']) (by decide) (by simp only[maxLen];omega) (by omega) z6 W6.heap.size rfl ?_;intro g7 bR w7 ew iu jM kR;have dR:W6.grownBy w7 (V x).ownBlock:=iu;clear iu;have eO:(V x).ownBlock=some g7∨g7=W6.heap.size:=jM;clear jM;have c7:=bw.grown dR;have mF:=J9.row.bJ c7 (fun e=>J9.out x v0 e.symm);have q7:=mF.cell v0;have Kc:=mF.frozen x;have y07:=c7.cell YM y06;have y17:=c7.cell YM y16)))
     all_goals
      have r1:=TS.out.way v0 (p:=(k,y)) TF.out HD.out H4.out H5.out ew dR (by rcases eO with h|h;exact .inl h.symm;exact .inr (congrArg some h));have r3:=(bw.set (P:=(·=g)) (p:=⟨g,x,none⟩) rfl w7 (.slice (some ⟨g7,0,none⟩) (d x+1) bR)).cell hBg y07;have r4:=(bw.set (P:=(·=g)) (p:=⟨g,x,none⟩) rfl w7 (.slice (some ⟨g7,0,none⟩) (d x+1) bR)).cell hBg y17;go_wp2_with fail
      go_meet;exact⟨r1,r3,r4⟩
    case rest=>
     obtain⟨ts8,y08,y18⟩:=hcut;obtain⟨w8,ew8⟩:∃w8,w8=wc:=⟨_,rfl⟩;subst ew8;have lB8:=aG w8 _ y08
     have ac7:∀b,(bE xs x (xs x++ [(k,y)]) b).length<=2*k+1:=fun b=>by
      have h1:=hxl b;have h2:=hxl x;unfold bE;split
      ·simp;omega
      ·omega
     go_upto_region 10 with fail
     obtain⟨V,d,Jl,hd,V0,hV5⟩:=ts8.fF;have q0:=Jl.row.cell v1;have f0:=Jl.row.frozen y;have lg8:=Jl.row.lt;obtain⟨W6,CX⟩:=xeq ((w8.alloc (.cells #[.int .i64 (k:Int), .int .i64 (x:Int)] 63)).drew);have a6:Below w8.heap.size w8 W6:=by rw[<-CX];exact((aq _ _).alloc (aj _) _).drew
     have h6:W6.heap[w8.heap.size]?=some (.cells #[.int .i64 (k:Int), .int .i64 (x:Int)] 63 (0,0)):=by rw[<-CX];exact aS w8 _
     have J9:=Jl.bJ (bw.of (P:=fun _=>False) a6) (fun _ _ h=>h);have V4:=ts8.bJ (bw.of (P:=fun _=>False) a6) (fun _ _ h=>h);have y06:=(bw.of (P:=fun _=>False) a6).cell (fun h=>h) y08;have y16:=(bw.of (P:=fun _=>False) a6).cell (fun h=>h) y18;have z6:=V4.mH.size;have Xl:d y<=2*k+1:=by rw[hd y v1];exact ac7 y
     have YM:¬some B=(V y).ownBlock:=fun e=>V0 y v1 B (.inr rfl) e.symm;have hBg:=(ts8.xl B (.inr rfl)).2;have Fb:=ah CX;have TS:=ah V4;have TF:=ah J9;have HD:=ah hd;have H4:=ah V0;have H5:=ah hV5;clear CX ts8 V4 Jl hd V0 hV5 ac7
     go_region_law (first
      |(rw[Fb.out];(refine step_append_lies _ rfl (.tmp 51) (.tmp 56) 30 rfl w.heap.size 63 _ (.agg #[.int .i64 0, .int .i64 0]) 2 16 Tryz.underlying30 fH.1 fH.2.1 fH.2.2.1 fH.2.2.2 rfl (by decide) (V y) _ _ rfl (J9.own y v1) ⟨w8.heap.size,0,none⟩ 1 1 [.int .i64 (k:Int), .int .i64 (x:Int)] rfl rfl (World.news_of_block h6) (by simp[Value.oneCell']) (by decide) (by simp only[maxLen];omega) (by omega) z6 W6.heap.size rfl ?_;intro g7 bR w7 ew iu jM kR;have dR:W6.grownBy w7 (V y).ownBlock:=iu;clear iu;have eO:(V y).ownBlock=some g7∨g7=W6.heap.size:=jM;clear jM;have c7:=bw.grown dR;have mF:=J9.row.bJ c7 (fun e=>J9.out y v1 e.symm);have q7:=mF.cell v1;have Kc:=mF.frozen y;have y07:=c7.cell YM y06;have y17:=c7.cell YM y16)))
     all_goals
      have r1:=TS.out.way v1 (p:=(k,x)) TF.out HD.out H4.out H5.out ew dR (by rcases eO with h|h;exact .inl h.symm;exact .inr (congrArg some h))
      have HA:oP l (k+1)=bE (bE xs x (xs x++ [(k,y)])) y (bE xs x (xs x++ [(k,y)]) y++ [(k,x)]):=funext fun b=>by
       show(if nj l k then bE (bE (oP l k) (l k).1 (oP l k (l k).1++ [(k,(l k).2)])) (l k).2 (bE (oP l k) (l k).1 (oP l k (l k).1++ [(k,(l k).2)]) (l k).2++ [(k,(l k).1)]) b else oP l k b)=_
       rw[Yc,ex,ey,zY];rfl
      have HF:dJ l (k+1)=dJ l k++ [k]:=by show(if nj l k then _ else dJ l k)=_;rw[Yc];rfl
      rw[<-HA,<-HF]at r1;have R1:=ah r1;clear r1 HA HF TS TF HD H4 H5;go_wp2_with fail
      go_roundw
      case rel=>exact⟨k+1,by omega,by go_num,R1.out.sub (fun _ h=> .inl h) rfl⟩
      case measure=>simp[intOf];omega
  ·obtain rfl:k=m:=by omega
   obtain⟨h1,⟨V,d,h2,h3,h4,h5⟩,h6,h7,h8,_,_,h9⟩:=ts;clear hl hv;go_wp2_with fail
   go_ret2;exact⟨u8,g,rfl,h6,⟨V,d,h2⟩,h9⟩
def IL(w:World)(D:Option Addr)(m:Nat)(x:Nat->Nat):Prop:=
 0<m->∃b off,D=some ⟨b,off,none⟩/\b<w.heap.size/\∀i,i<m->w.cell? ⟨b,off+i,none⟩=some (.int .i64 (x i:Int))
theorem IL.below{w w':World}{D:Option Addr}{m:Nat}{x:Nat->Nat}(h:IL w D m x)(hb:Below w.heap.size w w'):IL w' D m x:=fun h0=>by
 obtain⟨b,off,e,hlt,hc⟩:=h h0;exact⟨b,off,e,ak hlt hb.size,fun i hi=>(hb.cell (p:=⟨b,_,none⟩) hlt).trans (hc i hi)⟩
theorem ajg(x:Int)(w:World):Calls Tryz.prog 68 #[.int .i64 x] w (fun e w'=>e= .returned (.bool false)/\Below w.heap.size w w'):=by
 go_enter Tryz.func68,Tryz.ntmps68
 go_wp2
 go_ret;exact⟨by simp,aq _ _⟩
theorem ajh(x:Int)(w:World):Calls Tryz.prog 39 #[.int .i64 x] w (fun e w'=>e= .returned (.bool false)/\Below w.heap.size w w'):=by
 go_enter Tryz.func39,Tryz.ntmps39
 go_wp2
 go_ret;exact⟨by simp,aq _ _⟩
theorem Ty(x y:Nat)(w:World):Calls Tryz.prog 38 #[.int .i64 (x:Int), .int .i64 (y:Int)] w (fun e w'=>e= .returned (.bool (decide (x<y)))/\Below w.heap.size w w'):=by
 go_enter Tryz.func38,Tryz.ntmps38
 go_wp2_with fail
 refine(ajg x _).mono ?_;rintro e w1 ⟨rfl,g1⟩;go_wp2_with fail
 go_ret;exact⟨by simp,g1⟩
theorem Hl{w:World}{D:Option Addr}{m c t:Nat}{x:Nat->Nat}(hm:m<=1073741824)(hx:IL w D m x)(hs:∀a b,a<b->b<m->x a<x b):
 Calls Tryz.prog 20 #[.slice D m c, .int .i64 (t:Int)] w (fun e w'=>∃p f,e= .returned (.tuple #[.int .i64 p, .bool f])/\(f=true↔∃i,i<m/\x i=t)/\Below w.heap.size w w'):=by
 go_enter Tryz.func20,Tryz.ntmps20
 go_wp2_with fail
 go_loopw [7,8] (fun s u wr=>∃i j:Nat,i<=j/\j<=m/\s= .int .i64 (i:Int)/\u= .int .i64 (j:Int)/\(∀k,k<i->x k<t)/\(∀k,j<=k->k<m->t<=x k)/\Below w.heap.size w wr) (fun s u _=>(intOf u).toNat- (intOf s).toNat)
 case atStart=>exact⟨0,m,aF _,aj _,rfl,rfl,fun k hk=>by omega,fun k h1 h2=>by omega,aq _ _⟩
 case round=>
  obtain⟨i,j,hij,hj,rfl,rfl,h1,h2,hb⟩:=hrel
  by_cases hlt:i<j
  ·obtain⟨b,off,rfl,hbl,hc⟩:=(hx.below hb) (by omega);obtain⟨h,eh⟩:=xeq ((i+j)/2);have hh:h<m:=by omega
   have hc0:=hc h hh;have i0:(0:Int)<=(h:Int):=by omega
   have i1:(h:Int)<m:=by omega
   have c1:IntKind.i64.wrap ((i:Int)+ (j:Int))=((i+j:Nat):Int):=by rw[show((i:Int)+ (j:Int))=((i+j:Nat):Int) by omega];exact IntWalk.i64_in _ (by omega)
   have eh2:((i:Int)+ (j:Int))/2=(h:Int):=by omega
   have hlt':=hlt;clear hc;go_wp2_with fail
   refine(Ty (x h) t _).mono ?_;rintro e w1 ⟨rfl,g1⟩;have hb1:=hb.trans (g1.mono hb.size)
   by_cases Tz:x h<t
   ·rw[decide_eq_true Tz]
    have H:=ah (show∀k,k<h+1->x k<t from fun k hk=>by
     by_cases e:k=h
     ·subst e;exact Tz
     ·have:=hs k h (by omega) hh;omega)
    have H2:=ah h2;clear h1 h2 hs hx;go_wp2_with fail
    go_roundw
    case rel=>exact⟨h+1,j,by omega,hj,by go_num,rfl,H.out,H2.out,hb1⟩
    case measure=>simp[intOf];omega
   ·rw[decide_eq_false Tz]
    have H:=ah (show∀k,h<=k->k<m->t<=x k from fun k hk hk2=>by
     by_cases e:k=h
     ·subst e;omega
     ·have:=hs h k (by omega) hk2;omega)
    have H1:=ah h1;clear h1 h2 hs hx;go_wp2_with fail
    go_roundw
    case rel=>exact⟨i,h,by omega,by omega,rfl,rfl,H1.out,H.out,hb1⟩
    case measure=>simp[intOf];omega
  ·obtain rfl:i=j:=by omega
   by_cases him:i<m
   ·obtain⟨b,off,rfl,hbl,hc⟩:=(hx.below hb) (by omega);have hc0:=hc i him;have i0:(0:Int)<=(i:Int):=by omega
    have i1:(i:Int)<m:=by omega
    by_cases hxi:x i=t
    ·have YN:(x i:Int)=(t:Int):=by omega
     have H:=ah (show∃k,k<m/\x k=t from⟨i,him,hxi⟩);clear hc h1 h2 hs hx;go_wp2_with fail
     go_ret2;exact⟨_,true,rfl,by simp;exact H.out,hb⟩
    ·have YN:¬(x i:Int)=(t:Int):=by omega
     have H:=ah (show¬∃k,k<m/\x k=t from fun⟨k,hk,e⟩=>by
      rcases Nat.lt_trichotomy k i with h|rfl|h
      ·have:=h1 k h;omega
      ·exact hxi e
      ·have:=hs i k h hk;have:=h2 i (aj _) him;omega)
     have vW:((x i:Int)==(t:Int))=false:=by rw[beq_eq_false_iff_ne];exact YN
     clear hc h1 h2 hs hx;go_wp2_with fail
     refine(ajh _ _).mono ?_;rintro e w1 ⟨rfl,g1⟩;have hb1:=hb.trans (g1.mono hb.size);go_wp2_with fail
     go_ret2
     first|exact⟨_,rfl,hb1⟩|exact⟨_, .inl ⟨rfl,fun k hk e=>H.out ⟨k,hk,e⟩,hb1⟩⟩|exact⟨_,false,rfl,by simp;exact fun k hk e=>H.out ⟨k,hk,e⟩,hb1⟩
   ·have H:=ah (show¬∃k,k<m/\x k=t from fun⟨k,hk,e⟩=>by have:=h1 k (by omega);omega);have i1:¬(i:Int)<m:=by omega
    clear h1 h2 hs hx;go_wp2_with fail
    go_ret2
    first|exact⟨_,rfl,hb⟩|exact⟨_, .inl ⟨rfl,fun k hk e=>H.out ⟨k,hk,e⟩,hb⟩⟩|exact⟨_,false,rfl,by simp;exact fun k hk e=>H.out ⟨k,hk,e⟩,hb⟩
theorem Au{w:World}{D:Option Addr}{m c kf:Nat}{p:Value}{x:Nat->Nat}{Q:Nat->Bool}(hm:m<=1073741824)(hx:IL w D m x)(TA:∀(a:Array Value) (w:World),(callFunc kf a).run Tryz.prog w= .ok (.enter kf a) w)
 (hQ:∀wr i,i<m->Below w.heap.size w wr->Calls Tryz.prog kf #[.int .i64 ((x i:Nat):Int),p] wr (fun e w'=>e= .returned (.bool (Q (x i)))/\Below wr.heap.size wr w')):
 Calls Tryz.prog 40 #[.slice D m c, .func (.func kf) #[] #[p]] w (fun e w'=>∃r:Int,e= .returned (.int .i64 r)/\((r= -1/\∀i,i<m->Q (x i)=false)∨∃i:Nat,r=(i:Int)/\i<m/\Q (x i)=true/\∀k,k<i->Q (x k)=false)/\Below w.heap.size w w'):=by
 go_enter Tryz.func40,Tryz.ntmps40
 go_wp2_with fail
 go_loopw [8] (fun s wr=>∃i:Nat,i<=m/\s= .int .i64 (i:Int)/\(∀k,k<i->Q (x k)=false)/\Below w.heap.size w wr) (fun s _=>m- (intOf s).toNat)
 case atStart=>exact⟨0,aF _,rfl,fun k hk=>by omega,aq _ _⟩
 case round=>
  obtain⟨i,hi,rfl,h1,hb⟩:=hrel
  by_cases hlt:i<m
  ·obtain⟨b,off,rfl,hbl,hc⟩:=(hx.below hb) (by omega);have hc0:=hc i hlt;have i0:(0:Int)<=(i:Int):=by omega
   have i1:(i:Int)<m:=by omega
   have HQ:=hQ wr i hlt hb;have H1:=ah h1;clear hc hQ hx h1;go_wp2_with fail
   refine HQ.mono ?_;rintro e w1 ⟨rfl,g1⟩;have hb1:=hb.trans (g1.mono hb.size)
   by_cases hq:Q (x i)=true
   ·rw[hq];have HQ2:=ah hq;clear hq HQ;go_wp2_with fail
    go_ret;exact⟨_,rfl, .inr ⟨i,rfl,hlt,HQ2.out,H1.out⟩,hb1⟩
   ·have hq':Q (x i)=false:=by simpa using hq
    rw[hq']
    have H2:=ah (show∀k,k<i+1->Q (x k)=false from fun k hk=>by
     by_cases e:k=i
     ·subst e;exact hq'
     ·exact H1.out k (by omega))
    clear hq hq' HQ;go_wp2_with fail
    go_roundw
    case rel=>exact⟨i+1,by omega,by go_num,H2.out,hb1⟩
    case measure=>simp[intOf];omega
  ·obtain rfl:i=m:=by omega
   have H1:=ah h1;clear h1 hx hQ;go_wp2_with fail
   go_ret;exact⟨_,rfl, .inl ⟨rfl,H1.out⟩,hb⟩
def RF(w:World)(g m:Nat)(x:Nat->Nat):Prop:=∀k,k<m->w.cell? ⟨g,k,none⟩=some (.int .i64 (x k:Int))/\w.frozen? ⟨g,k,none⟩=false
theorem RF.bJ{P:Nat->Prop}{w w':World}{g m:Nat}{x:Nat->Nat}(h:RF w g m x)(hc:bw P w w')(hg:¬P g):RF w' g m x:=fun k hk=>
 ⟨hc.cell hg (h k hk).1,(hc.sA (aG w _ (h k hk).1) hg).trans (h k hk).2⟩
theorem RF.set{w:World}{g m:Nat}{x:Nat->Nat}(h:RF w g m x){i v:Nat}(hi:i<m):RF (w.setCell ⟨g,i,none⟩ (.int .i64 (v:Int))) g m (bE x i v):=fun k hk=>by
 refine⟨?_,by rw[World.frozen?_setCell];exact(h k hk).2⟩
 by_cases e:k=i
 ·subst e;rw[aW];exact World.cell?_setCell_same _ _ _ (h k hk).1
 ·rw[bk _ _ e,World.cell?_setCell_other (h:=fun e2=>by injection e2 with _ e3;exact e e3.symm)];exact(h k hk).1
theorem bw.sets{P:Nat->Prop}{g:Nat}(hg:P g):∀(vs:List Value) (o:Nat) (w:World),bw P w (w.setCells g o vs)
 |[],_,_=>bw.refl _ _
 |v::r,o,w=>(bw.set (P:=P) (p:=⟨g,o,none⟩) hg w v).trans (bw.sets hg r (o+1) _)
theorem Kx(w:World):(zeroValue 3).run Tryz.prog w= .ok (.int .i64 0) w:=by go_simp
theorem Ho{w:World}{D:Option Addr}{g m c kf:Nat}{p:Value}{x:Nat->Nat}{Q:Nat->Bool}(hm:m<=1073741824)(hcp:m<=c/\c<=9223372036854775807)(hD:0<m->D=some ⟨g,0,none⟩/\RF w g m x)(TA:∀(a:Array Value) (w:World),(callFunc kf a).run Tryz.prog w= .ok (.enter kf a) w)
 (hQ:∀wr i,i<m->bw (·=g) w wr->Calls Tryz.prog kf #[.int .i64 ((x i:Nat):Int),p] wr (fun e w'=>e= .returned (.bool (Q (x i)))/\Below wr.heap.size wr w')):
 Calls Tryz.prog 21 #[.slice D m c, .func (.func kf) #[] #[p]] w (fun e w'=>∃r x',e= .returned (.slice D r c)/\r<=m/\(0<r->D=some ⟨g,0,none⟩/\RF w' g r x')/\(∀i,i<r->∃k,k<m/\x k=x' i/\Q (x' i)=false)/\bw (·=g) w w'):=by
 have hx:IL w D m x:=fun h0=>by
  obtain⟨e,h⟩:=hD h0;exact⟨g,0,e,aG w _ (h 0 h0).1,fun i hi=>by rw[Nat.zero_add];exact(h i hi).1⟩
 go_enter Tryz.func21,Tryz.ntmps21
 go_wp2_with fail
 refine(Au hm hx TA (fun wr i hi hb=>hQ wr i hi (bw.of hb))).mono ?_;rintro e w1 ⟨r,rfl,hr,b1⟩;have c1:bw (·=g) w w1:=bw.of b1;rcases hr with ⟨rfl,hall⟩|⟨i,rfl,him,hqi,hpre⟩
 ·have H:=ah (show∃x',(0<m->D=some ⟨g,0,none⟩/\RF w1 g m x')/\(∀i,i<m->∃k,k<m/\x k=x' i/\Q (x' i)=false)from⟨x,fun h0=>⟨(hD h0).1,(hD h0).2.bJ (bw.of (P:=fun _=>False) b1) (fun h=>h)⟩,fun i hi=>⟨i,hi,rfl,hall i hi⟩⟩);clear hall hD hQ hx TA;go_wp2_with fail
  go_ret;obtain⟨x',h1,h2⟩:=H.out;exact⟨m,x',rfl,aj _,h1,h2,c1⟩
 ·obtain⟨rfl,hRF⟩:=hD (by omega);have rf1:=hRF.bJ (bw.of (P:=fun _=>False) b1) (fun h=>h);have n1:¬(i:Int)= -1:=by omega
  have HP:=ah hpre;clear hD hpre hx;go_wp2_with fail
  go_loopw [5,6] (fun s u wr=>∃a j:Nat,a<j/\j<=m/\s= .int .i64 (a:Int)/\u= .int .i64 (j:Int)/\∃x',RF wr g m x'/\(∀k,k<a->∃k',k'<m/\x k'=x' k/\Q (x' k)=false)/\(∀k,j<=k->k<m->x' k=x k)/\bw (·=g) w wr) (fun _ u _=>m- (intOf u).toNat)
  case atStart=>exact⟨i,i+1,by omega,by omega,rfl,by go_num,x,rf1,fun k hk=>⟨k,by omega,rfl,HP.out k hk⟩,fun k _ _=>rfl,c1⟩
  case round=>
   clear HP rf1 c1 b1 hRF;obtain⟨a,j,haj,hj,rfl,rfl,x',rf,h1,h2,hc⟩:=hrel;have i0:(0:Int)<=(j:Int):=by omega
   have i2:(0:Int)<=(a:Int):=by omega
   by_cases hlt:j<m
   ·have i1:(j:Int)<m:=by omega
    have i3:(a:Int)<m:=by omega
    have r0:=(rf j hlt).1;have hxj:=h2 j (aj _) hlt;rw[hxj]at r0;have HQ:=hQ wr j hlt hc;have H1:=ah h1;have H2:=ah h2;have HR:=ah rf;clear h1 h2 rf hQ;go_wp2_with fail
    refine HQ.mono ?_;rintro e w2 ⟨rfl,b2⟩;have Ye:=HR.out.bJ (bw.of (P:=fun _=>False) b2) (fun h=>h);have hc2:=hc.trans (bw.of b2)
    by_cases hq:Q (x j)=true
    ·rw[hq];clear HQ hq;have Jm:=ah Ye;clear Ye r0;go_wp2_with fail
     go_roundw
     case rel=>first|exact⟨a,j+1,by omega,by omega,rfl,by go_num,x',Jm.out,H1.out,fun k hk hk2=>H2.out k (by omega) hk2,hc2⟩|exact⟨_,_,_,_,_,_,_,_,_,_,_,_,_,_,_,_,_,_,_,_,_,_,_,⟨a,j+1,by omega,by omega,rfl,by go_num,x',Jm.out,H1.out,fun k hk hk2=>H2.out k (by omega) hk2,hc2⟩,rfl⟩
     case measure=>simp[intOf];omega
    ·have hq':Q (x j)=false:=by simpa using hq
     rw[hq'];have s0:=(Ye a (by omega)).1;have s1:=(Ye a (by omega)).2
     have Jm:=ah (show∃y,RF (w2.setCell ⟨g,a,none⟩ (.int .i64 (x j:Int))) g m y/\(∀k,k<a+1->∃k',k'<m/\x k'=y k/\Q (y k)=false)/\(∀k,j+1<=k->k<m->y k=x k)/\bw (·=g) w (w2.setCell ⟨g,a,none⟩ (.int .i64 (x j:Int)))from
      ⟨bE x' a (x j),Ye.set (by omega),fun k hk=>by
        by_cases e:k=a
        ·subst e;rw[aW];exact⟨j,hlt,rfl,hq'⟩
        ·rw[bk _ _ e];exact H1.out k (by omega),fun k hk hk2=>by rw[bk _ _ (by omega)];exact H2.out k (by omega) hk2,hc2.trans (bw.set (P:=(·=g)) (p:=⟨g,a,none⟩) rfl _ _)⟩)
     clear HQ hq hq' Ye r0;go_wp2_with fail
     go_roundw
     case rel=>first|exact⟨a+1,j+1,by omega,by omega,by go_num,by go_num,Jm.out⟩|exact⟨_,_,_,_,_,_,_,_,_,_,_,_,_,_,_,_,_,_,_,_,_,_,_,⟨a+1,j+1,by omega,by omega,by go_num,by go_num,Jm.out⟩,rfl⟩
     case measure=>simp[intOf];omega
   ·obtain rfl:j=m:=by omega
    have i3:(a:Int)<=j:=by omega
    have i4:(a:Int)<=c:=by omega
    have i5:(j:Int)<=c:=by omega
    have n2:¬(j:Int)<a:=by omega
    have hcl:∀ty,(Builtin.clear_ #[22] ty #[.slice (some ⟨g,0+a,none⟩) (j-a) (c-a)]).run Tryz.prog wr= .ok (.tuple #[]) (wr.setCells g (0+a) (List.replicate (j-a) (.int .i64 0))):=fun ty=>
     Lib.run_clear_slice wr 22 3 ty (.int .i64 0) Tryz.underlying22 Kx rfl rfl g (0+a) (j-a) (c-a) (by omega) (fun t ht=>by rw[show 0+a+t=a+t by omega,(rf (a+t) (by omega)).1];rfl) (fun t ht=>by rw[show 0+a+t=a+t by omega];exact(rf (a+t) (by omega)).2)
    rw[Nat.zero_add]at hcl;have rfE:RF (wr.setCells g a (List.replicate (j-a) (.int .i64 0))) g a x':=fun k hk=>⟨by rw[World.cell?_setCells_out _ _ _ _ _ (fun _ _=> .inl hk)];exact(rf k (by omega)).1,by rw[World.frozen?_setCells];exact(rf k (by omega)).2⟩;have HF:=ah rfE;have HC:=ah (hc.trans (bw.sets (P:=(·=g)) rfl (List.replicate (j-a) (.int .i64 0)) a wr));have H1:=ah h1;clear rfE hc rf h1 h2 hQ TA;go_wp2_with fail
    go_ret;exact⟨a,rfl,by omega,x',fun _=>HF.out,H1.out,HC.out⟩
end Go.Proofs.YtkmpoleajjgfaaaGreat
namespace Go.Proofs.YtkmpoleajjgfaaaGreat
structure FO(n:Nat)(A:Nat->List (Nat×Nat))(O:List Nat)(U:Nat->Int×Nat)(ρ:Nat->Nat):Prop where
 nd:O.Nodup
 lt:∀b∈O,b<n
 Oo:∀j b,O[j]?=some b->(U b=(-1,b)/\ρ b=b)∨∃i p,U b=(((i:Nat):Int),p)/\p∈O.take j/\(i,b)∈A p/\ρ b=ρ p
def Cl(A:Nat->List (Nat×Nat))(O:List Nat)(ρ:Nat->Nat):Prop:=∀b∈O,∀w∈A b,w.2∈O/\ρ w.2=ρ b
def Sym(n:Nat)(A:Nat->List (Nat×Nat)):Prop:=∀b,b<n->∀w∈A b,w.2<n/\(w.1,b)∈A w.2
structure BF(n:Nat)(A:Nat->List (Nat×Nat))(O0 T:List Nat)(U:Nat->Int×Nat)(ρ:Nat->Nat)(root q e:Nat):Prop where
 fo:FO n A (O0++T) U ρ
 cl:Cl A O0 ρ
 tr:∀t∈T,ρ t=root
 le:O0.length<=q
 dn:∀j b,O0.length<=j->j<q->(O0++T)[j]?=some b->∀w∈A b,w.2∈O0++T
 cur:∀b,(O0++T)[q]?=some b->∀w∈(A b).take e,w.2∈O0++T
section
variable {n:Nat}{A:Nat->List (Nat×Nat)}{O0 T:List Nat}{U:Nat->Int×Nat}{ρ:Nat->Nat}{root q e:Nat}
theorem FO.push(h:FO n A O0 U ρ){t:Nat}(ht:t∉O0)(hlt:t<n){u:Int×Nat}{r:Nat}(hu:(u=(-1,t)/\r=t)∨∃i p,u=(((i:Nat):Int),p)/\p∈O0/\(i,t)∈A p/\r=ρ p):FO n A (O0++ [t]) (bE U t u) (bE ρ t r):=by
 have hne:∀b∈O0,b≠t:=fun b hb e=>ht (e▸hb);refine⟨?_,?_,?_⟩
 ·rw[List.nodup_append];exact⟨h.nd,by simp,fun a ha b hb=>by simp at hb;subst hb;exact hne a ha⟩
 ·intro b hb;rcases List.mem_append.1 hb with hb|hb
  ·exact h.lt b hb
  ·simp at hb;subst hb;exact hlt
 ·intro j b hj;rcases aN j O0.length with hl|hl
  ·rw[aL hl]at hj;have hb:=aD hj;have ht2:(O0++ [t]).take j=O0.take j:=by rw[List.take_append_of_le_length (by omega)]
   rw[bk _ _ (hne b hb),bk _ _ (hne b hb),ht2];rcases h.Oo j b hj with h1|⟨i,p,h1,h2,h3,h4⟩
   ·exact .inl h1
   ·exact .inr ⟨i,p,h1,h2,h3,by rw[bk _ _ (hne p (List.mem_of_mem_take h2))];exact h4⟩
  ·have ej:j=O0.length:=by
    have:=(aC.1 hj).1;simp at this;omega
   subst ej;have eb:b=t:=by simpa using hj.symm
   subst eb;rw[aW,aW,List.take_left' rfl];rcases hu with h1|⟨i,p,h1,h2,h3,h4⟩
   ·exact .inl h1
   ·exact .inr ⟨i,p,h1,h2,h3,by rw[bk _ _ (hne p h2)];exact h4⟩
theorem BF.start(h:FO n A O0 U ρ)(hc:Cl A O0 ρ)(hr:root∉O0)(hlt:root<n):BF n A O0 [root] (bE U root (-1,root)) (bE ρ root root) root O0.length 0 where
 fo:=h.push hr hlt (.inl ⟨rfl,rfl⟩)
 cl:=fun b hb w hw=>by
  obtain⟨h1,h2⟩:=hc b hb w hw;have e1:w.2≠root:=fun e=>hr (e▸h1);have e2:b≠root:=fun e=>hr (e▸hb);exact⟨h1,by rw[bk _ _ e1,bk _ _ e2];exact h2⟩
 tr:=fun t ht=>by simp at ht;subst ht;exact aW _ _ _
 le:=aj _
 dn:=fun j b h1 h2=>by omega
 cur:=fun b _ w hw=>by simp at hw
theorem BF.skip(h:BF n A O0 T U ρ root q e){b:Nat}{w:Nat×Nat}(hb:(O0++T)[q]?=some b)(hw:(A b)[e]?=some w)(hs:w.2∈O0++T):BF n A O0 T U ρ root q (e+1):=
 ⟨h.fo,h.cl,h.tr,h.le,h.dn,fun b' hb' w' hw'=>by
   rw[hb]at hb';injection hb' with hb';subst hb'
   rw[List.take_add_one,hw]at hw';rcases List.mem_append.1 hw' with hw'|hw'
   ·exact h.cur b hb w' hw'
   ·simp at hw';subst hw';exact hs⟩
theorem BF.add(h:BF n A O0 T U ρ root q e){b:Nat}{w:Nat×Nat}(hb:(O0++T)[q]?=some b)(hw:(A b)[e]?=some w)(hs:w.2∉O0++T)(hlt:w.2<n)(JO:b∈T):BF n A O0 (T++ [w.2]) (bE U w.2 ((w.1:Int),b)) (bE ρ w.2 root) root q (e+1):=by
 have hm:∀{x},x∈O0++T->x∈O0++ (T++ [w.2]):=fun{x} hx=>by rw[<-List.append_assoc];exact List.mem_append_left _ hx
 have hq:∀{j x},(O0++ (T++ [w.2]))[j]?=some x->j<=q->(O0++T)[j]?=some x:=fun{j x} hx hj=>by
  rw[<-List.append_assoc,aL (by have:=(aC.1 hb).1;omega)]at hx;exact hx
 refine⟨?_,?_,?_,h.le,?_,?_⟩
 ·have:=h.fo.push hs hlt (u:=((w.1:Int),b)) (r:=root) (.inr ⟨w.1,b,rfl,aD hb,aD hw,(h.tr b JO).symm⟩)
  rwa [List.append_assoc]at this
 ·intro x hx y hy;obtain⟨h1,h2⟩:=h.cl x hx y hy;have e1:y.2≠w.2:=fun e=>hs (e▸List.mem_append_left _ h1);have e2:x≠w.2:=fun e=>hs (e▸List.mem_append_left _ hx);exact⟨h1,by rw[bk _ _ e1,bk _ _ e2];exact h2⟩
 ·intro t ht;rcases List.mem_append.1 ht with ht|ht
  ·have e1:t≠w.2:=fun e=>hs (e▸List.mem_append_right _ ht);rw[bk _ _ e1];exact h.tr t ht
  ·simp at ht;subst ht;exact aW _ _ _
 ·intro j x h1 h2 hx y hy;exact hm (h.dn j x h1 h2 (hq hx (by omega)) y hy)
 ·intro b' hb' w' hw';have:=hq hb' (aj _);rw[hb]at this;injection this with this;subst this
  rw[List.take_add_one,hw]at hw';rcases List.mem_append.1 hw' with hw'|hw'
  ·exact hm (h.cur b hb w' hw')
  ·simp at hw';subst hw';simp
theorem BF.next(h:BF n A O0 T U ρ root q e){b:Nat}(hb:(O0++T)[q]?=some b)(he:(A b).length<=e):BF n A O0 T U ρ root (q+1) 0:=
 ⟨h.fo,h.cl,h.tr,ay h.le (Nat.le_succ _),fun j x h1 h2 hx y hy=>by
   by_cases ej:j=q
   ·subst ej;rw[hb]at hx;injection hx with hx;subst hx
    exact h.cur b hb y (by rw[aI he];exact hy)
   ·exact h.dn j x h1 (by omega) hx y hy,fun b _ w hw=>by simp at hw⟩
theorem BF.close(h:BF n A O0 T U ρ root q e)(hs:Sym n A)(hq:(O0++T).length<=q):Cl A (O0++T) ρ:=by
 intro b hb w hw;obtain⟨j,hj⟩:=aJ hb;have hjl:=(aC.1 hj).1;rcases aN j O0.length with hl|hl
 ·have hb0:b∈O0:=by rw[aL hl]at hj;exact aD hj
  obtain⟨h1,h2⟩:=h.cl b hb0 w hw;exact⟨List.mem_append_left _ h1,h2⟩
 ·have JO:b∈T:=by rw[aK hl]at hj;exact aD hj
  have h1:=h.dn j b hl (by omega) hj w hw;refine⟨h1,?_⟩;rcases List.mem_append.1 h1 with h2|h2
  ·have h3:=(hs b (h.fo.lt b hb) w hw).2;have h4:=(h.cl w.2 h2 _ h3).1;have hnd:=h.fo.nd;rw[List.nodup_append]at hnd;exact absurd rfl (hnd.2.2 b h4 b JO)
  ·rw[h.tr _ h2,h.tr _ JO]
end
section
variable {l:Nat->Nat×Nat}{n m:Nat}
theorem sO(l:Nat->Nat×Nat):∀m k,k<m->uf l m (l k).1=uf l m (l k).2:=by
 intro m
 induction m with
 |zero=>intro k hk;omega
 |succ m ih=>
  intro k hk
  show yw (uf l m) (l m).1 (l m).2 (l k).1=yw (uf l m) (l m).1 (l m).2 (l k).2
  unfold yw
  by_cases e:k=m
  ·subst e;split<;>split<;>omega
  ·rw[ih k (by omega)]
def OnF(l:Nat->Nat×Nat)(m:Nat)(φ:Nat->Rat):Prop:=∀k,k<m->nj l k=true->φ (l k).1=φ (l k).2
theorem Aw{φ:Nat->Rat}:∀m,OnF l m φ->∀i,φ (uf l m i)=φ i:=by
 intro m
 induction m with
 |zero=>intro _ i;rfl
 |succ m ih=>
  intro h i;have ih':=ih (fun k hk=>h k (by omega))
  show φ (yw (uf l m) (l m).1 (l m).2 i)=φ i
  unfold yw
  by_cases ht:nj l m=true
  ·have e:=h m (by omega) ht;rw[<-ih' (l m).1,<-ih' (l m).2]at e;split
   ·next hi=>
    rw[<-ih' i,hi];rcases Nat.le_total (uf l m (l m).1) (uf l m (l m).2)with hl|hl
    ·rw[Nat.min_eq_left hl,Nat.max_eq_right hl];exact e
    ·rw[Nat.min_eq_right hl,Nat.max_eq_left hl];exact e.symm
   ·exact ih' i
  ·have e:uf l m (l m).1=uf l m (l m).2:=by
    unfold nj at ht
    simpa using ht
   split
   ·next hi=>rw[<-ih' i,hi,e];simp
   ·exact ih' i
theorem indep(l:Nat->Nat×Nat):∀m b,b<m->nj l b=true->∃φ:Nat->Rat,(∀k,k<m->nj l k=true->k≠b->φ (l k).1=φ (l k).2)/\φ (l b).1≠φ (l b).2:=by
 intro m
 induction m with
 |zero=>intro b hb;omega
 |succ m ih=>
  intro b hb hT
  by_cases e:b=m
  ·subst e;refine⟨fun i=>if uf l b i=uf l b (l b).1 then 1 else 0,fun k hk _ hkb=>?_,?_⟩
   ·show(if uf l b (l k).1=uf l b (l b).1 then(1:Rat)else 0)=if uf l b (l k).2=uf l b (l b).1 then 1 else 0
    rw[sO l b k (by omega)]
   ·show(if uf l b (l b).1=uf l b (l b).1 then(1:Rat)else 0)≠if uf l b (l b).2=uf l b (l b).1 then 1 else 0
    unfold nj at hT;rw[if_pos rfl,if_neg (fun e=>(of_decide_eq_true hT) e.symm)]
    grind
  ·obtain⟨φ,h1,h2⟩:=ih b (by omega) hT
   by_cases hm:nj l m=true
   ·have hne:uf l m (l m).1≠uf l m (l m).2:=by unfold nj at hm;exact of_decide_eq_true hm
    refine⟨fun i=>φ i+ (φ (l m).1-φ (l m).2)* (if uf l m i=uf l m (l m).2 then 1 else 0),fun k hk ht hkb=>?_,?_⟩
    ·show φ (l k).1+ (φ (l m).1-φ (l m).2)* (if uf l m (l k).1=uf l m (l m).2 then 1 else 0)=φ (l k).2+ (φ (l m).1-φ (l m).2)* (if uf l m (l k).2=uf l m (l m).2 then 1 else 0)
     by_cases ek:k=m
     ·subst ek;rw[if_neg hne,if_pos rfl];grind
     ·rw[sO l m k (by omega),h1 k (by omega) ht hkb]
    ·show φ (l b).1+ (φ (l m).1-φ (l m).2)* (if uf l m (l b).1=uf l m (l m).2 then 1 else 0)≠φ (l b).2+ (φ (l m).1-φ (l m).2)* (if uf l m (l b).2=uf l m (l m).2 then 1 else 0)
     rw[sO l m b (by omega)];intro e2;exact h2 (by grind)
   ·refine⟨φ,fun k hk ht hkb=>?_,h2⟩
    by_cases ek:k=m
    ·subst ek;exact absurd ht hm
    ·exact h1 k (by omega) ht hkb
theorem TD{k:Nat}(h:nj l k=true):(l k).1≠(l k).2:=fun e=>by
 unfold nj at h;rw[e]at h;simp at h
theorem qd:∀m b w,w∈oP l m b↔∃k,k<m/\nj l k=true/\((b=(l k).1/\w=(k,(l k).2))∨(b=(l k).2/\w=(k,(l k).1))):=by
 intro m
 induction m with
 |zero=>intro b w;simp[oP]
 |succ m ih=>
  intro b w;unfold oP
  by_cases ht:nj l m=true
  ·rw[if_pos ht];have hne:=TD ht
   have key:w∈bE (bE (oP l m) (l m).1 (oP l m (l m).1++ [(m,(l m).2)])) (l m).2 (bE (oP l m) (l m).1 (oP l m (l m).1++ [(m,(l m).2)]) (l m).2++ [(m,(l m).1)]) b↔w∈oP l m b∨((b=(l m).1/\w=(m,(l m).2))∨(b=(l m).2/\w=(m,(l m).1))):=by
    by_cases e2:b=(l m).2
    ·subst e2;rw[aW,bk _ _ (fun e=>hne e.symm)];have iw:¬(l m).2=(l m).1:=fun e=>hne e.symm;simp only[List.mem_append,List.mem_singleton,iw,false_and,true_and,false_or]
    ·rw[bk _ _ e2]
     by_cases e1:b=(l m).1
     ·subst e1;rw[aW];simp[hne]
     ·rw[bk _ _ e1];simp[e1,e2]
   rw[key,ih];constructor
   ·rintro(⟨k,h1,h2,h3⟩|h)
    ·exact⟨k,by omega,h2,h3⟩
    ·exact⟨m,by omega,ht,h⟩
   ·rintro⟨k,h1,h2,h3⟩
    by_cases ek:k=m
    ·subst ek;exact .inr h3
    ·exact .inl ⟨k,by omega,h2,h3⟩
  ·rw[if_neg ht,ih];constructor
   ·rintro⟨k,h1,h2⟩;exact⟨k,by omega,h2⟩
   ·rintro⟨k,h1,h2,h3⟩
    by_cases ek:k=m
    ·subst ek;exact absurd h2 ht
    ·exact⟨k,by omega,h2,h3⟩
theorem OA(hv:∀i,i<m->(l i).1<n/\(l i).2<n):Sym n (oP l m):=by
 intro b _ w hw;obtain⟨k,h1,h2,h3⟩:=(qd m b w).1 hw;rcases h3 with ⟨rfl,rfl⟩|⟨rfl,rfl⟩
 ·exact⟨(hv k h1).2,(qd m _ _).2 ⟨k,h1,h2, .inr ⟨rfl,rfl⟩⟩⟩
 ·exact⟨(hv k h1).1,(qd m _ _).2 ⟨k,h1,h2, .inl ⟨rfl,rfl⟩⟩⟩
theorem qg:∀m b,b∈dJ l m↔b<m/\nj l b=true:=by
 intro m
 induction m with
 |zero=>intro b;simp[dJ]
 |succ m ih=>
  intro b;unfold dJ;split
  ·next ht=>
   simp only[List.mem_append,List.mem_singleton,ih];constructor
   ·rintro(⟨h1,h2⟩|rfl)
    ·exact⟨by omega,h2⟩
    ·exact⟨by omega,ht⟩
   ·rintro⟨h1,h2⟩
    by_cases e:b=m
    ·exact .inr e
    ·exact .inl ⟨by omega,h2⟩
  ·next ht=>
   rw[ih];constructor
   ·rintro⟨h1,h2⟩;exact⟨by omega,h2⟩
   ·rintro⟨h1,h2⟩
    by_cases e:b=m
    ·subst e;exact absurd h2 ht
    ·exact⟨by omega,h2⟩
theorem Dq:∀m,(dJ l m).Pairwise (·< ·):=by
 intro m
 induction m with
 |zero=>exact List.Pairwise.nil
 |succ m ih=>
  unfold dJ;split
  ·refine List.pairwise_append.2 ⟨ih,List.pairwise_singleton _ _,fun a ha b hb=>?_⟩;simp at hb;subst hb;exact((qg b a).1 ha).1
  ·exact ih
def xg(l:Nat->Nat×Nat)(Lp:Nat->Bool)(φ:Nat->Rat):Prop:=∀i,Lp i=true->φ (l i).1=φ (l i).2
def TW(n:Nat)(dep f:Nat->Nat):Prop:=∀b,b<n->f b<n/\(f b=b∨dep (f b)<dep b)
def CF(n:Nat)(f:Nat->Nat)(φ:Nat->Rat):Prop:=∀b,b<n->φ (f b)=φ b
theorem Hp{Lp:Nat->Bool}{b:Nat}(hb:b<m)(hT:nj l b=true)(hn:Lp b=false)(hL:∀i,Lp i=true->i<m/\nj l i=true)(hP:∀j,j<m->nj l j=false->∀φ,xg l Lp φ->φ (l j).1=φ (l j).2):
 ∃φ:Nat->Rat,(∀k,k<m->k≠b->φ (l k).1=φ (l k).2)/\φ (l b).1≠φ (l b).2:=by
 obtain⟨φ,h1,h2⟩:=indep l m b hb hT;refine⟨φ,fun k hk hkb=>?_,h2⟩
 by_cases ht:nj l k=true
 ·exact h1 k hk ht hkb
 ·refine hP k hk (by simpa using ht) φ fun i hi=>?_;obtain⟨a1,a2⟩:=hL i hi;exact h1 i a1 a2 fun e=>by rw[e,hn]at hi;cases hi
def DEP(n:Nat)(U:Nat->Int×Nat)(dep:Nat->Nat):Prop:=∀b,b<n->(U b=(-1,b)->dep b=0)/\∀i p,U b=(((i:Nat):Int),p)->dep b=dep p+1
theorem Ay{Lp:Nat->Bool}{O:List Nat}{U:Nat->Int×Nat}{ρ dep:Nat->Nat}{i a b:Nat}(fo:FO n (oP l m) O U ρ)(cl:Cl (oP l m) O ρ)(hall:∀b,b<n->b∈O)(hd:DEP n U dep)(hv:∀i,i<m->(l i).1<n/\(l i).2<n)
 (hL:∀i,Lp i=true->i<m/\nj l i=true) (him:i<m) (hi:nj l i=false) (ha:a<n) (hb:b<n) (hab:a≠b) (TG:¬dep a<dep b)
 (hw:(∀φ,xg l Lp φ->φ (l i).1=φ a/\φ (l i).2=φ b)∨(∀φ,xg l Lp φ->φ (l i).1=φ b/\φ (l i).2=φ a)):
 ∃k p,U a=(((k:Nat):Int),p)/\k<m/\nj l k=true/\p<n/\dep a=dep p+1/\(l k=(p,a)∨l k=(a,p)):=by
 have hon:OnF l m (fun x=>(ρ x:Rat)):=fun k hk ht=>by
  have h1:=(cl (l k).1 (hall _ (hv k hk).1) (k,(l k).2) ((qd m _ _).2 ⟨k,hk,ht, .inl ⟨rfl,rfl⟩⟩)).2
  show((ρ (l k).1:Nat):Rat)=((ρ (l k).2:Nat):Rat)
  rw[<-h1]
 have hc:xg l Lp (fun x=>(ρ x:Rat)):=fun k hk=>hon k (hL k hk).1 (hL k hk).2
 have Rt:((ρ (l i).1:Nat):Rat)=((ρ (l i).2:Nat):Rat):=by
  have h1:=Aw (φ:=fun x=>(ρ x:Rat)) i (fun k hk=>hon k (by omega));have e:uf l i (l i).1=uf l i (l i).2:=by unfold nj at hi;simpa using hi
  rw[<-h1 (l i).1,<-h1 (l i).2,e]
 have hab':ρ a=ρ b:=by
  have:((ρ a:Nat):Rat)=((ρ b:Nat):Rat):=by
   rcases hw with h|h
   ·obtain⟨h1,h2⟩:=h _ hc;rw[<-h1,<-h2];exact Rt
   ·obtain⟨h1,h2⟩:=h _ hc;rw[<-h1,<-h2];exact Rt.symm
  exact_mod_cast this
 obtain⟨ja,hja⟩:=aJ (hall a ha);obtain⟨jb,hjb⟩:=aJ (hall b hb);rcases fo.Oo ja a hja with ⟨h1,h2⟩|⟨k,p,h1,h2,h3,h4⟩
 ·exfalso;have d0:=(hd a ha).1 h1;rcases fo.Oo jb b hjb with ⟨h5,h6⟩|⟨k,p,h5,h6,h7,h8⟩
  ·exact hab (by rw[<-h2,<-h6,hab'])
  ·have:=(hd b hb).2 k p h5;omega
 ·have hp:=fo.lt p (List.mem_of_mem_take h2);obtain⟨k',e1,e2,e3⟩:=(qd m p (k,a)).1 h3;rcases e3 with ⟨e4,e5⟩|⟨e4,e5⟩
  ·injection e5 with e6 e7
   subst e6;exact⟨k,p,h1,e1,e2,hp,(hd a ha).2 k p h1, .inl (by rw[e4,e7])⟩
  ·injection e5 with e6 e7
   subst e6;exact⟨k,p,h1,e1,e2,hp,(hd a ha).2 k p h1, .inr (by rw[e4,e7])⟩
end
end Go.Proofs.YtkmpoleajjgfaaaGreat
namespace Go.Proofs.YtkmpoleajjgfaaaGreat
open Go.RowKit Gm
set_option maxRecDepth 100000
set_option maxHeartbeats 16000000
def PR(U:Nat->Int×Nat):Nat->Int:=fun j=>if j % 2=0 then(U (j/2)).1 else((U (j/2)).2:Int)
def jh(w:World)(g n:Nat)(U:Nat->Int×Nat):Prop:=w.heap[g]?=some (.cells (cQ (n*2) (PR U)) 63 (0,0))
section
variable {w w':World}{g n:Nat}{U:Nat->Int×Nat}
theorem jh.lt(h:jh w g n U):g<w.heap.size:=by
 rcases aN g w.heap.size with hlt|hge
 ·exact hlt
 ·unfold jh at h;rw[Array.getElem?_eq_none hge]at h;cases h
theorem jh.c0(h:jh w g n U){i:Nat}(hi:i<n):w.cell? ⟨g,i*2,none⟩=some (.int .i64 (U i).1):=by
 rw[aT w g _ _ _ (0,0) h,mN (by omega)];unfold PR;rw[if_pos (by omega),show i*2/2=i by omega]
theorem jh.c1(h:jh w g n U){i:Nat}(hi:i<n):w.cell? ⟨g,i*2+1,none⟩=some (.int .i64 ((U i).2:Int)):=by
 rw[aT w g _ _ _ (0,0) h,mN (by omega)];unfold PR;rw[if_neg (by omega),show(i*2+1)/2=i by omega]
theorem jh.frozen(h:jh w g n U)(i:Nat):w.frozen? ⟨g,i,none⟩=false:=by
 unfold jh at h;simp[World.frozen?,h]
theorem jh.bJ{P:Nat->Prop}(h:jh w g n U)(hc:bw P w w')(hg:¬P g):jh w' g n U:=(hc.block g h.lt hg).trans h
theorem jh.set(h:jh w g n U)(i:Nat)(u:Int×Nat):jh ((w.setCell ⟨g,i*2,none⟩ (.int .i64 u.1)).setCell ⟨g,i*2+1,none⟩ (.int .i64 (u.2:Int))) g n (bE U i u):=by
 have e:cQ (n*2) (PR (bE U i u))=((cQ (n*2) (PR U)).setIfInBounds (i*2) (.int .i64 u.1)).setIfInBounds (i*2+1) (.int .i64 (u.2:Int)):=by
  rw[pz,pz];refine pY fun j _=>?_;unfold PR bE
  by_cases h1:j=i*2+1
  ·subst h1;rw[if_neg (by omega),if_pos rfl,if_pos (by omega)]
  ·rw[if_neg h1]
   by_cases h2:j=i*2
   ·subst h2;rw[if_pos (by omega),if_pos rfl,if_pos (by omega)]
   ·rw[if_neg h2]
    by_cases h3:j % 2=0
    ·rw[if_pos h3,if_neg (show¬j/2=i by omega)];exact(if_pos h3).symm
    ·rw[if_neg h3,if_neg (show¬j/2=i by omega)];exact(if_neg h3).symm
 unfold jh at h⊢;rw[e];simp[World.setCell,Array.getElem?_modify,h]
end
theorem Ky:(Tryz.prog.info? 63).map (fun i=>(i.zero,i.size,i.bytes))=some (some (.agg #[.int .i64 0, .int .i64 0]),2,16):=by kernel_rfl
theorem OB:(Tryz.prog.info? 4).map (fun i=>(i.zero,i.size,i.bytes))=some (some (.bool false),1,1):=by kernel_rfl
theorem Kz(z:Int)(n:Nat)(hz:z=(n:Int))(hn:n<=1073741824)(u:World):
 (Instr.makeSlice 30 (.int .i64 z) (.int .i64 z)).run Tryz.prog u= .ok (.slice (some ⟨u.heap.size,0,none⟩) n n) (u.alloc (.cells (cQ (n*2) (PR fun _=>(0,0))) 63)):=by
 obtain⟨i0,hi,hz0,hz1,hz2⟩:=info_parts Ky;subst hz;have h:=run_make (P:=Tryz.prog) u 30 63 i0 (.agg #[.int .i64 0, .int .i64 0]) Tryz.underlying30 hi hz0 .i64 .i64 (n:Int) (n:Int) (by omega) (Int.le_refl _) (by rw[hz2];omega) (by omega);simp only[Int.toNat_natCast]at h
 have e:madeCells (Value.agg #[.int .i64 0, .int .i64 0]).cells (n*i0.size)=cQ (n*2) (PR fun _=>(0,0)):=by
  rw[hz1];simp only[madeCells,cQ,Value.cells];apply Array.ext
  ·simp
  ·intro i h1 h2;have h3:i % 2=0∨i % 2=1:=by omega
   rcases h3 with h3|h3<;>simp[PR,h3]
 rw[e]at h;exact h
theorem tX(z:Int)(n:Nat)(hz:z=(n:Int))(hn:n<=1073741824)(u:World):
 (Instr.makeSlice 86 (.int .i64 z) (.int .i64 z)).run Tryz.prog u= .ok (.slice (some ⟨u.heap.size,0,none⟩) n n) (u.alloc (.cells ((List.range n).map fun _=>Value.bool false).toArray 4)):=by
 obtain⟨i0,hi,hz0,hz1,hz2⟩:=info_parts OB;subst hz;have h:=run_make (P:=Tryz.prog) u 86 4 i0 (.bool false) Tryz.underlying86 hi hz0 .i64 .i64 (n:Int) (n:Int) (by omega) (Int.le_refl _) (by rw[hz2];omega) (by omega);simp only[Int.toNat_natCast]at h
 have e:madeCells (Value.bool false).cells (n*i0.size)=((List.range n).map fun _=>Value.bool false).toArray:=by
  rw[hz1];simp only[madeCells,Value.cells];apply Array.ext
  ·simp
  ·intro i h1 h2;simp[Nat.mod_one]
 rw[e]at h;exact h
def WAYS(w:World)(g n:Nat)(A:Nat->List (Nat×Nat)):Prop:=
 ∀b,b<n->∃D c,w.cell? ⟨g,b,none⟩=some (.slice D (A b).length c)/\PL w D (A b).length (fun i=>(A b)[i]?.getD (0,0))
theorem WAYS.below{w w':World}{g n:Nat}{A:Nat->List (Nat×Nat)}(h:WAYS w g n A)(hb:Below w.heap.size w w'):WAYS w' g n A:=fun b FK=>by
 obtain⟨D,c,h1,h2⟩:=h b FK;exact⟨D,c,(hb.cell (p:=⟨g,b,none⟩) (aG w _ h1)).trans h1,h2.below hb⟩
theorem kG:∀(n:Nat) (l:List Nat),l.Nodup->(∀x∈l,x<n)->l.length<=n
 |0,l,_,h=>by
  cases l with
  |nil=>exact aj _
  |cons x l=>have:=h x (by simp);omega
 |n+1,l,hn,h=>by
  have h1:=kG n (l.erase n) (hn.erase n) (fun x hx=>by
   have h2:=(hn.mem_erase_iff.1 hx);have:=h x h2.2;omega)
  by_cases hm:n∈l
  ·rw[List.length_erase_of_mem hm]at h1;omega
  ·rw[List.erase_of_not_mem hm]at h1;omega
structure Az(w:World)(gu gs n:Nat)(O:List Nat)(v:Value)(U:Nat->Int×Nat)(wr:World):Prop where
 pu:jh wr gu n U
 ps:dm wr gs 4 n (fun i=> .bool (decide (i∈O)))
 own:wr.ownsRow w.heap.size 3 1 v O.length (cH O)
 vu:v.ownBlock≠some gu
 vs:v.ownBlock≠some gs
 us:gu≠gs
 lu:w.heap.size<=gu
 ls:w.heap.size<=gs
 mH:Below w.heap.size w wr
section
variable {w wr w':World}{gu gs n:Nat}{O:List Nat}{v v':Value}{U:Nat->Int×Nat}
theorem Az.new(h:Az w gu gs n O v U wr)(hb:Below wr.heap.size wr w'):Az w gu gs n O v U w':=by
 have hc:=bw.of (P:=fun _=>False) hb;exact⟨h.pu.bJ hc (fun h=>h),h.ps.bJ hc (fun h=>h),bL h.own hc (fun _ _ h=>h),h.vu,h.vs,h.us,h.lu,h.ls,h.mH.trans (hb.mono h.mH.size)⟩
theorem Az.push(h:Az w gu gs n O v U wr){t:Nat}{u:Int×Nat}{w4 w5:World}(h4:Below wr.heap.size (((wr.setCell ⟨gs,t,none⟩ (.bool true)).setCell ⟨gu,t*2,none⟩ (.int .i64 u.1)).setCell ⟨gu,t*2+1,none⟩ (.int .i64 (u.2:Int))) w4)
 (ho:w5.ownsRow w.heap.size 3 1 v' (O.length+1) (cH O++ [.int .i64 (t:Int)])) (hg:w4.grownBy w5 v.ownBlock) (hv:v'.ownBlock=v.ownBlock∨v'.ownBlock=some w4.heap.size):Az w gu gs n (O++ [t]) v' (bE U t u) w5:=by
 obtain⟨h1,h2,h3,CP,hvs,NQ,vZ,hls,hb⟩:=h;have z1:=h1.lt;have z2:=h2.lt
 have c1:bw (fun k=>k=gs∨k=gu) wr (((wr.setCell ⟨gs,t,none⟩ (.bool true)).setCell ⟨gu,t*2,none⟩ (.int .i64 u.1)).setCell ⟨gu,t*2+1,none⟩ (.int .i64 (u.2:Int))):=
  ((bw.set (P:=fun k=>k=gs∨k=gu) (p:=⟨gs,t,none⟩) (.inl rfl) _ _).trans (bw.set (P:=fun k=>k=gs∨k=gu) (p:=⟨gu,t*2,none⟩) (.inr rfl) _ _)).trans (bw.set (P:=fun k=>k=gs∨k=gu) (p:=⟨gu,t*2+1,none⟩) (.inr rfl) _ _)
 have c4:=bw.of (P:=fun _=>False) (show Below (((wr.setCell ⟨gs,t,none⟩ (.bool true)).setCell ⟨gu,t*2,none⟩ (.int .i64 u.1)).setCell ⟨gu,t*2+1,none⟩ (.int .i64 (u.2:Int))).heap.size _ w4 by rw[World.size_setCell,World.size_setCell,World.size_setCell];exact h4);have c5:=bw.grown hg;have s4:wr.heap.size<=w4.heap.size:=by have:=c4.size;rw[World.size_setCell,World.size_setCell,World.size_setCell]at this;exact this
 have hu5:some gu≠v.ownBlock:=fun e=>CP e.symm;have hs5:some gs≠v.ownBlock:=fun e=>hvs e.symm;refine⟨?_,?_,?_,?_,?_,NQ,vZ,hls,?_⟩
 ·exact(((h1.bJ (bw.set (P:=(·=gs)) (p:=⟨gs,t,none⟩) rfl _ _) NQ).set t u).bJ c4 (fun h=>h)).bJ c5 hu5
 ·have hA:=(((h2.set t (.bool true)).bJ (bw.set (P:=(·=gu)) (p:=⟨gu,t*2,none⟩) rfl _ _) (fun e=>NQ e.symm)).bJ (bw.set (P:=(·=gu)) (p:=⟨gu,t*2+1,none⟩) rfl _ _) (fun e=>NQ e.symm)).bJ c4 (fun h=>h);refine(hA.bJ c5 hs5).congr fun i _=>?_
  by_cases e:i=t
  ·subst e;rw[aW];simp
  ·rw[bk _ _ e];simp[e]
 ·simpa [cH] using ho
 ·rcases hv with e|e
  ·rw[e];exact CP
  ·rw[e];intro e2;injection e2 with e2;omega
 ·rcases hv with e|e
  ·rw[e];exact hvs
  ·rw[e];intro e2;injection e2 with e2;omega
 ·have b1:=hb.trans (c1.below hb.size (fun k hk e=>by omega));have b4:=b1.trans (c4.below (by rw[World.size_setCell,World.size_setCell,World.size_setCell];exact hb.size) (fun _ _ h=>h));refine b4.trans (c5.below (by have:=hb.size;omega) (fun k hk e=>?_));have:=(h3.lt _ e.symm).1;omega
end
theorem xh(w:World)(o:Obj):Below w.heap.size w (w.alloc o):=(aq _ _).alloc (aj _) _
theorem lH{w:World}{lo size n:Nat}{e:TypeId}{v:Value}{xs:List Value}(h:w.ownsRow lo e size v n xs):∃D c,v= .slice D n c:=by
 obtain⟨_,⟨rfl,rfl⟩|⟨g,cap,_,rfl,_⟩⟩:=h
 ·exact⟨none,0,rfl⟩
 ·exact⟨_,cap,rfl⟩
theorem Az.ready{w wr:World}{gu gs n:Nat}{O:List Nat}{v:Value}{U:Nat->Int×Nat}(h:Az w gu gs n O v U wr)(t:Nat)(u:Int×Nat)(o:Obj):
 ((((wr.setCell ⟨gs,t,none⟩ (.bool true)).setCell ⟨gu,t*2,none⟩ (.int .i64 u.1)).setCell ⟨gu,t*2+1,none⟩ (.int .i64 (u.2:Int))).alloc o).ownsRow w.heap.size 3 1 v O.length (cH O)/\w.heap.size<=((((wr.setCell ⟨gs,t,none⟩ (.bool true)).setCell ⟨gu,t*2,none⟩ (.int .i64 u.1)).setCell ⟨gu,t*2+1,none⟩ (.int .i64 (u.2:Int))).alloc o).heap.size/\
 Below wr.heap.size (((wr.setCell ⟨gs,t,none⟩ (.bool true)).setCell ⟨gu,t*2,none⟩ (.int .i64 u.1)).setCell ⟨gu,t*2+1,none⟩ (.int .i64 (u.2:Int))) ((((wr.setCell ⟨gs,t,none⟩ (.bool true)).setCell ⟨gu,t*2,none⟩ (.int .i64 u.1)).setCell ⟨gu,t*2+1,none⟩ (.int .i64 (u.2:Int))).alloc o):=by
 have c1:bw (fun k=>k=gs∨k=gu) wr (((wr.setCell ⟨gs,t,none⟩ (.bool true)).setCell ⟨gu,t*2,none⟩ (.int .i64 u.1)).setCell ⟨gu,t*2+1,none⟩ (.int .i64 (u.2:Int))):=
  ((bw.set (P:=fun k=>k=gs∨k=gu) (p:=⟨gs,t,none⟩) (.inl rfl) _ _).trans (bw.set (P:=fun k=>k=gs∨k=gu) (p:=⟨gu,t*2,none⟩) (.inr rfl) _ _)).trans (bw.set (P:=fun k=>k=gs∨k=gu) (p:=⟨gu,t*2+1,none⟩) (.inr rfl) _ _)
 have sz:(((wr.setCell ⟨gs,t,none⟩ (.bool true)).setCell ⟨gu,t*2,none⟩ (.int .i64 u.1)).setCell ⟨gu,t*2+1,none⟩ (.int .i64 (u.2:Int))).heap.size=wr.heap.size:=by rw[World.size_setCell,World.size_setCell,World.size_setCell]
 refine⟨bL (bL h.own c1 fun k hk e=>?_) (bw.alloc (P:=fun _=>False) _ _) (fun _ _ h=>h),?_,?_⟩
 ·rcases e with rfl|rfl
  ·exact h.vs hk
  ·exact h.vu hk
 ·have:=h.mH.size;have e:=(bw.alloc (P:=fun _=>False) (((wr.setCell ⟨gs,t,none⟩ (.bool true)).setCell ⟨gu,t*2,none⟩ (.int .i64 u.1)).setCell ⟨gu,t*2+1,none⟩ (.int .i64 (u.2:Int))) o).size;omega
 ·have e:=xh (((wr.setCell ⟨gs,t,none⟩ (.bool true)).setCell ⟨gu,t*2,none⟩ (.int .i64 u.1)).setCell ⟨gu,t*2+1,none⟩ (.int .i64 (u.2:Int))) o;rw[sz]at e;exact e
theorem OC{w:World}{g n c:Nat}{A:Nat->List (Nat×Nat)}(hn:n<=16384)(hw:WAYS w g n A)(hsy:Sym n A)(hla:∀b,(A b).length<=1073741824):
 Calls Tryz.prog 18 #[.slice (some ⟨g,0,none⟩) n c] w (fun e w'=>∃v gu,e= .returned (.tuple #[v, .slice (some ⟨gu,0,none⟩) n n])/\w.heap.size<=gu/\(∃O U ρ,w'.ownsRow w.heap.size 3 1 v O.length (cH O)/\jh w' gu n U/\FO n A O U ρ/\Cl A O ρ/\∀b,b<n->b∈O)/\Below w.heap.size w w'):=by
 have hm1:=Kz (n:Int) n rfl (by omega);have hm2:=tX (n:Int) n rfl (by omega)
 have rs:Az w w.heap.size (w.alloc (.cells (cQ (n*2) (PR fun _=>(0,0))) 63)).heap.size n [] (.slice none 0 0) (fun _=>(0,0)) ((w.alloc (.cells (cQ (n*2) (PR fun _=>(0,0))) 63)).alloc (.cells ((List.range n).map fun _=>Value.bool false).toArray 4)):=by
  have hp:jh (w.alloc (.cells (cQ (n*2) (PR fun _=>(0,0))) 63)) w.heap.size n (fun _=>(0,0)):=aS w _;refine⟨hp.bJ (bw.alloc (P:=fun _=>False) _ _) (fun h=>h),(dm.new _ 4 n _).congr fun i _=>by simp,World.ownsRow_nil _ _ _ _,by simp[Value.ownBlock],by simp[Value.ownBlock],by simp,aj _,by simp,?_⟩;exact((aq _ _).alloc (aj _) _).alloc (by simp) _
 obtain⟨gu,egu⟩:=xeq w.heap.size;obtain⟨gs,egs⟩:=xeq ((w.alloc (.cells (cQ (n*2) (PR fun _=>(0,0))) 63)).heap.size);have hll:w.heap.size<=gu:=by omega
 rw[egu,egs]at rs;go_enter Tryz.func18,Tryz.ntmps18
 go_wp2_with fail
 clear hm1 hm2
 go_loopw [2,19] (fun v t wr=>∃k:Nat,k<=n/\t= .int .i64 (k:Int)/\∃O U ρ,Az w gu gs n O v U wr/\FO n A O U ρ/\Cl A O ρ/\∀b,b<k->b∈O) (fun _ t _=>n- (intOf t).toNat)
 case atStart=>exact⟨0,aF _,rfl,[],fun _=>(0,0),fun i=>i,rs,⟨List.nodup_nil,fun b hb=>by simp at hb,fun j b hb=>by simp at hb⟩,fun b hb=>by simp at hb,fun b hb=>by omega⟩
 case round=>
  clear rs;obtain⟨k,hk,rfl,O,U,ρ,rs,fo,cl,hb⟩:=hrel
  by_cases hlt:k<n
  ·have i0:(0:Int)<=(k:Int):=by omega
   have i1:(k:Int)<n:=by omega
   have s0:=rs.ps.cell hlt
   by_cases Xn:k∈O
   ·have s0':wr.cell? ⟨gs,k,none⟩=some (.bool true):=by rw[s0,decide_eq_true Xn]
    have H:=ah (show∃O U ρ,Az w gu gs n O u2 U wr/\FO n A O U ρ/\Cl A O ρ/\∀b,b<k+1->b∈O from⟨O,U,ρ,rs,fo,cl,fun b hbk=>by
     by_cases e:b=k
     ·subst e;exact Xn
     ·exact hb b (by omega)⟩)
    clear s0 rs fo cl hb hw hsy hla Xn;go_wp2_with fail
    go_roundw
    case rel=>exact⟨k+1,by omega,by go_num,H.out⟩
    case measure=>simp[intOf];omega
   ·have s0':wr.cell? ⟨gs,k,none⟩=some (.bool false):=by rw[s0,decide_eq_false Xn]
    obtain⟨D2,c2,rfl⟩:=lH rs.own;have lO:O.length<=n:=kG n O fo.nd fo.lt;have p0:=rs.pu.c0 hlt;have p1:=rs.pu.c1 hlt;have z0:=rs.ps.frozen k;have z1:=rs.pu.frozen (k*2);have z2:=rs.pu.frozen (k*2+1);have NQ:=rs.us;have OD:gs≠gu:=fun e=>NQ e.symm;obtain⟨W3,Jo⟩:=xeq (((wr.setCell ⟨gs,k,none⟩ (.bool true)).setCell ⟨gu,k*2,none⟩ (.int .i64 (-1))).setCell ⟨gu,k*2+1,none⟩ (.int .i64 (k:Int)));have OE:=rs.ready k (-1,k) (.cells #[.int .i64 (k:Int)] 3);have bf:=BF.start fo cl Xn hlt;dsimp only at OE;rw[Jo]at OE;obtain⟨W4,sw⟩:=xeq (W3.alloc (.cells #[.int .i64 (k:Int)] 3));rw[sw]at OE;have h4:W4.heap[W3.heap.size]?=some (.cells #[.int .i64 (k:Int)] 3 (0,0)):=by rw[<-sw];exact aS W3 _
    obtain⟨ho4,M9,hb4⟩:=OE;have YO:=ah rs;have YP:=ah bf;have HSY:=ah hsy;have HB:=ah hb;clear rs fo cl hb s0 Xn bf hsy
    go_wp2_with (first
     |(at_builtin;refine mP rfl (.tmp 36) (.tmp 38) rfl rfl ho4 rfl h4 (by omega) M9 ?_;intro g5 VZ w5 ho5 gr5 or5 lt5))
    have rs5:Az w gu gs n (O++ [k]) (.slice (some ⟨g5,0,none⟩) (O.length+1) VZ) (bE U k (-1,k)) w5:=
     YO.out.push (t:=k) (u:=(-1,k)) (w4:=W4) (by subst Jo;exact hb4) ho5 gr5 (by rcases or5 with h|h;exact .inl h.symm;exact .inr (congrArg some h))
    clear ho5 gr5 or5 lt5 h4 sw Jo ho4 M9 hb4 p0 p1 z0 z1 z2 s0' YO
    go_loopw [2,6] (fun v t wq=>∃q:Nat,t= .int .i64 (q:Int)/\∃T U ρ,Az w gu gs n (O++T) v U wq/\BF n A O T U ρ k q 0/\q<=(O++T).length/\k∈O++T) (fun _ t _=>n- (intOf t).toNat)
    case atStart=>exact⟨O.length,rfl,[k],_,_,rs5,YP.out,by simp,by simp⟩
    case round=>
     clear rs5 YP;obtain⟨q,rfl,T,U1,ρ1,rs,bf,hq,Ru⟩:=hrel;have lT:(O++T).length<=n:=kG n _ bf.fo.nd bf.fo.lt
     by_cases rO:q< (O++T).length
     ·obtain⟨b,hb⟩:∃b,(O++T)[q]?=some b:=⟨_,aB rO⟩;have FK:=bf.fo.lt b (aD hb);have JO:b∈T:=by have h:=hb;rw[aK bf.le]at h;exact aD h
      obtain⟨gv,cv,rfl,_,_⟩:=rs.own.form (by omega);have cq:=rs.own.cells (g:=gv) rfl q (.int .i64 (b:Int)) (by unfold cH;rw[List.getElem?_map,hb];rfl);rw[show(⟨gv,0,none⟩:Addr).add q=⟨gv,q,none⟩ by unfold Addr.add;split<;>simp_all]at cq;obtain⟨D,cD,hD0,hPL⟩:=hw b FK;have hD:=(rs.mH.cell (p:=⟨g,b,none⟩) (aG w _ hD0)).trans hD0;have j0:(0:Int)<=(q:Int):=by omega
      have j1:(q:Int)< ((O++T).length:Int):=by omega
      have j2:(0:Int)<=(b:Int):=by omega
      have j3:(b:Int)<n:=by omega
      have hlb:=hla b;obtain⟨lx,Xo⟩:=xeq ((O++T).length);rw[Xo]at j1 rs hq rO;have YO:=ah rs;have YP:=ah bf;have wT:=ah hb;have HW:=ah hw;clear rs bf hb hw hD0 hla;go_wp2_with fail
      go_loopw [2,55] (fun v t wz=>∃e:Nat,e<=(A b).length/\t= .int .i64 (e:Int)/\∃T U ρ,Az w gu gs n (O++T) v U wz/\BF n A O T U ρ k q e/\(O++T)[q]?=some b/\b∈T/\k∈O++T) (fun _ t _=>(A b).length- (intOf t).toNat)
      case atStart=>exact⟨0,aF _,rfl,T,_,_,by rw[Xo];exact YO.out,YP.out,wT.out,JO,Ru⟩
      case round=>
       clear YO YP wT JO Ru cq hD Xo j0 j1 hq rO lT;obtain⟨e,hel,rfl,T,U2,ρ2,rs,bf,hb,JO,Ru⟩:=hrel;have lT:(O++T).length<=n:=kG n _ bf.fo.nd bf.fo.lt
       by_cases YQ:e< (A b).length
       ·obtain⟨x,hx⟩:∃x,(A b)[e]?=some x:=⟨_,aB YQ⟩;obtain⟨hxn,_⟩:=HSY.out b FK x (aD hx);obtain⟨bD,oD,rfl,hbl,hcl⟩:=(hPL.below rs.mH) (by omega);obtain⟨e0,e1⟩:=hcl e YQ;dsimp only at e0 e1;rw[hx]at e0 e1;obtain⟨li,ty⟩:=x;dsimp only[Option.getD_some]at e0 e1 hxn;have j4:(0:Int)<=(e:Int):=by omega
        have j5:(e:Int)< (A b).length:=by omega
        have j6:(0:Int)<=(ty:Int):=by omega
        have j7:(ty:Int)<n:=by omega
        have Jp:=rs.new (xh wr (.cells #[.int .i64 (li:Int), .int .i64 (ty:Int)] 63));obtain⟨Wb,oV⟩:=xeq (wr.alloc (.cells #[.int .i64 (li:Int), .int .i64 (ty:Int)] 63));have z0:Wb.cell? ⟨wr.heap.size,0,none⟩=some (.int .i64 (li:Int)):=by rw[<-oV,aT _ _ 0 _ _ _ (aS wr _)];rfl
        have z1:Wb.cell? ⟨wr.heap.size,1,none⟩=some (.int .i64 (ty:Int)):=by rw[<-oV,aT _ _ 1 _ _ _ (aS wr _)];rfl
        have hsB:gs<wr.heap.size:=rs.ps.lt;have huB:gu<wr.heap.size:=rs.pu.lt;rw[oV]at Jp;have s0:=Jp.ps.cell hxn;clear rs hcl
        by_cases hto:ty∈O++T
        ·rw[decide_eq_true hto]at s0;have H:=ah (show∃T U ρ,Az w gu gs n (O++T) u2 U Wb/\BF n A O T U ρ k q (e+1)/\(O++T)[q]?=some b/\b∈T/\k∈O++T from⟨T,U2,ρ2,Jp,bf.skip hb hx hto,hb,JO,Ru⟩);clear Jp bf hto hb hx JO Ru;go_wp2_with fail
         go_roundw
         case rel=>exact⟨e+1,by omega,by go_num,H.out⟩
         case measure=>simp[intOf];omega
        ·rw[decide_eq_false hto]at s0;obtain⟨D3,c3,rfl⟩:=lH Jp.own;have p0:=Jp.pu.c0 hxn;have p1:=Jp.pu.c1 hxn;have y0:=Jp.ps.frozen ty;have y1:=Jp.pu.frozen (ty*2);have y2:=Jp.pu.frozen (ty*2+1);have n1:wr.heap.size≠gs:=by omega
         have n2:wr.heap.size≠gu:=by omega
         have n3:gs≠wr.heap.size:=by omega
         have n4:gu≠wr.heap.size:=by omega
         obtain⟨W3,Jo⟩:=xeq (((Wb.setCell ⟨gs,ty,none⟩ (.bool true)).setCell ⟨gu,ty*2,none⟩ (.int .i64 (li:Int))).setCell ⟨gu,ty*2+1,none⟩ (.int .i64 (b:Int)));have OE:=Jp.ready ty ((li:Int),b) (.cells #[.int .i64 (ty:Int)] 3);dsimp only at OE;rw[Jo]at OE;obtain⟨W4,sw⟩:=xeq (W3.alloc (.cells #[.int .i64 (ty:Int)] 3));rw[sw]at OE;have h4:W4.heap[W3.heap.size]?=some (.cells #[.int .i64 (ty:Int)] 3 (0,0)):=by rw[<-sw];exact aS W3 _
         obtain⟨ho4,M9,hb4⟩:=OE;have anh:=ah Jp;have ani:=ah (bf.add hb hx hto hxn JO);have Co:=ah hb;have SD:=ah hb;clear Jp bf hb hto hx
         go_wp2_with (first
          |(at_builtin;refine mP rfl (.tmp 76) (.tmp 78) rfl rfl ho4 rfl h4 (by omega) M9 ?_;intro g6 anj w6 ho6 gr6 or6 lt6))
         have rs6:Az w gu gs n (O++ (T++ [ty])) (.slice (some ⟨g6,0,none⟩) ((O++T).length+1) anj) (bE U2 ty ((li:Int),b)) w6:=by
          rw[<-List.append_assoc];exact anh.out.push (t:=ty) (u:=((li:Int),b)) (w4:=W4) (by subst Jo;exact hb4) ho6 gr6 (by rcases or6 with h|h;exact .inl h.symm;exact .inr (congrArg some h))
         clear ho6 gr6 or6 lt6 h4 sw Jo ho4 M9 hb4 p0 p1 y0 y1 y2 z0 z1 s0;go_roundw
         case rel=>
          rw[List.length_append]at rs6;exact⟨_,_,_,_,⟨e+1,by omega,by simp,T++ [ty],_,rs6,⟨_,ani.out⟩,by rw[<-List.append_assoc,aL (aC.1 Co.out).1];exact Co.out,List.mem_append_left _ JO,by rcases List.mem_append.1 Ru with h|h;exact .inl h;exact .inr (List.mem_append_left _ h)⟩,rfl,rfl,rfl,rfl⟩
         case measure=>simp[intOf];omega
       ·obtain rfl:e=(A b).length:=by omega
        have hqT:=(aC.1 hb).1;have bf2:=bf.next hb (aj _);have ank:=ah bf2;clear bf bf2 hb;go_wp2_with fail
        go_roundw
        case rel=>exact⟨q+1,by go_num,T,_,_,rs,ank.out,by omega,Ru⟩
        case measure=>simp[intOf];omega
     ·have cl2:=bf.close HSY.out (by omega);have fo2:=bf.fo
      have H:=ah (show∃O U ρ,Az w gu gs n O u2 U wr/\FO n A O U ρ/\Cl A O ρ/\∀b,b<k+1->b∈O from⟨O++T,U1,ρ1,rs,fo2,cl2,fun b hbk=>by
       by_cases e:b=k
       ·subst e;exact Ru
       ·exact List.mem_append_left _ (HB.out b (by omega))⟩)
      obtain⟨D5,c5,rfl⟩:=lH rs.own;obtain⟨lx,Xo⟩:=xeq ((O++T).length);have CQ:¬(q:Int)< (lx:Int):=by omega
      rw[Xo]at H⊢;clear rs bf fo2 cl2 hw hla Xo lT hq rO;go_wp2_with fail
      go_roundw
      case rel=>exact⟨k+1,by omega,by go_num,H.out⟩
      case measure=>simp[intOf];omega
  ·obtain rfl:k=n:=by omega
   have H:=ah (show∃O U ρ,wr.ownsRow w.heap.size 3 1 u2 O.length (cH O)/\jh wr gu k U/\FO k A O U ρ/\Cl A O ρ/\∀b,b<k->b∈O from⟨O,U,ρ,rs.own,rs.pu,fo,cl,hb⟩);have bP:=rs.mH;clear rs fo cl hb hw hsy hla;go_wp2_with fail
   go_ret2;exact⟨u2,gu,rfl,hll,H.out,bP⟩
def nu(w:World)(b k:Nat)(S:Int->Bool):Prop:=∃D:DataW Unit,w.ownsMap Tryz.prog 3 (plainElem Tryz.prog 4) b k D/\Maps.IsMap D/\∀i:Int,D.atKey (.int .i64 i) (.lit (.bool false))= .lit (.bool (S i))
theorem mh:Maps.Keyed Tryz.prog 3:=Maps.int_keyed Tryz.underlying3
theorem yA{w:World}{gt g n c b:Nat}{dep f:Nat->Nat}(hc:w.cell? ⟨gt,0,none⟩=some (.slice (some ⟨g,0,none⟩) n c))(hne:gt≠g)(hr:cC w g n (fun i=>(f i:Int)))(ht:TW n dep f)(hb:b<n):
 Calls Tryz.prog 19 #[.int .i64 (b:Int), .pointer (some ⟨gt,0,none⟩)] w (fun e w'=>∃r f',e= .returned (.int .i64 ((r:Nat):Int))/\r<n/\cC w' g n (fun i=>(f' i:Int))/\TW n dep f'/\(f b≠b->dep r<dep b)/\dep r<=dep b/\(∀φ,CF n f φ->CF n f' φ/\φ r=φ b)/\bw (·=g) w w'):=by
 go_enter Tryz.func19,Tryz.ntmps19
 go_wp2_with fail
 go_loopw [0] (fun s wr=>∃(k:Nat) (h:Nat->Nat),s= .int .i64 (k:Int)/\k<n/\cC wr g n (fun i=>(h i:Int))/\TW n dep h/\(k=b/\h=f∨dep k<dep b)/\(∀φ,CF n f φ->CF n h φ/\φ k=φ b)/\bw (·=g) w wr) (fun s _=>dep (intOf s).toNat)
 case atStart=>exact⟨b,f,rfl,hb,hr,ht, .inl ⟨rfl,rfl⟩,fun φ h=>⟨h,rfl⟩,bw.refl _ _⟩
 case round=>
  obtain⟨k,h,rfl,hk,hr,ht,hd,hφ,hC⟩:=hrel;have hc':=hC.cell hne hc;obtain⟨h1,h2⟩:=ht k hk;obtain⟨h3,h4⟩:=ht (h k) h1;have i0:(0:Int)<=(k:Int):=by omega
  have i1:(k:Int)<n:=by omega
  have i2:(0:Int)<=(h k:Int):=by omega
  have i3:(h k:Int)<n:=by omega
  have c0:=hr.cell hk;have c1:=hr.cell h1;have fz:=hr.frozen k
  by_cases e:h k=k
  ·have e':(h k:Int)=(k:Int):=by omega
   rw[e']at c0
   have H:=ah (show∃f',k<n/\cC wr g n (fun i=>(f' i:Int))/\TW n dep f'/\(f b≠b->dep k<dep b)/\dep k<=dep b/\(∀φ,CF n f φ->CF n f' φ/\φ k=φ b)/\bw (·=g) w wr from⟨h,hk,hr,ht,fun iw=>by
    rcases hd with ⟨rfl,rfl⟩|hd
    ·exact absurd e iw
    ·exact hd,by
    rcases hd with ⟨rfl,_⟩|hd
    ·exact aj _
    ·omega,hφ,hC⟩)
   clear e' e c1 i2 i3 h1 h2 h3 h4 hr ht hd hφ hC fz;go_wp2_with fail
   go_ret;obtain⟨f',h⟩:=H.out;exact⟨k,f',rfl,h⟩
  ·have e':¬(h k:Int)=(k:Int):=by omega
   have hlt:dep (h k)<dep k:=by
    rcases h2 with h2|h2
    ·exact absurd h2 e
    ·exact h2
   have hle:dep (h (h k))<=dep (h k):=by
    rcases h4 with h4|h4
    ·rw[h4];exact aj _
    ·omega
   have H:=ah (show∃h',h (h k)<n/\cC (wr.drew.setCell ⟨g,k,none⟩ (.int .i64 (h (h k):Int))) g n (fun i=>(h' i:Int))/\TW n dep h'/\(h (h k)=b/\h'=f∨dep (h (h k))<dep b)/\(∀φ,CF n f φ->CF n h' φ/\φ (h (h k))=φ b)/\bw (·=g) w (wr.drew.setCell ⟨g,k,none⟩ (.int .i64 (h (h k):Int)))from
    ⟨bE h k (h (h k)),h3,by rw[mO];exact hr.drew.set k _,fun x hx=>by
      by_cases ex:x=k
      ·subst ex;rw[aW];exact⟨h3, .inr (by omega)⟩
      ·rw[bk _ _ ex];exact ht x hx, .inr (by
      rcases hd with ⟨rfl,_⟩|hd<;>omega),fun φ hc=>by
      obtain⟨a1,a2⟩:=hφ φ hc;have b1:=a1 k hk;have b2:=a1 (h k) h1;refine⟨fun x hx=>?_,by rw[b2,b1,a2]⟩
      by_cases ex:x=k
      ·subst ex;rw[aW,b2,b1]
      ·rw[bk _ _ ex];exact a1 x hx,hC.drew.trans (bw.set (P:=(·=g)) (p:=⟨g,k,none⟩) rfl _ _)⟩)
   have d0:=(hr.drew.set k (h (h k):Int)).cell hk;rw[aW]at d0;have hcs:=(bw.set (P:=(·=g)) (p:=⟨g,k,none⟩) rfl wr.drew (.int .i64 (h (h k):Int))).cell hne (show wr.drew.cell? _=_ from hc');have L:=ah (show dep (h (h k))<dep k by omega);clear h1 h2 h3 h4 hr ht hd hφ hC hlt hle;go_upto_region 2 with fail
   go_still_tail 10,(by kernel_rfl)
   change wpList _ _ _ _ _ wr.drew
   have c0':wr.drew.cell? ⟨g,k,none⟩=some (.int .i64 (h k:Int)):=c0;have fz':wr.drew.frozen? ⟨g,k,none⟩=false:=fz;clear c0 fz c1 hc';generalize wr.drew=W' at*;go_wp2_with fail
   go_roundw
   case rel=>obtain⟨h',hh⟩:=H.out;exact⟨h (h k),h',rfl,hh⟩
   case measure=>have:=L.out;simp[intOf];omega
theorem Hq(w:World):(zeroValue 4).run Tryz.prog w= .ok (.bool false) w:=by go_simp
theorem yB(i:Int)(h1: -9223372036854775808<=i)(h2:i<=9223372036854775807):keyOf Tryz.prog 3 (.int .i64 i)=some (.int .i64 i):=
 Maps.keyOf_int_mk Tryz.underlying3 (WalkArith.wf_i64 ⟨h1,h2⟩)
theorem tY{v:Value}{b:Bool}{ps:List MemPlace}(h:plainElem (H:=Unit) Tryz.prog 4 v=some (.lit (.bool b),ps)):v= .bool b:=by
 unfold plainElem at h;rw[Tryz.underlying4]at h
 cases v with
 |bool x=>
  simp only[Option.some.injEq,Prod.mk.injEq,DataW.lit.injEq,Lit.bool.injEq]at h;rw[h.1]
 |_=>cases h
theorem nu.look{w:World}{b k:Nat}{S:Int->Bool}(h:nu w b k S)(i:Int)(h1: -9223372036854775808<=i)(h2:i<=9223372036854775807):(Instr.lookup 64 (.map (some b)) (.int .i64 i) false).run Tryz.prog w= .ok (.bool (S i)) w:=by
 obtain⟨D,ho,_,hD⟩:=h;obtain⟨v,ps,hrun,hv⟩:=ho.lookup mh Tryz.underlying64 (Hq w) (plainElem_bool Tryz.underlying4 false) (yB i h1 h2);rw[hD i]at hv;rw[hrun,tY hv]
theorem nu.bJ{P:Nat->Prop}{w w':World}{b k:Nat}{S:Int->Bool}(h:nu w b k S)(hc:bw P w w')(hb:¬P b):nu w' b k S:=by
 obtain⟨D,⟨es,cl,h1,h2⟩,h3⟩:=h;exact⟨D,⟨es,cl,(hc.block b (au.1 h1).1 hb).trans h1,h2⟩,h3⟩
theorem nu.lt{w:World}{b k:Nat}{S:Int->Bool}(h:nu w b k S):b<w.heap.size:=by
 obtain⟨D,⟨es,cl,h1,h2⟩,h3⟩:=h;exact(au.1 h1).1
theorem nu.new(w:World):nu (w.alloc (.map #[] 0)) w.heap.size 0 (fun _=>false):=⟨_,World.ownsMap_made w _ _ _,Maps.isMap_empty,fun _=>rfl⟩
theorem nu.put{w':World}{b k:Nat}{D:DataW Unit}{S:Int->Bool}{i:Int}(hm:Maps.IsMap D)(hD:∀i:Int,D.atKey (.int .i64 i) (.lit (.bool false))= .lit (.bool (S i)))(ho:w'.ownsMap Tryz.prog 3 (plainElem Tryz.prog 4) b k (D.put (.int .i64 i) (.lit (.bool true))))(hk:WideAt.IsKeyLit (.int .i64 i)):nu w' b k (fun j=>if j=i then true else S j):=by
 refine⟨_,ho,hm.put _ _,fun j=>?_⟩
 by_cases e:j=i
 ·subst e;rw[Maps.atKey_put_same hm hk];show _=DataW.lit (Lit.bool (if j=j then true else S j));rw[if_pos rfl]
 ·rw[Maps.atKey_put_other (fun e2=>e (by injection e2))];show _=DataW.lit (Lit.bool (if j=i then true else S j));rw[if_neg e];exact hD j
theorem TI{w:World}{gt b k:Nat}{y:Nat}{S:Int->Bool}(hc:w.cell? ⟨gt,0,none⟩=some (.map (some b)))(hm:nu w b k S)(hy:y<=1073741824):
 Calls Tryz.prog 22 #[.int .i64 ((y:Nat):Int), .pointer (some ⟨gt,0,none⟩)] w (fun e w'=>e= .returned (.bool (S (y:Int)))/\Below w.heap.size w w'):=by
 have hl:=hm.look (y:Int) (by omega) (by omega);clear hm;go_enter Tryz.func22,Tryz.ntmps22
 go_wp2_with fail
 go_ret;exact⟨rfl,aq _ _⟩
end Go.Proofs.YtkmpoleajjgfaaaGreat
