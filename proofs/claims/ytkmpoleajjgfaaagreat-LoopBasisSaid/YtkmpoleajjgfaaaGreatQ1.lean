/- Parts of the proof, in order. -/
import Derived.Lib.Hide
import Derived.Below
import Derived.Laws.Rows
section
open Go Go.RowKit
theorem ah : ∀ {p : Prop}, p → Go.RowKit.Hid p := @Lib.hid
theorem ai : ∀ {a b : Prop}, a → b → a ∧ b := @And.intro
theorem aj : ∀ (n : Nat), n ≤ n := @Nat.le_refl
theorem ak : ∀ {n m k : Nat}, n < m → m ≤ k → n < k := @Nat.lt_of_lt_of_le
theorem aq : ∀ (B : Nat) (w : Go.World), Go.RowKit.Below B w w := @Below.refl
theorem au.{u_1} : ∀ {α : Type u_1} {i : Nat} {b : α} {xs : Array α}, xs[i]? = some b ↔ ∃ h : i < xs.size, xs[i] = b := @Array.getElem?_eq_some_iff
theorem ay : ∀ {n m k : Nat}, n ≤ m → m ≤ k → n ≤ k := @Nat.le_trans
theorem aB.{u_1} : ∀ {α : Type u_1} {l : List α} {i : Nat} (h : i < l.length), l[i]? = some l[i] := @List.getElem?_eq_getElem
theorem aC.{u_1} : ∀ {α : Type u_1} {i : Nat} {a : α} {l : List α}, l[i]? = some a ↔ ∃ h : i < l.length, l[i] = a := @List.getElem?_eq_some_iff
theorem aD.{u_1} : ∀ {α : Type u_1} {l : List α} {i : Nat} {a : α}, l[i]? = Option.some a → a ∈ l := @List.mem_of_getElem?
theorem aF : ∀ (n : Nat), 0 ≤ n := @Nat.zero_le
theorem aG : ∀ (w : Go.World) (a : Go.Addr) {u : Go.Value}, w.cell? a = Option.some u → a.block < w.heap.size := @World.block_lt_of_cell?
theorem aH : ∀ {n m : Nat} (k : Nat), n ≤ m → n * k ≤ m * k := @Nat.mul_le_mul_right
theorem aI.{u_1} : ∀ {α : Type u_1} {i : Nat} {l : List α}, l.length ≤ i → List.take i l = l := @List.take_of_length_le
theorem aJ.{u_1} : ∀ {α : Type u_1} {a : α} {l : List α}, a ∈ l → ∃ i : Nat, l[i]? = some a := @List.getElem?_of_mem
theorem aK.{u_1} : ∀ {α : Type u_1} {l₁ l₂ : List α} {i : Nat}, l₁.length ≤ i → (l₁ ++ l₂)[i]? = l₂[i - l₁.length]? := @List.getElem?_append_right
theorem aL.{u_1} : ∀ {α : Type u_1} {l₁ l₂ : List α} {i : Nat}, i < l₁.length → (l₁ ++ l₂)[i]? = l₁[i]? := @List.getElem?_append_left
theorem aM : ∀ (n : Nat), n = 0 ∨ n > 0 := @Nat.eq_zero_or_pos
theorem aN : ∀ (n m : Nat), n < m ∨ n ≥ m := @Nat.lt_or_ge
theorem aO : ∀ {n m : Nat} (k : Nat), n ≤ m → k * n ≤ k * m := @Nat.mul_le_mul_left
theorem aP : ∀ {n m k : Nat}, n ≤ m → m < k → n < k := @Nat.lt_of_le_of_lt
theorem aQ.{u_1} : ∀ {α : Type u_1} {l : List α} {i : Nat}, l.length ≤ i → l[i]? = Option.none := @List.getElem?_eq_none
theorem aR : ∀ {n m : Nat}, n < m → n ≤ m := @Nat.le_of_lt
theorem aS : ∀ (w : Go.World) (o : Go.Obj), (w.alloc o).heap[w.heap.size]? = Option.some o := @heap_alloc_new
theorem aT : ∀ (w : Go.World) (g j : Nat) (cs : Array Go.Value) (t : Go.TypeId) (fr : Nat × Nat), w.heap[g]? = Option.some (Go.Obj.cells cs t fr) → w.cell? { block := g, off := j } = cs[j]? := @cell_of_row
theorem xeq.{u} {α : Sort u} (a : α) : ∃ b, a = b := ⟨a, rfl⟩
end
namespace Gm
def Ba:Nat:=4294967296
theorem bU:Ba=4294967296:=rfl
theorem cR:0<Ba:=by decide
def val:List Nat->Nat
 |[]=>0
 |x::xs=>x+Ba*val xs
def Lb(xs:List Nat):Prop:=∀x∈xs,x<Ba
def limbs(n:Nat):List Nat:=if n=0 then []else(n % Ba)::limbs (n/Ba)
termination_by n
decreasing_by exact Nat.div_lt_self (by omega) (by decide)
theorem bM:limbs 0=[]:=by rw[limbs];simp
theorem lY{n:Nat}(h:n≠0):limbs n=(n % Ba)::limbs (n/Ba):=by rw[limbs];simp[h]
theorem tK:Lb []:=by intro x hx;cases hx
theorem yj{x:Nat}{xs:List Nat}(h:x<Ba)(hs:Lb xs):Lb (x::xs):=by
 intro y hy;rcases List.mem_cons.1 hy with rfl|hy
 ·exact h
 ·exact hs y hy
theorem Lb.head{x:Nat}{xs:List Nat}(h:Lb (x::xs)):x<Ba:=h x (by simp)
theorem Lb.tail{x:Nat}{xs:List Nat}(h:Lb (x::xs)):Lb xs:=fun y hy=>h y (by simp[hy])
theorem Lb.append{xs ys:List Nat}(h:Lb xs)(k:Lb ys):Lb (xs++ys):=by
 intro y hy;rcases List.mem_append.1 hy with hy|hy
 ·exact h y hy
 ·exact k y hy
theorem Lb.take{xs:List Nat}(h:Lb xs)(n:Nat):Lb (xs.take n):=fun y hy=>h y (List.mem_of_mem_take hy)
theorem Lb.drop{xs:List Nat}(h:Lb xs)(n:Nat):Lb (xs.drop n):=fun y hy=>h y (List.mem_of_mem_drop hy)
theorem Lb.get{xs:List Nat}(h:Lb xs)(k:Nat):xs[k]?.getD 0<Ba:=by
 rcases aN k xs.length with hk|hk
 ·rw[aB hk];exact h _ (List.getElem_mem hk)
 ·rw[aQ hk];exact cR
theorem Lb.set{xs:List Nat}(h:Lb xs)(k v:Nat)(hv:v<Ba):Lb (xs.set k v):=by
 intro y hy;rcases List.mem_or_eq_of_mem_set hy with hy|rfl
 ·exact h y hy
 ·exact hv
theorem yo(n:Nat):Lb (List.replicate n 0):=by
 intro y hy;rw[(List.mem_replicate.1 hy).2];exact cR
theorem pq(xs ys:List Nat):val (xs++ys)=val xs+Ba ^ xs.length*val ys:=by
 induction xs with
 |nil=>simp[val]
 |cons x xs ih=>
  simp only[List.cons_append,val,ih,List.length_cons,Nat.pow_succ];rw[Nat.mul_add,Nat.add_assoc]
  congr 2
  rw[<-Nat.mul_assoc,Nat.mul_comm Ba]
theorem Ai(xs:List Nat)(x:Nat):val (xs++ [x])=val xs+Ba ^ xs.length*x:=by
 rw[pq];simp[val]
theorem vU(n:Nat):val (List.replicate n 0)=0:=by
 induction n with
 |zero=>rfl
 |succ n ih=>simp[List.replicate_succ,val,ih]
theorem fK{xs:List Nat}(h:Lb xs):val xs<Ba ^ xs.length:=by
 induction xs with
 |nil=>simp[val]
 |cons x xs ih=>
  have h1:=ih h.tail;have h2:=h.head;simp only[val,List.length_cons,Nat.pow_succ];have h3:val xs+1<=Ba ^ xs.length:=h1;have h4:(val xs+1)*Ba<=Ba ^ xs.length*Ba:=aH _ h3;rw[Nat.add_mul,Nat.mul_comm (val xs) Ba]at h4;omega
theorem ig(n:Nat):Lb (limbs n):=by
 induction n using Nat.strongRecOn with
 |ind n ih=>
  by_cases h:n=0
  ·subst h;rw[bM];exact tK
  ·rw[lY h];exact yj (Nat.mod_lt _ cR) (ih _ (Nat.div_lt_self (by omega) (by decide)))
theorem aV(n:Nat):val (limbs n)=n:=by
 induction n using Nat.strongRecOn with
 |ind n ih=>
  by_cases h:n=0
  ·subst h;rw[bM];rfl
  ·rw[lY h,val,ih _ (Nat.div_lt_self (by omega) (by decide))];exact Nat.mod_add_div n Ba
theorem bV{n:Nat}:limbs n=[]↔n=0:=by
 constructor
 ·intro h;have:=aV n;rw[h]at this;exact this.symm
 ·rintro rfl;exact bM
theorem iQ{x:Nat}{xs:List Nat}(h:x<Ba)(hn:val (x::xs)≠0):limbs (val (x::xs))=x::limbs (val xs):=by
 rw[lY hn,val]
 congr 1
 ·rw[Nat.add_mul_mod_self_left];exact Nat.mod_eq_of_lt h
 ·rw[Nat.add_mul_div_left _ _ cR,Nat.div_eq_of_lt h,Nat.zero_add]
theorem nG{xs:List Nat}{x:Nat}(h:Lb xs)(hx:x<Ba)(h0:x≠0):limbs (val (xs++ [x]))=xs++ [x]:=by
 induction xs with
 |nil=>
  show limbs (val [x])=[x]
  have hv:val [x]≠0:=by simp only[val];omega
  rw[iQ hx hv];simp[val,bM]
 |cons y ys ih=>
  have hne:val (ys++ [x])≠0:=by
   rw[Ai];have:0<Ba ^ ys.length*x:=Nat.mul_pos (Nat.pow_pos cR) (by omega);omega
  have hv:val (y::(ys++ [x]))≠0:=by
   simp only[val];have:0<Ba*val (ys++ [x]):=Nat.mul_pos cR (by omega);omega
  show limbs (val (y::(ys++ [x])))=y::(ys++ [x])
  rw[iQ h.head hv,ih h.tail]
theorem mJ{n:Nat}(h:n≠0):(limbs n)[(limbs n).length-1]?.getD 0≠0:=by
 induction n using Nat.strongRecOn with
 |ind n ih=>
  rw[lY h]
  by_cases hq:n/Ba=0
  ·rw[hq,bM]
   have:n<Ba:=by
    rcases aN n Ba with h1|h1
    ·exact h1
    ·have:=Nat.div_pos h1 cR;omega
   simp[Nat.mod_eq_of_lt this,h]
  ·have h1:=ih _ (Nat.div_lt_self (by omega) (by decide)) hq
   have hl:0< (limbs (n/Ba)).length:=by
    rcases aM (limbs (n/Ba)).length with h2|h2
    ·exact absurd (bV.1 (List.eq_nil_of_length_eq_zero h2)) hq
    ·exact h2
   have e:(n % Ba::limbs (n/Ba)).length-1=((limbs (n/Ba)).length-1)+1:=by simp;omega
   rw[e,List.getElem?_cons_succ];exact h1
theorem mK{xs:List Nat}{n:Nat}(h:Lb xs)(hn:n<=xs.length)(h0:val (xs.drop n)=0)(hl:n=0∨xs[n-1]?.getD 0≠0):
 xs.take n=limbs (val xs):=by
 have hv:val xs=val (xs.take n):=by
  have e:=pq (xs.take n) (xs.drop n);rw[List.take_append_drop,h0]at e
  simpa using e
 rcases hl with rfl|hl
 ·rw[hv];simp[val,bM]
 ·rcases aM n with rfl|hp
  ·rw[hv];simp[val,bM]
  ·obtain⟨m,rfl⟩:∃m,n=m+1:=⟨n-1,by omega⟩;have hlt:m<xs.length:=by omega
   have et:xs.take (m+1)=xs.take m++ [xs[m]]:=List.take_succ_eq_append_getElem hlt;have hx:xs[m]≠0:=by simpa [aB hlt] using hl
   rw[hv,et,nG (h.take m) (h _ (List.getElem_mem hlt)) hx]
theorem oU{xs:List Nat}{n:Nat}(hn:n<xs.length)(h0:val (xs.drop (n+1))=0)(hx:xs[n]?.getD 0=0):val (xs.drop n)=0:=by
 rw[List.drop_eq_getElem_cons hn,val,h0];rw[aB hn]at hx;simp at hx;rw[hx];rfl
theorem bh{xs:List Nat}(h:Lb xs):(limbs (val xs)).length<=xs.length:=by
 induction xs with
 |nil=>simp[val,bM]
 |cons x xs ih=>
  by_cases hn:val (x::xs)=0
  ·rw[hn,bM];simp
  ·rw[iQ h.head hn]
   simpa using ih h.tail
theorem tL{xs:List Nat}(h:Lb xs):xs.take (limbs (val xs)).length=limbs (val xs):=by
 induction xs with
 |nil=>simp[val,bM]
 |cons x xs ih=>
  by_cases hn:val (x::xs)=0
  ·rw[hn,bM];simp
  ·rw[iQ h.head hn];simp[ih h.tail]
theorem fw{n k:Nat}(h:n<Ba ^ k):(limbs n).length<=k:=by
 induction k generalizing n with
 |zero=>
  have:n=0:=by simp at h;omega
  subst this;simp[bM]
 |succ k ih=>
  by_cases hn:n=0
  ·subst hn;simp[bM]
  ·rw[lY hn]
   have:n/Ba<Ba ^ k:=by
    apply Nat.div_lt_of_lt_mul;rw[Nat.mul_comm,<-Nat.pow_succ];exact h
   simpa using ih this
theorem bN{m n:Nat}(h:m<=n):(limbs m).length<=(limbs n).length:=by
 have h1:=fK (ig n);rw[aV]at h1;exact fw (by omega)
theorem iD{m n:Nat}(h:(limbs m).length< (limbs n).length):m<n:=by
 rcases aN m n with h1|h1
 ·exact h1
 ·have:=bN h1;omega
theorem lQ{xs:List Nat}{k:Nat}(hk:k<xs.length):val (xs.take (k+1))=val (xs.take k)+Ba ^ k*xs[k]?.getD 0:=by
 rw[List.take_succ_eq_append_getElem hk,Ai,List.length_take,Nat.min_eq_left (by omega),aB hk];rfl
theorem cM(xs:List Nat)(k:Nat):val (xs.take (k+1))=val (xs.take k)+Ba ^ k*xs[k]?.getD 0:=by
 rcases aN k xs.length with hk|hk
 ·exact lQ hk
 ·rw[aI (by omega),aI (by omega),aQ hk];simp
theorem fB(xs:List Nat)(k:Nat)(hk:k<=xs.length):val xs=val (xs.take k)+Ba ^ k*val (xs.drop k):=by
 have e:=pq (xs.take k) (xs.drop k);rw[List.take_append_drop,List.length_take,Nat.min_eq_left hk]at e;exact e
theorem fC{xs:List Nat}{k:Nat}(hk:k<xs.length):val (xs.drop k)=xs[k]?.getD 0+Ba*val (xs.drop (k+1)):=by
 rw[List.drop_eq_getElem_cons hk,val,aB hk];rfl
theorem fD{zs:List Nat}{k:Nat}(v:Nat)(hk:k<zs.length):val (zs.set k v)+Ba ^ k*zs[k]?.getD 0=val zs+Ba ^ k*v:=by
 induction zs generalizing k with
 |nil=>simp at hk
 |cons z zs ih=>
  cases k with
  |zero=>simp[val];omega
  |succ k=>
   have h:=ih (k:=k) (by simpa using hk);simp only[List.set_cons_succ,val,List.getElem?_cons_succ,Nat.pow_succ]
   grind
theorem fL{zs:List Nat}{k i:Nat}(v:Nat)(h:k≠i):(zs.set k v)[i]?.getD 0=zs[i]?.getD 0:=by
 rw[List.getElem?_set_ne h]
theorem C6{zs:List Nat}{k:Nat}(v:Nat)(h:k<zs.length):(zs.set k v)[k]?.getD 0=v:=by
 rw[List.getElem?_set_self h];rfl
theorem nH{xs ys zs:List Nat}{i c:Nat}(hi:i<zs.length)(h0:∀k,i<=k->zs[k]?.getD 0=0)
 (h:val zs+Ba ^ i*c=val (xs.take i)+val (ys.take i)):
 val (zs.set i ((c+xs[i]?.getD 0+ys[i]?.getD 0) % Ba))+Ba ^ (i+1)* ((c+xs[i]?.getD 0+ys[i]?.getD 0)/Ba)=val (xs.take (i+1))+val (ys.take (i+1)):=by
 have e:=fD ((c+xs[i]?.getD 0+ys[i]?.getD 0) % Ba) hi;rw[h0 i (aj _)]at e;rw[cM,cM,Nat.pow_succ];have hm:=Nat.mod_add_div (c+xs[i]?.getD 0+ys[i]?.getD 0) Ba;generalize (c+xs[i]?.getD 0+ys[i]?.getD 0) % Ba=r at*;generalize (c+xs[i]?.getD 0+ys[i]?.getD 0)/Ba=q at*
 grind
theorem dN{zs:List Nat}{i v:Nat}(h0:∀k,i<=k->zs[k]?.getD 0=0):∀k,i+1<=k->(zs.set i v)[k]?.getD 0=0:=by
 intro k hk;rw[fL v (by omega)];exact h0 k (by omega)
theorem nI{xs ys zs:List Nat}{i c z:Nat}(hi:i<zs.length)(h0:∀k,i<=k->zs[k]?.getD 0=0)
 (h:val zs+val (ys.take i)=val (xs.take i)+Ba ^ i*c) (hz:z+c+ys[i]?.getD 0=xs[i]?.getD 0):
 val (zs.set i z)+val (ys.take (i+1))=val (xs.take (i+1))+Ba ^ (i+1)*0:=by
 have e:=fD z hi;rw[h0 i (aj _)]at e;rw[cM,cM,<-hz]
 grind
theorem jX{xs ys zs:List Nat}{i c z:Nat}(hi:i<zs.length)(h0:∀k,i<=k->zs[k]?.getD 0=0)
 (h:val zs+val (ys.take i)=val (xs.take i)+Ba ^ i*c) (hz:z+c+ys[i]?.getD 0=xs[i]?.getD 0+Ba):
 val (zs.set i z)+val (ys.take (i+1))=val (xs.take (i+1))+Ba ^ (i+1)*1:=by
 have e:=fD z hi;rw[h0 i (aj _)]at e;rw[cM,cM,Nat.pow_succ]
 grind
theorem FA{xs ys zs:List Nat}{c n:Nat}(hz:Lb zs)(hl:zs.length=n)(hx:val ys<=val xs)(h:val zs+val ys=val xs+Ba ^ n*c):val zs=val xs-val ys:=by
 have:=fK hz;rw[hl]at this;rcases aM c with rfl|hc
 ·omega
 ·have:Ba ^ n*1<=Ba ^ n*c:=aO _ hc;omega
theorem Ko{ys zs:List Nat}{i j c x T:Nat}(hi:i+j<zs.length)(h:val zs+Ba ^ (i+j)*c=T+x*Ba ^ i*val (ys.take j)):
 val (zs.set (i+j) ((c+x*ys[j]?.getD 0+zs[i+j]?.getD 0) % Ba))+Ba ^ (i+ (j+1))* ((c+x*ys[j]?.getD 0+zs[i+j]?.getD 0)/Ba)=T+x*Ba ^ i*val (ys.take (j+1)):=by
 have e:=fD ((c+x*ys[j]?.getD 0+zs[i+j]?.getD 0) % Ba) hi;rw[cM,<-Nat.add_assoc,Nat.pow_succ];have hm:=Nat.mod_add_div (c+x*ys[j]?.getD 0+zs[i+j]?.getD 0) Ba;generalize (c+x*ys[j]?.getD 0+zs[i+j]?.getD 0) % Ba=r at*;generalize (c+x*ys[j]?.getD 0+zs[i+j]?.getD 0)/Ba=q at*;rw[Nat.pow_add]at*
 grind
end Gm
namespace Gm
def gq(m n:Nat):Int:=if m<n then -1 else if n<m then 1 else 0
theorem lG{m n:Nat}(h:m<n):gq m n= -1:=by simp[gq,h]
theorem iE{m n:Nat}(h:n<m):gq m n=1:=by have:¬m<n:=by omega
                                        simp[gq,h,this]
theorem jY{m n:Nat}(h:m=n):gq m n=0:=by subst h;simp[gq]
theorem jf{xs:List Nat}{i:Nat}(hi:i<xs.length):val xs=val (xs.take i)+Ba ^ i* (xs[i]?.getD 0+Ba*val (xs.drop (i+1))):=by
 rw[<-fC hi];exact fB xs i (by omega)
theorem dG{xs:List Nat}(h:Lb xs)(i:Nat):val (xs.take i)<Ba ^ i:=by
 have h1:=fK (h.take i);have h2:(xs.take i).length<=i:=by simp;omega
 exact ak h1 (Nat.pow_le_pow_right cR h2)
theorem tM{xs ys:List Nat}{i:Nat}(hx:Lb xs)(hi:i<xs.length)(hj:i<ys.length)(hd:val (xs.drop (i+1))=val (ys.drop (i+1)))(h:xs[i]?.getD 0<ys[i]?.getD 0):val xs<val ys:=by
 rw[jf hi,jf hj,hd];have h1:=dG hx i;generalize xs[i]?.getD 0=x at*;generalize ys[i]?.getD 0=y at*;generalize Ba*val (ys.drop (i+1))=d;have h2:Ba ^ i* (x+d+1)<=Ba ^ i* (y+d):=aO _ (by omega);rw[Nat.mul_add,Nat.mul_one]at h2;omega
theorem pW{xs ys:List Nat}{i:Nat}(hi:i<xs.length)(hj:i<ys.length)(hd:val (xs.drop (i+1))=val (ys.drop (i+1)))(h:xs[i]?.getD 0=ys[i]?.getD 0):val (xs.drop i)=val (ys.drop i):=by
 rw[fC hi,fC hj,hd,h]
theorem val_two(v:Nat):val [v % Ba,v/Ba]=v:=by
 simp only[val];have:=Nat.mod_add_div v Ba;omega
theorem Kp{v:Nat}(h:v<Ba*Ba):Lb [v % Ba,v/Ba]:=
 yj (Nat.mod_lt _ cR) (yj (Nat.div_lt_of_lt_mul h) tK)
theorem fA{n:Nat}:(limbs n).length<=2↔n<Ba*Ba:=by
 constructor
 ·intro h;have h1:=fK (ig n);rw[aV]at h1;have h2:Ba ^ (limbs n).length<=Ba ^ 2:=Nat.pow_le_pow_right cR h;have e:Ba ^ 2=Ba*Ba:=by decide
  omega
 ·intro h
  exact fw (by have e:Ba ^ 2=Ba*Ba:=by decide
               omega)
end Gm
namespace Gm
theorem Rq{U V Q top v1 P tO:Nat}(hV:V=v1*P+tO)(hU:U< (top+1)*P)(hQ:Q*V<=U):Q*v1<=top:=by
 rcases aN top (Q*v1)with h|h
 ·exfalso;have h1:(top+1)*P<=Q*v1*P:=aH P h;have h2:Q*v1*P<=Q*V:=by rw[hV,Nat.mul_assoc];exact aO _ (by omega)
  omega
 ·exact h
theorem yp{U V Q top v1 v2 u0 P tO rest:Nat}(hV:V=(v1*Ba+v2)*P+tO)(hU:U< (top*Ba+u0+1)*P)(hQ:Q*V<=U)
 (hd:Q*v1+rest=top):Q*v2<=rest*Ba+u0:=by
 have h:=Rq (top:=top*Ba+u0) (v1:=v1*Ba+v2) hV hU hQ;subst hd;have e:Q* (v1*Ba+v2)=Q*v1*Ba+Q*v2:=by grind
 have e2:(Q*v1+rest)*Ba=Q*v1*Ba+rest*Ba:=by grind
 omega
theorem YA{U V d top v1 v2 u0 P tO YB rest:Nat}(hv1:0<v1)(hd1:d<Ba)(hV:V=(v1*Ba+v2)*P+tO)(hlow:tO<P)(hU:U=(top*Ba+u0)*P+YB)
 (hd:d*v1+rest=top) (ht:d*v2<=rest*Ba+u0):d*V<=U+V:=by
 have h1:d* (v1*Ba+v2)<=top*Ba+u0:=by
  subst hd;have e:d* (v1*Ba+v2)=d*v1*Ba+d*v2:=by grind
  have e2:(d*v1+rest)*Ba=d*v1*Ba+rest*Ba:=by grind
  omega
 have h2:d* (v1*Ba+v2)*P<=(top*Ba+u0)*P:=aH _ h1;have h3:d*tO<=Ba*P:=Nat.mul_le_mul (by omega) (by omega)
 have h4:Ba*P<=V:=by
  rw[hV];have:Ba*P<=(v1*Ba+v2)*P:=aH _ (by have:=aH Ba hv1;omega);omega
 have e3:d*V=d* (v1*Ba+v2)*P+d*tO:=by rw[hV,Nat.mul_add,Nat.mul_assoc]
 omega
theorem Ol{U V d:Nat}(hV:0<V)(hge:U/V<=d)(hle:d*V<=U+V):d=U/V∨d=U/V+1:=by
 have h1:=Nat.div_add_mod U V;have h2:=Nat.mod_lt U hV;rcases aN (U/V+1) d with h|h
 ·exfalso;have h3:(U/V+2)*V<=d*V:=aH _ h;have e:(U/V+2)*V=V* (U/V)+2*V:=by grind
  omega
 ·omega
theorem Kq{U V d:Nat}(hV:0<V)(hd:d=U/V∨d=U/V+1)(hle:d*V<=U):d=U/V:=by
 rcases hd with h|h
 ·exact h
 ·exfalso;have h1:=Nat.div_add_mod U V;have h2:=Nat.mod_lt U hV;rw[h]at hle;have e:(U/V+1)*V=V* (U/V)+V:=by grind
  omega
theorem Om{U V d:Nat}(hd:d=U/V∨d=U/V+1)(hgt:U<d*V):d=U/V+1:=by
 rcases hd with h|h
 ·exfalso;have h1:=Nat.div_mul_le_self U V;rw[h]at hgt;omega
 ·exact h
theorem G7{U V:Nat}(h:U<V*Ba):U/V<Ba:=Nat.div_lt_of_lt_mul h
end Gm
namespace Gm
structure LI(X Y x y u0 u1 u2 v0 v1 v2:Nat)(even:Bool):Prop where
 le:y<=x
 hv:x*v2+y*v1=X
 hu:x*u2+y*u1=Y
 wY:1<=v2
 YC:u2<=v2
 first:(v1=0/\u1=1/\u2=0/\v2=1)∨(1<=v1/\u1<=v1)
 Oo:if even then(x+u1*X=v1*Y/\y+v2*Y=u2*X/\u2*v1=u1*v2+1)else(x+v1*Y=u1*X/\y+u2*X=v2*Y/\u1*v2=u2*v1+1)
 last:v0=0∨(∃xp,(if even then(xp+v0*Y=u0*X/\u0*v1=u1*v0+1)else(xp+u0*X=v0*Y/\u1*v0=u0*v1+1))/\v1<=x/\x+ (v0+v1)<=xp/\1<=v1/\u0<=v0/\u1<=v1)
theorem LI.start{X Y:Nat}(h:Y<=X):LI X Y X Y 0 1 0 0 0 1 false where
 le:=h
 hv:=by simp
 hu:=by simp
 wY:=by simp
 YC:=by simp
 first:= .inl ⟨rfl,rfl,rfl,rfl⟩
 Oo:=by simp
 last:= .inl rfl
theorem LI.step{X Y x y u0 u1 u2 v0 v1 v2:Nat}{even:Bool}(h:LI X Y x y u0 u1 u2 v0 v1 v2 even)(hy:v2<=y)(hxy:v1+v2<=x-y):
 LI X Y y (x % y) u1 u2 (u1+x/y*u2) v1 v2 (v1+x/y*v2) (!even):=by
 have ypos:0<y:=by have:=h.wY;omega
 have hq:1<=x/y:=Nat.div_pos h.le ypos;have hm:=Nat.mod_add_div x y;have hlt:=Nat.mod_lt x ypos;have hle:=h.le;have hpar:=h.Oo;have hv:=h.hv;have hu:=h.hu;have hv2:=h.wY;have huv:=h.YC;have hf:=h.first
 generalize x/y=q at*;generalize x % y=r at*;refine⟨by omega,by rw[<-hm]at hv;grind,by rw[<-hm]at hu;grind,?_,?_, .inr ⟨hv2,huv⟩,?_,?_⟩
 ·have:1*1<=q*v2:=Nat.mul_le_mul hq hv2;omega
 ·rcases hf with ⟨h1,h2,h3,h4⟩|⟨_,h2⟩
  ·subst h1 h2 h3 h4;omega
  ·have:q*u2<=q*v2:=aO _ huv;omega
 ·cases even
  ·simp only[Bool.false_eq_true,if_false,Bool.not_false,if_true]at hpar⊢;obtain⟨p1,p2,p3⟩:=hpar;refine⟨by omega,?_,?_⟩
   ·rw[<-hm]at p1;grind
   ·grind
  ·simp only[Bool.not_true,Bool.false_eq_true,if_false,if_true]at hpar⊢;obtain⟨p1,p2,p3⟩:=hpar;refine⟨by omega,?_,?_⟩
   ·rw[<-hm]at p1;grind
   ·grind
 ·rcases hf with ⟨h1,_⟩|⟨h1,h2⟩
  ·exact .inl h1
  ·refine .inr ⟨x,?_,hy,by omega,hv2,h2,huv⟩
   cases even
   ·simp only[Bool.false_eq_true,if_false,Bool.not_false,if_true]at hpar⊢;exact⟨hpar.1,hpar.2.2⟩
   ·simp only[Bool.not_true,Bool.false_eq_true,if_false,if_true]at hpar⊢;exact⟨hpar.1,hpar.2.2⟩
theorem LI.bounds{X Y x y u0 u1 u2 v0 v1 v2:Nat}{even:Bool}(h:LI X Y x y u0 u1 u2 v0 v1 v2 even)(hy:v2<=y):
 0<y/\x<=X/\v1+v2<=X/\v1+x/y*v2<=X/\u1+x/y*u2<=Y+1:=by
 have ypos:0<y:=by have:=h.wY;omega
 have hle:=h.le;have hv:=h.hv;have hu:=h.hu;have hm:=Nat.mod_add_div x y;have hv2:=h.wY;generalize x/y=q at*;generalize x % y=r at*;have h1:x*1<=x*v2:=aO _ hv2;have h2:1*v2<=x*v2:=aH _ (by omega);have h3:1*v1<=y*v1:=aH _ ypos;have e1:y* (v1+q*v2)+r*v2=X:=by rw[<-hm]at hv;grind
 have h4:1* (v1+q*v2)<=y* (v1+q*v2):=aH _ ypos;have e2:y* (u1+q*u2)+r*u2=Y:=by rw[<-hm]at hu;grind
 have h5:1* (u1+q*u2)<=y* (u1+q*u2):=aH _ ypos;exact⟨ypos,by omega,by omega,by omega,by omega⟩
theorem kE{A B a b p q r s:Nat}(h1:A=p*a+q*b)(h2:B=r*a+s*b){p' q' r' s':Nat}(h3:a+q'*B=p'*A)(h4:b+r'*A=s'*B):Nat.gcd a b=Nat.gcd A B:=by
 apply Nat.dvd_antisymm
 ·apply Nat.dvd_gcd
  ·rw[h1];exact Nat.dvd_add (Nat.dvd_mul_left_of_dvd (Nat.gcd_dvd_left _ _) _) (Nat.dvd_mul_left_of_dvd (Nat.gcd_dvd_right _ _) _)
  ·rw[h2];exact Nat.dvd_add (Nat.dvd_mul_left_of_dvd (Nat.gcd_dvd_left _ _) _) (Nat.dvd_mul_left_of_dvd (Nat.gcd_dvd_right _ _) _)
 ·apply Nat.dvd_gcd
  ·have e:Nat.gcd A B∣a+q'*B:=by rw[h3];exact Nat.dvd_mul_left_of_dvd (Nat.gcd_dvd_left _ _) _
   exact(Nat.dvd_add_left (Nat.dvd_mul_left_of_dvd (Nat.gcd_dvd_right A B) _)).1 e
  ·have e:Nat.gcd A B∣b+r'*A:=by rw[h4];exact Nat.dvd_mul_left_of_dvd (Nat.gcd_dvd_right _ _) _
   exact(Nat.dvd_add_left (Nat.dvd_mul_left_of_dvd (Nat.gcd_dvd_left A B) _)).1 e
theorem LI.finish{A B D x y u0 u1 u2 v0 v1 v2:Nat}{even:Bool}(hD:0<D)(h:LI (A/D) (B/D) x y u0 u1 u2 v0 v1 v2 even)(h0:v0≠0){a b:Nat}
 (ha:a=if even then A*u0-B*v0 else B*v0-A*u0) (hb:b=if even then B*v1-A*u1 else A*u1-B*v1):
 (if even then B*v0<=A*u0 else A*u0<=B*v0)/\(if even then A*u1<=B*v1 else B*v1<=A*u1)/\b<=a/\a+b<=A/\Nat.gcd a b=Nat.gcd A B:=by
 rcases h.last with h1|⟨xp,hp,hx,hxp,hv1,hu0,hu1⟩
 ·exact absurd h1 h0
 have hpar:=h.Oo;have eA:=Nat.div_add_mod A D;have eB:=Nat.div_add_mod B D;have lA:=Nat.mod_lt A hD;have lB:=Nat.mod_lt B hD;generalize A/D=X at*;generalize B/D=Y at*;generalize A % D=α at*;generalize B % D=β at*;have b1:u1*α<=v1*D:=Nat.mul_le_mul hu1 (by omega);have b2:v1*β<=v1*D:=aO _ (by omega);have b3:(u0+u1)*α<=(v0+v1)*D:=Nat.mul_le_mul (by omega) (by omega);have b4:(v0+v1)*β<=(v0+v1)*D:=aO _ (by omega);have b5:v1*D<=x*D:=aH _ hx;have b6:(x+ (v0+v1))*D<=xp*D:=aH _ hxp;have Ac:1<=v0:=by omega
 cases even
 ·simp only[Bool.false_eq_true,if_false]at*;obtain⟨p1,p2,p3⟩:=hpar;obtain⟨q1,q2⟩:=hp
  have f1:A*u1+v1*β=B*v1+x*D+u1*α:=by
   have:D* (x+v1*Y)=D* (u1*X):=by rw[p1]
   subst eA;subst eB;grind
  have f2:B*v0+u0*α=A*u0+xp*D+v0*β:=by
   have:D* (xp+u0*X)=D* (v0*Y):=by rw[q1]
   subst eA;subst eB;grind
  have g1:B*v1<=A*u1:=by omega
  have e6:(x+ (v0+v1))*D=x*D+ (v0+v1)*D:=by grind
  have e7:(u0+u1)*α=u0*α+u1*α:=by grind
  have e8:(v0+v1)*β=v0*β+v1*β:=by grind
  have g2:A*u0<=B*v0:=by omega
  have g3:b<=a:=by omega
  have k1:a+A*u0=B*v0:=by omega
  have k2:b+B*v1=A*u1:=by omega
  have k3:A=v1*a+v0*b:=by grind
  have k4:B=u1*a+u0*b:=by grind
  refine⟨g2,g1,g3,?_,?_⟩
  ·have:1*a<=v1*a:=aH _ hv1;have:1*b<=v0*b:=aH _ Ac;omega
  ·rw[Nat.gcd_comm A B];exact kE (p:=u1) (q:=u0) (r:=v1) (s:=v0) k4 k3 (q':=u0) (p':=v0) (r':=v1) (s':=u1) (by grind) (by grind)
 ·simp only[if_true]at*;obtain⟨p1,p2,p3⟩:=hpar;obtain⟨q1,q2⟩:=hp
  have f1:B*v1+u1*α=A*u1+x*D+v1*β:=by
   have:D* (x+u1*X)=D* (v1*Y):=by rw[p1]
   subst eA;subst eB;grind
  have f2:A*u0+v0*β=B*v0+xp*D+u0*α:=by
   have:D* (xp+v0*Y)=D* (u0*X):=by rw[q1]
   subst eA;subst eB;grind
  have g1:A*u1<=B*v1:=by omega
  have e6:(x+ (v0+v1))*D=x*D+ (v0+v1)*D:=by grind
  have e7:(u0+u1)*α=u0*α+u1*α:=by grind
  have e8:(v0+v1)*β=v0*β+v1*β:=by grind
  have g2:B*v0<=A*u0:=by omega
  have g3:b<=a:=by omega
  have k1:a+B*v0=A*u0:=by omega
  have k2:b+A*u1=B*v1:=by omega
  have k3:A=v1*a+v0*b:=by grind
  have k4:B=u1*a+u0*b:=by grind
  refine⟨g2,g1,g3,?_,?_⟩
  ·have:1*a<=v1*a:=aH _ hv1;have:1*b<=v0*b:=aH _ Ac;omega
  ·exact kE (p:=v1) (q:=v0) (r:=u1) (s:=u0) k3 k4 (q':=v0) (p':=u0) (r':=u1) (s':=v1) (by grind) (by grind)
theorem eI{zs:List Nat}{m:Nat}(h:∀k,m<=k->zs[k]?.getD 0=0):val (zs.take m)=val zs:=by
 induction zs generalizing m with
 |nil=>simp
 |cons z zs ih=>
  cases m with
  |zero=>
   have h0:z=0:=by simpa using h 0 (aj _)
   have h1:=ih (m:=0) (fun k _=>by simpa using h (k+1) (by omega));simp only[List.take_zero,val]at h1⊢;rw[<-h1,h0];rfl
  |succ m=>
   have h1:=ih (m:=m) (fun k hk=>by simpa using h (k+1) (by omega));simp only[List.take_succ_cons,val,h1]
theorem nM{zs:List Nat}{m:Nat}(h:val zs<Ba ^ m):∀k,m<=k->zs[k]?.getD 0=0:=by
 induction zs generalizing m with
 |nil=>intro k _;simp
 |cons z zs ih=>
  intro k hk
  cases m with
  |zero=>
   have h0:val (z::zs)=0:=by simpa using h
   simp only[val]at h0;have hz:z=0:=by omega
   have hv:val zs=0:=by
    rcases aM (val zs)with h1|h1
    ·exact h1
    ·have:=Nat.mul_pos cR h1;omega
   cases k with
   |zero=>simpa using hz
   |succ k=>simpa using ih (m:=0) (by rw[hv];simp) k (aF _)
  |succ m=>
   cases k with
   |zero=>omega
   |succ k=>
    have h1:val zs<Ba ^ m:=by
     simp only[val,Nat.pow_succ]at h;rcases aN (val zs) (Ba ^ m)with h2|h2
     ·exact h2
     ·have h3:Ba ^ m*Ba<=val zs*Ba:=aH _ h2;rw[Nat.mul_comm (val zs)]at h3;omega
    simpa using ih h1 k (by omega)
theorem kH{zs:List Nat}{m:Nat}(hz:Lb zs)(h:∀k,m<=k->zs[k]?.getD 0=0):val zs<Ba ^ m:=by
 rw[<-eI h];exact dG hz m
theorem KG{xs zs:List Nat}{i c s:Nat}(hi:i<zs.length)(h0:∀k,i<=k->zs[k]?.getD 0=0)
 (h:val zs+Ba ^ i*c=val (xs.take i)*2 ^ s):
 val (zs.set i ((c+xs[i]?.getD 0*2 ^ s) % Ba))+Ba ^ (i+1)* ((c+xs[i]?.getD 0*2 ^ s)/Ba)=val (xs.take (i+1))*2 ^ s:=by
 have e:=fD ((c+xs[i]?.getD 0*2 ^ s) % Ba) hi;rw[h0 i (aj _)]at e;rw[cM,Nat.pow_succ];have hm:=Nat.mod_add_div (c+xs[i]?.getD 0*2 ^ s) Ba;generalize (c+xs[i]?.getD 0*2 ^ s) % Ba=r at*;generalize (c+xs[i]?.getD 0*2 ^ s)/Ba=q at*
 grind
theorem Hu{c x p:Nat}(hc:c<p)(hx:x<Ba):(c+x*p)/Ba<p:=by
 apply Nat.div_lt_of_lt_mul;have h1:(x+1)*p<=Ba*p:=aH _ hx;rw[Nat.add_mul,Nat.one_mul]at h1;omega
theorem OG{zs vs:List Nat}{j i c d z c' T:Nat}(hi:j+i<zs.length)(h:val zs+Ba ^ j* (d*val (vs.take i))=T+Ba ^ (j+i)*c)
 (hz:z+ (d*vs[i]?.getD 0+c)=zs[j+i]?.getD 0+Ba*c'):
 val (zs.set (j+i) z)+Ba ^ j* (d*val (vs.take (i+1)))=T+Ba ^ (j+ (i+1))*c':=by
 have e:=fD z hi;rw[cM,<-Nat.add_assoc,Nat.pow_succ];rw[Nat.pow_add]at*;generalize zs[j+i]?.getD 0=y at*;generalize vs[i]?.getD 0=x at*;generalize val (zs.set (j+i) z)=A at*;generalize val (vs.take i)=B at*;generalize Ba ^ j=p at*;generalize Ba ^ i=q at*;generalize Ba=b at*;have hz':p*q* (z+ (d*x+c))=p*q* (y+b*c'):=by rw[hz]
 grind
theorem KH{d x c y:Nat}(hd:d<Ba)(hx:x<Ba)(hc:c<Ba)(hy:y<Ba):
 d*x+c<Ba*Ba/\(d*x+c)/Ba<Ba/\(y< (d*x+c) % Ba->(d*x+c)/Ba+1<Ba):=by
 have h1:d*x<=(Ba-1)* (Ba-1):=Nat.mul_le_mul (by omega) (by omega);have e:(Ba-1)* (Ba-1)+ (Ba-1)=(Ba-1)*Ba:=by decide
 have e2:(Ba-1)*Ba<Ba*Ba:=by decide
 have h2:d*x+c<=(Ba-1)*Ba:=by omega
 clear h1 e;generalize d*x+c=p at*;have hm:=Nat.mod_add_div p Ba;refine⟨by omega,Nat.div_lt_of_lt_mul (by omega),fun h=>?_⟩;rcases aN (p/Ba+1) Ba with h3|h3
 ·exact h3
 ·exfalso;have h4:(Ba-1)*Ba<=p/Ba*Ba:=aH _ (by omega);rw[Nat.mul_comm (p/Ba)]at h4;omega
theorem OH{zs vs:List Nat}{j i c T:Nat}(hi:j+i<zs.length)(h:val zs+Ba ^ (j+i)*c=T+Ba ^ j*val (vs.take i)):
 val (zs.set (j+i) ((c+ (zs[j+i]?.getD 0+vs[i]?.getD 0)) % Ba))+Ba ^ (j+ (i+1))* ((c+ (zs[j+i]?.getD 0+vs[i]?.getD 0))/Ba)=T+Ba ^ j*val (vs.take (i+1)):=by
 have e:=fD ((c+ (zs[j+i]?.getD 0+vs[i]?.getD 0)) % Ba) hi;rw[cM,show j+ (i+1)=j+i+1 from rfl,Nat.pow_succ];have hm:=Nat.mod_add_div (c+ (zs[j+i]?.getD 0+vs[i]?.getD 0)) Ba;generalize (c+ (zs[j+i]?.getD 0+vs[i]?.getD 0)) % Ba=r at*;generalize (c+ (zs[j+i]?.getD 0+vs[i]?.getD 0))/Ba=q at*;rw[Nat.pow_add]at*
 grind
theorem TN{zs:List Nat}{k c T u:Nat}(hk:k<zs.length)(hu:zs[k]?.getD 0=u)(h:val zs+Ba ^ k*c=T):val (zs.set k ((u+c) % Ba))+Ba ^ (k+1)* ((u+c)/Ba)=T:=by
 have e:=fD ((u+c) % Ba) hk;rw[hu]at e;have hm:=Nat.mod_add_div (u+c) Ba;generalize (u+c) % Ba=r at*;generalize (u+c)/Ba=q at*;rw[Nat.pow_succ];have e2:Ba ^ k* (r+Ba*q)=Ba ^ k* (u+c):=by rw[hm]
 grind
theorem TQ{zs:List Nat}{k z c T D u:Nat}(hk:k<zs.length)(hu:zs[k]?.getD 0=u)(h:val zs+D=T+Ba ^ k*c)(hz:z+c=u):val (zs.set k z)+D=T:=by
 have e:=fD z hk;rw[hu,<-hz,Nat.mul_add]at e;omega
theorem OI{zs:List Nat}{k z c T D u:Nat}(hk:k<zs.length)(hu:zs[k]?.getD 0=u)(h:val zs+D=T+Ba ^ k*c)(hz:z+c=u+Ba):val (zs.set k z)+D=T+Ba ^ (k+1):=by
 have e:=fD z hk;rw[hu]at e;have e2:Ba ^ k* (z+c)=Ba ^ k* (u+Ba):=by rw[hz]
 rw[Nat.mul_add,Nat.mul_add]at e2;rw[Nat.pow_succ];omega
structure Kn(zs vs:List Nat)(j m:Nat):Prop where
 len:vs.length=m+2
 RB:Lb vs
 KI:Lb zs
 fit:j+m+2<zs.length
 norm:Ba<=2*vs[m+1]?.getD 0
 top:val zs<val vs*Ba ^ (j+1)
section
variable {zs vs:List Nat}{j m:Nat}
theorem Kn.V(h:Kn zs vs j m):val vs=(vs[m+1]?.getD 0*Ba+vs[m]?.getD 0)*Ba ^ m+val (vs.take m):=by
 have hl:=h.len;have h1:=fB vs m (by omega);have h2:=fC (xs:=vs) (k:=m) (by omega);have h3:=fC (xs:=vs) (k:=m+1) (by omega);rw[List.drop_of_length_le (show vs.length<=m+1+1 by omega)]at h3;rw[h1,h2,h3,val];generalize vs[m+1]?.getD 0=a;generalize vs[m]?.getD 0=b
 grind
theorem Kn.v1(h:Kn zs vs j m):2147483648<=vs[m+1]?.getD 0/\vs[m+1]?.getD 0<4294967296:=by
 have h1:=h.norm;have h2:=h.RB.get (m+1);rw[bU]at h1 h2;omega
theorem Kn.low(h:Kn zs vs j m):val (vs.take m)<Ba ^ m:=dG h.RB m
theorem Kn.Vlt(h:Kn zs vs j m):val vs<Ba ^ (m+2):=by have:=fK h.RB;rw[h.len]at this;exact this
theorem Kn.TR(h:Kn zs vs j m):0<val vs:=by
 rw[h.V];have h1:=h.v1.1;have:0< (vs[m+1]?.getD 0*Ba+vs[m]?.getD 0)*Ba ^ m:=Nat.mul_pos (by have:=Nat.mul_pos (show 0<vs[m+1]?.getD 0 by omega) cR;omega) (Nat.pow_pos cR);omega
theorem Kn.split(h:Kn zs vs j m):val zs=val (zs.take j)+Ba ^ j*val (zs.drop j):=fB zs j (by have:=h.fit;omega)
theorem Kn.Ult(h:Kn zs vs j m):val (zs.drop j)<val vs*Ba:=by
 have h1:=h.split;have h2:=h.top;rw[Nat.pow_succ]at h2;rcases aN (val (zs.drop j)) (val vs*Ba)with h3|h3
 ·exact h3
 ·have h4:Ba ^ j* (val vs*Ba)<=Ba ^ j*val (zs.drop j):=aO _ h3;have e:Ba ^ j* (val vs*Ba)=val vs* (Ba ^ j*Ba):=by grind
  omega
theorem Kn.zero(h:Kn zs vs j m):∀k,j+m+3<=k->zs[k]?.getD 0=0:=by
 apply nM;have h1:=h.top;have h2:val vs*Ba ^ (j+1)<=Ba ^ (m+2)*Ba ^ (j+1):=aH _ (aR h.Vlt);rw[<-Nat.pow_add]at h2;have e:m+2+ (j+1)=j+m+3:=by omega
 rw[e]at h2;omega
theorem Kn.U(h:Kn zs vs j m):val (zs.drop j)=((zs[j+m+2]?.getD 0*Ba+zs[j+m+1]?.getD 0)*Ba+zs[j+m]?.getD 0)*Ba ^ m+val ((zs.drop j).take m):=by
 have hf:=h.fit;have h1:=fB (zs.drop j) m (by simp;omega);rw[List.drop_drop]at h1;have h2:=fC (xs:=zs) (k:=j+m) (by omega);have h3:=fC (xs:=zs) (k:=j+m+1) (by omega);have h4:=fC (xs:=zs) (k:=j+m+2) (by omega)
 have h5:val (zs.drop (j+m+2+1))=0:=by
  have e:=eI (zs:=zs.drop (j+m+2+1)) (m:=0) (fun k _=>by rw[List.getElem?_drop];exact h.zero _ (by omega));rw[<-e];rfl
 rw[h1,h2,h3,h4,h5];generalize zs[j+m+2]?.getD 0=a;generalize zs[j+m+1]?.getD 0=b;generalize zs[j+m]?.getD 0=c
 grind
theorem Kn.Y3(h:Kn zs vs j m):val ((zs.drop j).take m)<Ba ^ m:=dG (h.KI.drop j) m
theorem Kn.u2(h:Kn zs vs j m):zs[j+m+2]?.getD 0<=vs[m+1]?.getD 0:=by
 rcases aN (vs[m+1]?.getD 0) (zs[j+m+2]?.getD 0)with hlt|hge
 ·exfalso;have h1:=h.Ult;have h2:=h.U;have h3:=h.V;have h4:=h.low;have h5:=h.RB.get m;generalize vs[m+1]?.getD 0=a at*;generalize vs[m]?.getD 0=b at*;generalize zs[j+m+2]?.getD 0=u at*
  have e1:val vs< (a+1)*Ba*Ba ^ m:=by
   have:(a*Ba+b+1)*Ba ^ m<=(a+1)*Ba*Ba ^ m:=aH _ (by rw[Nat.add_mul];omega);rw[Nat.add_mul]at this;omega
  have e2:(a+1)*Ba*Ba ^ m*Ba<=u*Ba*Ba*Ba ^ m:=by
   have:(a+1)* (Ba*Ba*Ba ^ m)<=u* (Ba*Ba*Ba ^ m):=aH _ hlt
   grind
  have e3:val vs*Ba<=(a+1)*Ba*Ba ^ m*Ba:=aH _ (aR e1);have e4:u*Ba*Ba*Ba ^ m<=val (zs.drop j):=by rw[h2];grind
  omega
 ·exact hge
structure Dg(zs vs:List Nat)(j m d rest:Nat):Prop where
 eq:d*vs[m+1]?.getD 0+rest=zs[j+m+2]?.getD 0*Ba+zs[j+m+1]?.getD 0
 ge:val (zs.drop j)/val vs<=d
 le:d<=Ba+1
theorem Dg.start(h:Kn zs vs j m){t:Nat}(ht:t=zs[j+m+2]?.getD 0*Ba+zs[j+m+1]?.getD 0):Dg zs vs j m (t/vs[m+1]?.getD 0) (t % vs[m+1]?.getD 0):=by
 have hv1:=h.v1;have hp:0<vs[m+1]?.getD 0:=by omega
 refine⟨by rw[<-ht,Nat.mul_comm];exact Nat.div_add_mod _ _,?_,?_⟩
 ·rw[Nat.le_div_iff_mul_le hp];refine Rq (V:=val vs) (U:=val (zs.drop j)) (P:=Ba ^ (m+1)) (tO:=vs[m]?.getD 0*Ba ^ m+val (vs.take m)) ?_ ?_ (Nat.div_mul_le_self _ _)
  ·rw[h.V,Nat.pow_succ];grind
  ·rw[h.U,<-ht,Nat.pow_succ];have h1:=h.Y3;have h2:=h.KI.get (j+m);generalize zs[j+m]?.getD 0=c at*;have:(c+1)*Ba ^ m<=Ba*Ba ^ m:=aH _ h2;have e1:(t*Ba+c)*Ba ^ m=t* (Ba ^ m*Ba)+c*Ba ^ m:=by grind
   have e2:(t+1)* (Ba ^ m*Ba)=t* (Ba ^ m*Ba)+Ba*Ba ^ m:=by grind
   rw[Nat.add_mul]at this;omega
 ·have h1:=h.u2;have h2:=h.KI.get (j+m+1);apply Nat.le_of_lt_succ;apply Nat.div_lt_of_lt_mul;rw[ht];generalize vs[m+1]?.getD 0=v at*;generalize zs[j+m+2]?.getD 0=u at*;generalize zs[j+m+1]?.getD 0=u' at*;rw[bU]at*;omega
theorem Kn.Y4(h:Kn zs vs j m):val (zs.drop j)/val vs<Ba:=G7 h.Ult
theorem Dg.down(h:Kn zs vs j m){d rest:Nat}(k:Dg zs vs j m d rest)(hd:Ba<=d∨rest*Ba+zs[j+m]?.getD 0<d*vs[m]?.getD 0):
 0<d/\Dg zs vs j m (d-1) (rest+vs[m+1]?.getD 0):=by
 have hge:val (zs.drop j)/val vs<d:=by
  rcases hd with h1|h1
  ·have:=h.Y4;omega
  ·rcases aN (val (zs.drop j)/val vs) d with h2|h2
   ·exact h2
   ·exfalso;have e:val (zs.drop j)/val vs=d:=Nat.le_antisymm k.ge h2
    have h3:=yp (U:=val (zs.drop j)) (V:=val vs) (Q:=d) (top:=zs[j+m+2]?.getD 0*Ba+zs[j+m+1]?.getD 0) (v1:=vs[m+1]?.getD 0) (v2:=vs[m]?.getD 0) (u0:=zs[j+m]?.getD 0) (P:=Ba ^ m) (tO:=val (vs.take m)) (rest:=rest) h.V
     (by rw[h.U,Nat.add_mul _ 1 (Ba ^ m)];have:=h.Y3;omega) (by rw[<-e];exact Nat.div_mul_le_self _ _) k.eq
    omega
 have hk:=k.le;refine⟨aP (aF _) hge,?_,Nat.le_sub_one_of_lt hge,ay (Nat.sub_le _ _) hk⟩;have Cp:0<d:=aP (aF _) hge;clear hge;rw[<-k.eq];obtain⟨e,rfl⟩:∃e,d=e+1:=⟨d-1,by omega⟩;rw[Nat.add_sub_cancel,Nat.add_mul];omega
theorem Dg.found(h:Kn zs vs j m){d rest:Nat}(k:Dg zs vs j m d rest)(hd:(d<Ba/\d*vs[m]?.getD 0<=rest*Ba+zs[j+m]?.getD 0)∨Ba<=rest):
 d<Ba/\(d=val (zs.drop j)/val vs∨d=val (zs.drop j)/val vs+1):=by
 have hv1:=h.v1
 have TT:d<Ba:=by
  rcases hd with h1|h1
  ·exact h1.1
  ·have h2:=k.eq;have h3:=h.u2;have h4:=h.KI.get (j+m+1);rcases aN d Ba with h5|h5
   ·exact h5
   ·exfalso;have h6:Ba*vs[m+1]?.getD 0<=d*vs[m+1]?.getD 0:=aH _ h5;have h7:zs[j+m+2]?.getD 0*Ba<=vs[m+1]?.getD 0*Ba:=aH _ h3;rw[Nat.mul_comm Ba]at h6;omega
 have ht:d*vs[m]?.getD 0<=rest*Ba+zs[j+m]?.getD 0:=by
  rcases hd with h1|h1
  ·exact h1.2
  ·have h2:=h.RB.get m;have h3:d*vs[m]?.getD 0<=Ba*Ba:=Nat.mul_le_mul (aR TT) (aR h2);have h4:Ba*Ba<=rest*Ba:=aH _ h1;omega
 refine⟨TT,Ol h.TR k.ge ?_⟩;exact YA (P:=Ba ^ m) (tO:=val (vs.take m)) (YB:=val ((zs.drop j).take m)) (top:=zs[j+m+2]?.getD 0*Ba+zs[j+m+1]?.getD 0) (v1:=vs[m+1]?.getD 0) (v2:=vs[m]?.getD 0) (u0:=zs[j+m]?.getD 0) (by omega) TT h.V h.low h.U k.eq ht
theorem Kn.done(h:Kn zs vs j m){d:Nat}{ys:List Nat}(hd:d=val (zs.drop j)/val vs∨d=val (zs.drop j)/val vs+1)(hy:val ys+Ba ^ j* (d*val vs)=val zs):
 d=val (zs.drop j)/val vs:=by
 refine Kq h.TR hd ?_;have h1:=h.split;have h2:=dG h.KI j;rcases aN (val (zs.drop j)) (d*val vs)with h3|h3
 ·exfalso;have h4:Ba ^ j* (val (zs.drop j)+1)<=Ba ^ j* (d*val vs):=aO _ h3;rw[Nat.mul_add,Nat.mul_one]at h4;omega
 ·exact h3
theorem Kn.less(h:Kn zs vs j m){ys:List Nat}(hy:val ys+Ba ^ j* (val (zs.drop j)/val vs*val vs)=val zs):val ys<val vs*Ba ^ j:=by
 have h1:=h.split;have h2:=dG h.KI j;have h3:=Nat.mod_add_div (val (zs.drop j)) (val vs);have h4:=Nat.mod_lt (val (zs.drop j)) h.TR;generalize val (zs.drop j)/val vs=q at*;generalize val (zs.drop j) % val vs=r at*;have h5:Ba ^ j*val (zs.drop j)=Ba ^ j*r+Ba ^ j* (q*val vs):=by rw[<-h3];grind
 have h6:Ba ^ j* (r+1)<=Ba ^ j*val vs:=aO _ h4;rw[Nat.mul_add,Nat.mul_one]at h6;rw[Nat.mul_comm (val vs)];omega
theorem Kn.KJ(h:Kn zs vs j m){d:Nat}{ys:List Nat}(hd:d=val (zs.drop j)/val vs∨d=val (zs.drop j)/val vs+1)(hl:val ys<Ba ^ (j+m+2+1))(hy:val ys+Ba ^ j* (d*val vs)=val zs+Ba ^ (j+m+2+1)):
 d=val (zs.drop j)/val vs+1:=by
 refine Om hd ?_;have h1:=h.split;rcases aN (val (zs.drop j)) (d*val vs)with h3|h3
 ·exact h3
 ·exfalso;have h4:Ba ^ j* (d*val vs)<=Ba ^ j*val (zs.drop j):=aO _ h3;omega
theorem Kn.back(h:Kn zs vs j m){q:Nat}{ys xs:List Nat}{c:Nat}(hq:q=val (zs.drop j)/val vs)(hy:val ys+Ba ^ j* ((q+1)*val vs)=val zs+Ba ^ (j+m+2+1))(hx:val xs+Ba ^ (j+m+2+1)*c=val ys+Ba ^ j*val vs)(hl:val xs<Ba ^ (j+m+2+1))(hz:val zs<Ba ^ (j+m+2+1)):
 val xs+Ba ^ j* (q*val vs)=val zs:=by
 have e:Ba ^ j* ((q+1)*val vs)=Ba ^ j* (q*val vs)+Ba ^ j*val vs:=by grind
 have hle:Ba ^ j* (q*val vs)<=val zs:=by
  have h1:=h.split;have h2:q*val vs<=val (zs.drop j):=by rw[hq];exact Nat.div_mul_le_self _ _
  have h3:Ba ^ j* (q*val vs)<=Ba ^ j*val (zs.drop j):=aO _ h2;omega
 have h1:c=1:=by
  rcases Nat.lt_trichotomy c 1 with h2|h2|h2
  ·have:c=0:=by omega
   subst this;rw[Nat.mul_zero]at hx;omega
  ·exact h2
  ·have:Ba ^ (j+m+2+1)*2<=Ba ^ (j+m+2+1)*c:=aO _ h2;omega
 subst h1;omega
end
theorem KL(A i s:Nat)(hs:s<=32):A/2 ^ s/Ba ^ i % Ba=(A/Ba ^ i % (Ba*Ba))/2 ^ s % Ba:=by
 have e1:A/2 ^ s/Ba ^ i=A/Ba ^ i/2 ^ s:=by rw[Nat.div_div_eq_div_mul,Nat.div_div_eq_div_mul,Nat.mul_comm]
 rw[e1];generalize A/Ba ^ i=X;have hp:2 ^ s*2 ^ (32-s)=Ba:=by rw[<-Nat.pow_add,show s+ (32-s)=32 by omega];rfl
 have hm:=Nat.mod_add_div X (Ba*Ba);generalize X % (Ba*Ba)=r at*;generalize X/ (Ba*Ba)=t at*;rw[<-hm]
 have e2:r+Ba*Ba*t=r+2 ^ s* (2 ^ (32-s)*t*Ba):=by
  rw[show Ba*Ba*t=(2 ^ s*2 ^ (32-s))*Ba*t by rw[hp]]
  grind
 rw[e2,Nat.add_mul_div_left _ _ (Nat.pow_pos (by omega)),Nat.add_mul_mod_self_right]
theorem yC(xs:List Nat)(h:Lb xs)(i:Nat)(hi:i<=xs.length):val xs/Ba ^ i=val (xs.drop i):=by
 rw[fB xs i hi,Nat.add_mul_div_left _ _ (Nat.pow_pos cR),Nat.div_eq_of_lt (dG h i),Nat.zero_add]
theorem KM{xs zs:List Nat}{i s:Nat}(hx:Lb xs)(hi:i<zs.length)(Hv:i<xs.length)(h0:∀k,i<=k->zs[k]?.getD 0=0)(hs:s<=32)
 (h:val zs=val xs/2 ^ s % Ba ^ i):
 val (zs.set i ((xs[i]?.getD 0+Ba*xs[i+1]?.getD 0)/2 ^ s % Ba))=val xs/2 ^ s % Ba ^ (i+1):=by
 have e:=fD ((xs[i]?.getD 0+Ba*xs[i+1]?.getD 0)/2 ^ s % Ba) hi;rw[h0 i (aj _),Nat.mul_zero,Nat.add_zero,h]at e;rw[e,Nat.pow_succ,Nat.mod_mul,KL _ _ _ hs,yC xs hx i (by omega),fC Hv];have hx1:=hx.get i;have hx2:=hx.get (i+1)
 have e3:(xs[i]?.getD 0+Ba*val (xs.drop (i+1))) % (Ba*Ba)=xs[i]?.getD 0+Ba*xs[i+1]?.getD 0:=by
  rcases aN (i+1) xs.length with h1|h1
  ·rw[fC h1];generalize xs[i]?.getD 0=a at*;generalize xs[i+1]?.getD 0=b at*;generalize val (xs.drop (i+1+1))=t;have e4:a+Ba* (b+Ba*t)=(a+Ba*b)+Ba*Ba*t:=by grind
   rw[e4,Nat.add_mul_mod_self_left];apply Nat.mod_eq_of_lt;have:Ba* (b+1)<=Ba*Ba:=aO _ hx2;rw[Nat.mul_add]at this;omega
  ·rw[List.drop_of_length_le h1,aQ h1];simp only[val,Nat.mul_zero,Nat.add_zero,Option.getD_none];apply Nat.mod_eq_of_lt;have:Ba<=Ba*Ba:=by decide
   omega
 rw[e3]
end Gm
namespace Go.Proofs.YtkmpoleajjgfaaaGreat
def Zx(x z:Int):Prop:=(0<=x/\z<=0)∨(x<=0/\0<=z)
structure Ex(A B M N:Nat)(x z:Int):Prop where
 g:Nat.gcd M N=Nat.gcd A B
 xb:x.natAbs<=1∨x.natAbs<=B
 zb:z.natAbs<=B
 m0:0<A->0<M
 mb:M<=A∨M<=B
 nb:N<=B
 ex:∃y t:Int,(A:Int)*x+B*y=M/\(A:Int)*z+B*t=N/\Zx x z/\Zx y t/\M*z.natAbs+N*x.natAbs=B/\M*t.natAbs+N*y.natAbs=A/\(N=0->0<A->0<B->x.natAbs*M<=B/\y.natAbs*M<=A)
theorem Ex.start(A B:Nat):Ex A B A B 1 0:=
 ⟨rfl, .inl (by decide),aF _,id, .inl (aj _),aj _,0,1,by omega,by omega, .inl (by omega), .inr (by omega),by simp,by simp,fun h1 _ h2=>absurd h1 (by omega)⟩
theorem AX{x z:Int}(h:Zx x z)(q:Nat):Zx z (x-q*z)/\(x-q*z).natAbs=x.natAbs+q*z.natAbs:=by
 have hw:((q:Int)*z).natAbs=q*z.natAbs:=by rw[Int.natAbs_mul,Int.natAbs_natCast]
 have h1:0<=z->0<=(q:Int)*z:=fun hz=>Int.mul_nonneg (Int.natCast_nonneg q) hz
 have h2:z<=0->(q:Int)*z<=0:=fun hz=>by
  have:=Int.mul_nonneg (Int.natCast_nonneg q) (show 0<= -z by omega);rw[Int.mul_neg]at this;omega
 rw[<-hw];generalize (q:Int)*z=v at h1 h2⊢;unfold Zx at h⊢;omega
theorem Ex.step{A B M N:Nat}{x z:Int}(h:Ex A B M N x z)(hN:0<N):Ex A B N (M % N) z (x- ((M/N:Nat):Int)*z):=by
 obtain⟨y,t,e1,e2,o1,o2,e3,e4,_⟩:=h.ex;have hqr:=Nat.div_add_mod M N;have hr:=Nat.mod_lt M hN;have hm0:=h.m0;have hg:Nat.gcd N (M % N)=Nat.gcd A B:=by rw[<-h.g,Nat.gcd_comm M N,Nat.gcd_rec N M,Nat.gcd_comm]
 have hdv:M % N=0->0<M->N<=M:=fun h1 h2=>Nat.le_of_dvd h2 (Nat.dvd_of_mod_eq_zero h1);have Hy:=h.zb;have hnb:=h.nb;clear h;generalize M/N=q at hqr⊢;generalize M % N=r at hqr hg hr hdv⊢;obtain⟨o3,n3⟩:=AX o1 q;obtain⟨o4,n4⟩:=AX o2 q
 have k3:N* (x- (q:Int)*z).natAbs+r*z.natAbs=B:=by
  rw[n3,<-e3,<-hqr];simp only[Nat.mul_add,Nat.add_mul,Nat.mul_assoc];omega
 have k4:N* (y- (q:Int)*t).natAbs+r*t.natAbs=A:=by
  rw[n4,<-e4,<-hqr];simp only[Nat.mul_add,Nat.add_mul,Nat.mul_assoc];omega
 have k2:(A:Int)* (x- (q:Int)*z)+B* (y- (q:Int)*t)=r:=by
  have j1:(A:Int)* ((q:Int)*z)+B* ((q:Int)*t)=N*q:=by
   rw[Int.mul_comm (N:Int),<-e2,Int.mul_add,Int.mul_left_comm (A:Int) q z,Int.mul_left_comm (B:Int) q t]
  have j2:(N:Int)*q+r=M:=by rw[<-hqr,Int.natCast_add,Int.natCast_mul]
  rw[Int.mul_sub,Int.mul_sub];omega
 refine⟨hg, .inr Hy,?_,fun _=>hN, .inr hnb,by omega,t,_,e2,k2,o3,o4,k3,k4,fun h1 h2 h3=>?_⟩
 ·exact ay (Nat.le_mul_of_pos_left _ hN) (by omega)
 ·have hle:=hdv h1 (hm0 h2);constructor
  ·have:=aO z.natAbs hle;rw[Nat.mul_comm z.natAbs M]at this;omega
  ·have:=aO t.natAbs hle;rw[Nat.mul_comm t.natAbs M]at this;omega
structure Bz(a b g x y:Int):Prop where
 gg:((Nat.gcd a.natAbs b.natAbs:Nat):Int)=g
 e:a*x+b*y=g
 b0:b=0->y=0/\x.natAbs<=1
 a0:b≠0->a=0->x=0/\y.natAbs=1
 bd:a≠0->b≠0->x.natAbs*g.natAbs<=b.natAbs/\y.natAbs*g.natAbs<=a.natAbs
theorem Ex.fin{a b:Int}{M:Nat}{x z:Int}(h:Ex a.natAbs b.natAbs M 0 x z)(u v:Int)(hu:(a=0/\u=0)∨(a<0/\u= -x)∨(0<a/\u=x))(hv:(b=0/\v=0)∨(b≠0/\((M:Int) - ((a.natAbs:Nat):Int)*x)/b=v)):Bz a b M u v:=by
 obtain⟨y,t,e1,_,_,_,_,_,hbd⟩:=h.ex;have hg:M=Nat.gcd a.natAbs b.natAbs:=by rw[<-h.g,Nat.gcd_zero_right]
 have vW:=h.xb
 have hau:a*u=((a.natAbs:Nat):Int)*x:=by
  rcases hu with ⟨rfl,rfl⟩|⟨h1,rfl⟩|⟨h1,rfl⟩
  ·simp
  ·rw[show((a.natAbs:Nat):Int)= -a by omega,Int.neg_mul,Int.mul_neg]
  ·rw[show((a.natAbs:Nat):Int)=a by omega]
 have hun:a≠0->u.natAbs=x.natAbs:=fun h0=>by omega
 have Uv:b≠0->b*v=((b.natAbs:Nat):Int)*y/\v.natAbs=y.natAbs:=fun h0=>by
  obtain⟨h1,_⟩|⟨_,hv⟩:=hv
  ·exact absurd h1 h0
  ·have e2:(M:Int) - ((a.natAbs:Nat):Int)*x=((b.natAbs:Nat):Int)*y:=by omega
   rw[e2]at hv;rcases Int.lt_or_gt_of_ne h0 with hn|hp
   ·have e3:((b.natAbs:Nat):Int)= -b:=by omega
    rw[e3,show -b*y=b* -y by rw[Int.neg_mul,Int.mul_neg],Int.mul_ediv_cancel_left _ h0]at hv;subst hv;rw[e3,Int.neg_mul,Int.mul_neg];exact⟨rfl,by omega⟩
   ·have e3:((b.natAbs:Nat):Int)=b:=by omega
    rw[e3,Int.mul_ediv_cancel_left _ h0]at hv;subst hv;rw[e3];exact⟨rfl,rfl⟩
 refine⟨by rw[hg],?_,?_,?_,?_⟩
 ·by_cases h0:b=0
  ·subst h0;rw[hau,Int.zero_mul,Int.add_zero,<-e1];simp
  ·rw[hau,(Uv h0).1];exact e1
 ·intro h0;subst h0;refine⟨by omega,?_⟩;simp at vW;omega
 ·intro h0 h1;subst h1;refine⟨by omega,?_⟩;rw[(Uv h0).2];have hM:M=b.natAbs:=by rw[hg];simp
  have hB:0<b.natAbs:=by omega
  have e3:((b.natAbs:Nat):Int)*y=((b.natAbs:Nat):Int)*1:=by
   simp at e1;rw[hM]at e1;omega
  have:=Int.eq_of_mul_eq_mul_left (show((b.natAbs:Nat):Int)≠0 by omega) e3;omega
 ·intro h0 h1;obtain⟨k1,k2⟩:=hbd rfl (by omega) (by omega);rw[hun h0,(Uv h1).2,Int.natAbs_natCast];exact⟨k1,k2⟩
end Go.Proofs.YtkmpoleajjgfaaaGreat
namespace Go.Proofs.YtkmpoleajjgfaaaGreat.Gd
def S:Nat->(Nat->Rat)->Rat
 |0,_=>0
 |n+1,f=>S n f+f n
theorem cT{n:Nat}{f g:Nat->Rat}(h:∀i,i<n->f i=g i):S n f=S n g:=by
 induction n with
 |zero=>rfl
 |succ n ih=>unfold S;rw[ih (fun i hi=>h i (by omega)),h n (by omega)]
theorem pN(n:Nat):S n (fun _=>0)=0:=by
 induction n with
 |zero=>rfl
 |succ n ih=>unfold S;rw[ih];grind
theorem xU(n:Nat)(f g:Nat->Rat):S n (fun i=>f i+g i)=S n f+S n g:=by
 induction n with
 |zero=>show(0:Rat)=0+0;grind
 |succ n ih=>unfold S;rw[ih];grind
theorem xV(n:Nat)(c:Rat)(f:Nat->Rat):S n (fun i=>c*f i)=c*S n f:=by
 induction n with
 |zero=>show(0:Rat)=c*0;grind
 |succ n ih=>unfold S;rw[ih];grind
theorem L8(n:Nat)(f g:Nat->Rat):S n (fun i=>f i-g i)=S n f-S n g:=by
 induction n with
 |zero=>show(0:Rat)=0-0;grind
 |succ n ih=>unfold S;rw[ih];grind
theorem L9(n m:Nat)(f:Nat->Nat->Rat):S n (fun i=>S m (fun j=>f i j))=S m (fun j=>S n (fun i=>f i j)):=by
 induction n with
 |zero=>show(0:Rat)=S m (fun _=>0);rw[pN]
 |succ n ih=>
  show S n (fun i=>S m (fun j=>f i j))+S m (fun j=>f n j)=S m (fun j=>S n (fun i=>f i j)+f n j)
  rw[ih,xU]
def dl(i j:Nat):Rat:=if i=j then 1 else 0
theorem gQ(i:Nat):dl i i=1:=if_pos rfl
theorem je{i j:Nat}(h:i≠j):dl i j=0:=if_neg h
theorem sH{n k:Nat}(f:Nat->Rat)(h:k<n):S n (fun i=>dl i k*f i)=f k:=by
 induction n with
 |zero=>omega
 |succ n ih=>
  unfold S
  by_cases e:k=n
  ·subst e;rw[cT (g:=fun _=>0) (fun i hi=>by rw[je (by omega)];grind),pN]
   show 0+dl k k*f k=f k
   rw[gQ]
   grind
  ·rw[ih (by omega)]
   show f k+dl n k*f n=f k
   rw[je (by omega)]
   grind
structure Br where
 f:Nat
 t:Nat
 s:Rat
def SL(g:Br->Rat):List Br->Rat
 |[]=>0
 |b::l=>g b+SL g l
theorem mE{g h:Br->Rat}:∀{l:List Br},(∀b∈l,g b=h b)->SL g l=SL h l
 |[],_=>rfl
 |b::l,hh=>by
  unfold SL;rw[hh b (by simp),mE (fun c hc=>hh c (by simp[hc]))]
theorem Vh(n:Nat)(g:Nat->Br->Rat):∀(l:List Br),S n (fun i=>SL (g i) l)=SL (fun b=>S n (fun i=>g i b)) l
 |[]=>by unfold SL;exact pN n
 |b::l=>by
  show S n (fun i=>g i b+SL (g i) l)=S n (fun i=>g i b)+SL (fun b=>S n (fun i=>g i b)) l
  rw[xU,Vh n g l]
theorem Ej(c:Rat)(g:Br->Rat):∀(l:List Br),SL (fun b=>c*g b) l=c*SL g l
 |[]=>by show(0:Rat)=c*0;grind
 |b::l=>by unfold SL;rw[Ej c g l];grind
theorem Gy:∀(l:List Br),SL (fun _=>0) l=0
 |[]=>rfl
 |b::l=>by unfold SL;rw[Gy l];grind
def Vi(N:Nat)(l:List Br):Prop:=∀b∈l,b.f<N/\b.t<N/\0<b.s
def vM(l:List Br)(i j:Nat):Rat:=SL (fun b=>b.s* ((dl i b.f-dl i b.t)* (dl j b.f-dl j b.t))) l
theorem Qb{N:Nat}{l:List Br}(hv:Vi N l)(i:Nat)(θ:Nat->Rat):S N (fun j=>vM l i j*θ j)=SL (fun b=>b.s* ((dl i b.f-dl i b.t)* (θ b.f-θ b.t))) l:=by
 unfold vM
 rw[cT (g:=fun j=>SL (fun b=>(b.s* (dl i b.f-dl i b.t))* (dl j b.f*θ j-dl j b.t*θ j)) l) (fun j _=>by
  rw[show SL (fun b=>b.s* ((dl i b.f-dl i b.t)* (dl j b.f-dl j b.t))) l*θ j=θ j*SL (fun b=>b.s* ((dl i b.f-dl i b.t)* (dl j b.f-dl j b.t))) l by grind,<-Ej];exact mE fun b _=>by grind),Vh]
 refine mE fun b hb=>?_;obtain⟨h1,h2,_⟩:=hv b hb;rw[xV,L8,sH _ h1,sH _ h2]
 grind
theorem BN{N:Nat}{l:List Br}(hv:Vi N l)(ψ θ:Nat->Rat):S N (fun i=>ψ i*S N (fun j=>vM l i j*θ j))=SL (fun b=>b.s* ((ψ b.f-ψ b.t)* (θ b.f-θ b.t))) l:=by
 rw[cT (g:=fun i=>SL (fun b=>(b.s* (θ b.f-θ b.t))* (dl i b.f*ψ i-dl i b.t*ψ i)) l) (fun i _=>by
  rw[Qb hv,<-Ej];exact mE fun b _=>by grind),Vh]
 refine mE fun b hb=>?_;obtain⟨h1,h2,_⟩:=hv b hb;rw[xV,L8,sH _ h1,sH _ h2]
 grind
structure J2(N:Nat)(l:List Br)(s:Nat->Nat):Prop where
 lt:∀i,i<N->s i<N
 idem:∀i,i<N->s (s i)=s i
 same:∀b∈l,s b.f=s b.t
 conn:∀φ:Nat->Rat,(∀b∈l,φ b.f=φ b.t)->∀i,i<N->φ i=φ (s i)
theorem uZ:∀{l:List Br} {x:Nat->Rat},(∀b∈l,0<b.s)->SL (fun b=>b.s* ((x b.f-x b.t)* (x b.f-x b.t))) l=0->∀b∈l,x b.f=x b.t
 |[],_,_,_,b,hb=>by simp at hb
 |a::l,x,hs,h,b,hb=>by
  have nn:∀y:Rat,0<=y*y:=fun y=>by
   rcases Rat.le_total (a:=0) (b:=y)with h|h
   ·exact Rat.mul_nonneg h h
   ·have:=Rat.mul_nonneg (a:= -y) (b:= -y) (by grind) (by grind);grind
  have nl:∀l:List Br,(∀b∈l,0<b.s)->0<=SL (fun b=>b.s* ((x b.f-x b.t)* (x b.f-x b.t))) l:=by
   intro l
   induction l with
   |nil=>intro _;exact Rat.le_refl
   |cons b l ih=>
    intro h;have h1:=ih (fun c hc=>h c (by simp[hc]));have h2:=Rat.mul_nonneg (Rat.le_of_lt (h b (by simp))) (nn (x b.f-x b.t))
    show 0<=b.s* ((x b.f-x b.t)* (x b.f-x b.t))+SL (fun b=>b.s* ((x b.f-x b.t)* (x b.f-x b.t))) l
    grind
  have h1:=nl l (fun c hc=>hs c (by simp[hc]));have h2:=Rat.mul_nonneg (Rat.le_of_lt (hs a (by simp))) (nn (x a.f-x a.t));have h3:a.s* ((x a.f-x a.t)* (x a.f-x a.t))+SL (fun b=>b.s* ((x b.f-x b.t)* (x b.f-x b.t))) l=0:=h;have e1:a.s* ((x a.f-x a.t)* (x a.f-x a.t))=0:=by grind
  have e2:SL (fun b=>b.s* ((x b.f-x b.t)* (x b.f-x b.t))) l=0:=by grind
  rcases List.mem_cons.1 hb with rfl|hb
  ·have hp:=hs b (by simp)
   have h5:(x b.f-x b.t)* (x b.f-x b.t)=0:=by
    rcases Rat.mul_eq_zero.1 e1 with h|h
    ·grind
    ·exact h
   rcases Rat.mul_eq_zero.1 h5 with h|h<;>grind
  ·exact uZ (fun c hc=>hs c (by simp[hc])) e2 b hb
theorem inj{N:Nat}{l:List Br}{s:Nat->Nat}(hv:Vi N l)(hs:J2 N l s)(x:Nat->Rat)(h0:∀i,i<N->s i=i->x i=0)(h1:∀i,i<N->s i≠i->S N (fun j=>vM l i j*x j)=0):∀i,i<N->x i=0:=by
 have hz:S N (fun i=>x i*S N (fun j=>vM l i j*x j))=0:=by
  rw[cT (g:=fun _=>0) (fun i hi=>by
   by_cases e:s i=i
   ·rw[h0 i hi e];grind
   ·rw[h1 i hi e];grind),pN]
 rw[BN hv]at hz;have he:=uZ (fun b hb=>(hv b hb).2.2) hz;intro i hi;rw[hs.conn x he i hi,h0 (s i) (hs.lt i hi) (hs.idem i hi)]
def Bridge(l:List Br)(b:Nat):Prop:=∃φ:Nat->Rat,(∀k c,l[k]?=some c->k≠b->φ c.f=φ c.t)/\∃c,l[b]?=some c/\φ c.f≠φ c.t
theorem Ma{g:Br->Rat}:∀{l:List Br} {b:Nat} {c:Br},l[b]?=some c->(∀k d,l[k]?=some d->k≠b->g d=0)->SL g l=g c
 |[],_,_,h,_=>by simp at h
 |a::l,0,c,h,hz=>by
  simp at h;subst h
  have:SL g l=SL (fun _=>0) l:=by
   refine mE fun d hd=>?_;obtain⟨k,hk⟩:=aJ hd;exact hz (k+1) d (by simpa using hk) (by omega)
  show g a+SL g l=g a
  rw[this,Gy];grind
 |a::l,b+1,c,h,hz=>by
  have h1:=hz 0 a (by simp) (by omega)
  show g a+SL g l=g c
  rw[h1,Ma (b:=b) (by simpa using h) (fun k d hk hne=>hz (k+1) d (by simpa using hk) (by omega))]
  grind
theorem BP{N:Nat}{l:List Br}{s:Nat->Nat}(hv:Vi N l)(hs:J2 N l s){φ:Nat->Rat}{b n:Nat}{c:Br}(hφ:∀k d,l[k]?=some d->k≠b->φ d.f=φ d.t)(hc:l[b]?=some c){θ:Nat->Rat}(hn:n<N)
 (h1:∀i,i<N->s i≠i->S N (fun j=>vM l i j*θ j)=dl i n) (hne:s n≠n):c.s* (θ c.f-θ c.t)* (φ c.f-φ c.t)=φ n-φ (s n):=by
 have e:=BN hv (fun i=>φ i-φ (s i)) θ;have hcs:=hs.same c (aD hc)
 rw[Ma (b:=b) (c:=c) hc (fun k d hk hne=>by
  have h2:=hφ k d hk hne;have h3:=hs.same d (aD hk)
  show d.s* ((φ d.f-φ (s d.f) - (φ d.t-φ (s d.t)))* (θ d.f-θ d.t))=0
  rw[h2,h3];grind)]at e
 have e2:S N (fun i=>(φ i-φ (s i))*S N (fun j=>vM l i j*θ j))=φ n-φ (s n):=by
  rw[cT (g:=fun i=>dl i n* (φ i-φ (s i))) (fun i hi=>by
   by_cases ei:s i=i
   ·by_cases en:i=n
    ·subst en;exact absurd ei hne
    ·rw[ei,je en];grind
   ·rw[h1 i hi ei];grind),sH _ hn]
 rw[e2]at e;rw[e]
 show c.s* (θ c.f-θ c.t)* (φ c.f-φ c.t)=c.s* ((φ c.f-φ (s c.f) - (φ c.t-φ (s c.t)))* (θ c.f-θ c.t))
 rw[hcs];grind
def Transfer(N:Nat)(l:List Br)(s:Nat->Nat)(T:Nat->Nat->Rat):Prop:=
 ∀n,n<N->(s n=n->∀b,T b n=0)/\(s n≠n->∃θ:Nat->Rat,(∀i,i<N->s i≠i->S N (fun j=>vM l i j*θ j)=dl i n)/\∀b c,l[b]?=some c->T b n=c.s* (θ c.f-θ c.t))
theorem Ek{N:Nat}{l:List Br}{s:Nat->Nat}{T:Nat->Nat->Rat}(hv:Vi N l)(hs:J2 N l s)(hT:Transfer N l s T){b k:Nat}{d:Br}(hb:Bridge l b)(hk:l[k]?=some d):d.s* (T b d.t-T b d.f+ (if k=b then 1 else 0))=0:=by
 obtain⟨φ,hφ,c,hc,hne⟩:=hb
 have key:∀n,n<N->T b n* (φ c.f-φ c.t)=φ n-φ (s n):=by
  intro n hn
  by_cases e:s n=n
  ·rw[(hT n hn).1 e b,e];grind
  ·obtain⟨θ,h1,h2⟩:=(hT n hn).2 e;rw[h2 b c hc];exact BP hv hs hφ hc hn h1 e
 obtain⟨f1,f2,_⟩:=hv d (aD hk);have k1:=key d.f f1;have k2:=key d.t f2;have hsd:=hs.same d (aD hk);have hd:φ c.f-φ c.t≠0:=fun e=>hne (by grind)
 have hz:(T b d.t-T b d.f+ (if k=b then 1 else 0))* (φ c.f-φ c.t)=0:=by
  by_cases e:k=b
  ·subst e;rw[hk]at hc;injection hc with hc
   subst hc;rw[if_pos rfl];rw[hsd]at k1
   grind
  ·have h3:=hφ k d hk e;rw[if_neg e];rw[hsd]at k1
   grind
 rcases Rat.mul_eq_zero.1 hz with h|h
 ·rw[h];grind
 ·exact absurd h hd
def LS(g:Nat->Rat):List (Nat×Rat)->Rat
 |[]=>0
 |e::l=>e.2*g e.1+LS g l
theorem zm(g:Nat->Rat)(m:List (Nat×Rat)):∀l,LS g (l++m)=LS g l+LS g m
 |[]=>by show LS g m=0+LS g m;grind
 |e::l=>by show e.2*g e.1+LS g (l++m)=e.2*g e.1+LS g l+LS g m;rw[zm g m l];grind
theorem oh{g h:Nat->Rat}:∀{l:List (Nat×Rat)},(∀e∈l,g e.1=h e.1)->LS g l=LS h l
 |[],_=>rfl
 |e::l,hh=>by
  show e.2*g e.1+LS g l=e.2*h e.1+LS h l
  rw[hh e (by simp),oh (fun c hc=>hh c (by simp[hc]))]
theorem aaw{n:Nat}(x:Nat->Rat)(P:Nat->Nat->Rat):∀l,S n (fun j=>LS (fun q=>P q j) l*x j)=LS (fun q=>S n (fun j=>P q j*x j)) l
 |[]=>by
  show S n (fun j=>0*x j)=0
  rw[cT (g:=fun _=>0) (fun _ _=>by grind),pN]
 |e::l=>by
  show S n (fun j=>(e.2*P e.1 j+LS (fun q=>P q j) l)*x j)=e.2*S n (fun j=>P e.1 j*x j)+LS (fun q=>S n (fun j=>P q j*x j)) l
  rw[cT (g:=fun j=>e.2* (P e.1 j*x j)+LS (fun q=>P q j) l*x j) (fun _ _=>by grind),xU,xV,aaw x P l]
def up{α:Type}(x:Nat->α)(j:Nat)(v:α):Nat->α:=fun i=>if i=j then v else x i
theorem fI{α:Type}(x:Nat->α)(j:Nat)(v:α):up x j v j=v:=if_pos rfl
theorem BQ{α:Type}(x:Nat->α){i j:Nat}(v:α)(h:i≠j):up x j v i=x i:=if_neg h
theorem alm{n j:Nat}(r x:Nat->Rat)(v:Rat)(h:j<n):S n (fun i=>r i*up x j v i)=S n (fun i=>r i*x i)+r j* (v-x j):=by
 rw[cT (g:=fun i=>r i*x i+dl i j* (r i* (v-x i))) (fun i _=>by
  by_cases e:i=j
  ·subst e;rw[fI,gQ];grind
  ·rw[BQ _ _ e,je e];grind),xU,sH _ h]
structure EI(n:Nat)(M:Nat->Nat->Rat)(k:Nat)(rs cs:Nat->Nat)(R:Nat->Nat->Rat)(Ls:Nat->List (Nat×Rat)):Prop where
 Gz:∀q,q<k->rs q<n
 El:∀q,q<k->cs q<n
 zo:∀p q,p<k->q<k->rs p=rs q->p=q
 wL:∀p q,p<k->q<k->cs p=cs q->p=q
 id:∀i,i<n->∀j,j<n->M i j=LS (fun q=>R (rs q) j) (Ls i)+R i j
 lo:∀i,i<n->∀e∈Ls i,e.1<k/\∀p,p<k->rs p=i->e.1<p
 jF:∀i,i<n->(Ls i).Pairwise (fun a b=>a.1<b.1)
 nz:∀i,i<n->∀e∈Ls i,e.2≠0
 elim:∀i,i<n->(∀p,p<k->rs p≠i)->∀q,q<k->R i (cs q)=0
 pelim:∀p,p<k->∀q,q<p->R (rs p) (cs q)=0
 piv:∀p,p<k->R (rs p) (cs p)≠0
 inj:∀x:Nat->Rat,(∀q,q<k->x (cs q)=0)->(∀i,i<n->(∀p,p<k->rs p≠i)->S n (fun j=>R i j*x j)=0)->∀j,j<n->x j=0
theorem EI.start{n:Nat}{M:Nat->Nat->Rat}(rs cs:Nat->Nat)(h:∀x:Nat->Rat,(∀i,i<n->S n (fun j=>M i j*x j)=0)->∀j,j<n->x j=0):EI n M 0 rs cs M (fun _=>[]) where
 Gz:=fun q h=>by omega
 El:=fun q h=>by omega
 zo:=fun p q h=>by omega
 wL:=fun p q h=>by omega
 id:=fun i _ j _=>by show M i j=0+M i j;grind
 lo:=fun i _ e he=>by simp at he
 jF:=fun i _=>List.Pairwise.nil
 nz:=fun i _ e he=>by simp at he
 elim:=fun i _ _ q h=>by omega
 pelim:=fun p h=>by omega
 piv:=fun p h=>by omega
 inj:=fun x _ h1=>h x fun i hi=>h1 i hi fun p hp=>by omega
theorem EI.col{n:Nat}{M:Nat->Nat->Rat}{k:Nat}{rs cs:Nat->Nat}{R:Nat->Nat->Rat}{Ls:Nat->List (Nat×Rat)}(h:EI n M k rs cs R Ls){c:Nat}(hc:c<n)(hn:∀q,q<k->cs q≠c):∃i,i<n/\(∀p,p<k->rs p≠i)/\R i c≠0:=by
 refine Classical.byContradiction fun hno=>?_
 have hx:=h.inj (fun j=>dl j c) (fun q hq=>je (hn q hq)) (fun i hi hp=>by
  have hz:R i c=0:=Classical.byContradiction fun hz=>hno ⟨i,hi,hp,hz⟩;rw[cT (g:=fun j=>dl j c*R i j) (fun _ _=>by grind),sH _ hc,hz]) c hc
 have:=gQ c;simp only[this]at hx;exact absurd hx (by grind)
theorem EI.step{n:Nat}{M:Nat->Nat->Rat}{k:Nat}{rs cs:Nat->Nat}{R:Nat->Nat->Rat}{Ls:Nat->List (Nat×Rat)}(h:EI n M k rs cs R Ls){r c:Nat}(hr:r<n)(hc:c<n)(CU:∀p,p<k->rs p≠r)(BJ:∀q,q<k->cs q≠c)(hz:R r c≠0)
 {R':Nat->Nat->Rat} {Gx:Nat->List (Nat×Rat)}
 (h1:∀i,i<n->(∀p,p<k->rs p≠i)->i≠r->R i c≠0->(∀j,j<n->R' i j=R i j-R i c* (R r c)⁻¹*R r j)/\Gx i=Ls i++ [(k,R i c* (R r c)⁻¹)])
 (h2:∀i,i<n->¬((∀p,p<k->rs p≠i)/\i≠r/\R i c≠0)->(∀j,j<n->R' i j=R i j)/\Gx i=Ls i):
 EI n M (k+1) (up rs k r) (up cs k c) R' Gx:=by
 have CV:∀p,p<k->up rs k r p=rs p:=fun p hp=>BQ _ _ (by omega);have NZ:∀p,p<k->up cs k c p=cs p:=fun p hp=>BQ _ _ (by omega);have kp:∀p,p<k->∀j,j<n->R' (rs p) j=R (rs p) j:=fun p hp=>(h2 (rs p) (h.Gz p hp) (fun hh=>hh.1 p hp rfl)).1;have kr:∀j,j<n->R' r j=R r j:=(h2 r hr (fun hh=>hh.2.1 rfl)).1;have hinv:R r c* (R r c)⁻¹=1:=Rat.mul_inv_cancel _ hz
 have all:∀i,i<n->(∀p,p<k->rs p≠i)->i≠r->∀j,j<n->R' i j=R i j-R i c* (R r c)⁻¹*R r j:=by
  intro i hi hp Ve j hj
  by_cases e:R i c=0
  ·rw[(h2 i hi (fun hh=>hh.2.2 e)).1 j hj,e];grind
  ·exact(h1 i hi hp Ve e).1 j hj
 refine⟨?_,?_,?_,?_,?_,?_,?_,?_,?_,?_,?_,?_⟩
 ·intro q hq
  by_cases e:q=k
  ·subst e;rw[fI];exact hr
  ·rw[CV q (by omega)];exact h.Gz q (by omega)
 ·intro q hq
  by_cases e:q=k
  ·subst e;rw[fI];exact hc
  ·rw[NZ q (by omega)];exact h.El q (by omega)
 ·intro p q hp hq hpq
  by_cases e:p=k<;>by_cases e2:q=k
  ·omega
  ·subst e;rw[fI,CV q (by omega)]at hpq;exact absurd hpq.symm (CU q (by omega))
  ·subst e2;rw[fI,CV p (by omega)]at hpq;exact absurd hpq (CU p (by omega))
  ·rw[CV p (by omega),CV q (by omega)]at hpq;exact h.zo p q (by omega) (by omega) hpq
 ·intro p q hp hq hpq
  by_cases e:p=k<;>by_cases e2:q=k
  ·omega
  ·subst e;rw[fI,NZ q (by omega)]at hpq;exact absurd hpq.symm (BJ q (by omega))
  ·subst e2;rw[fI,NZ p (by omega)]at hpq;exact absurd hpq (BJ p (by omega))
  ·rw[NZ p (by omega),NZ q (by omega)]at hpq;exact h.wL p q (by omega) (by omega) hpq
 ·intro i hi j hj
  have old:LS (fun q=>R' (up rs k r q) j) (Ls i)=LS (fun q=>R (rs q) j) (Ls i):=oh fun e he=>by
   have:=(h.lo i hi e he).1
   show R' (up rs k r e.1) j=R (rs e.1) j
   rw[CV _ this,kp _ this j hj]
  rw[h.id i hi j hj]
  by_cases hh:(∀p,p<k->rs p≠i)/\i≠r/\R i c≠0
  ·obtain⟨a1,a2⟩:=h1 i hi hh.1 hh.2.1 hh.2.2;rw[a2,zm,old,a1 j hj]
   show _=_+ (R i c* (R r c)⁻¹*R' (up rs k r k) j+0)+_
   rw[fI,kr j hj];grind
  ·obtain⟨a1,a2⟩:=h2 i hi hh;rw[a2,old,a1 j hj]
 ·intro i hi e he
  by_cases hh:(∀p,p<k->rs p≠i)/\i≠r/\R i c≠0
  ·rw[(h1 i hi hh.1 hh.2.1 hh.2.2).2]at he;rcases List.mem_append.1 he with he|he
   ·obtain⟨b1,b2⟩:=h.lo i hi e he;refine⟨by omega,fun p hp hpi=>?_⟩
    by_cases ep:p=k
    ·omega
    ·rw[CV p (by omega)]at hpi;exact b2 p (by omega) hpi
   ·obtain rfl:=List.mem_singleton.1 he;refine⟨by show k<k+1;omega,fun p hp hpi=>?_⟩
    by_cases ep:p=k
    ·subst ep;rw[fI]at hpi;exact absurd hpi.symm hh.2.1
    ·rw[CV p (by omega)]at hpi;exact absurd hpi (hh.1 p (by omega))
  ·rw[(h2 i hi hh).2]at he;obtain⟨b1,b2⟩:=h.lo i hi e he;refine⟨by omega,fun p hp hpi=>?_⟩
   by_cases ep:p=k
   ·omega
   ·rw[CV p (by omega)]at hpi;exact b2 p (by omega) hpi
 ·intro i hi
  by_cases hh:(∀p,p<k->rs p≠i)/\i≠r/\R i c≠0
  ·rw[(h1 i hi hh.1 hh.2.1 hh.2.2).2];refine List.pairwise_append.2 ⟨h.jF i hi,List.pairwise_singleton _ _,fun a ha b hb=>?_⟩;obtain rfl:=List.mem_singleton.1 hb;exact(h.lo i hi a ha).1
  ·rw[(h2 i hi hh).2];exact h.jF i hi
 ·intro i hi e he
  by_cases hh:(∀p,p<k->rs p≠i)/\i≠r/\R i c≠0
  ·rw[(h1 i hi hh.1 hh.2.1 hh.2.2).2]at he;rcases List.mem_append.1 he with he|he
   ·exact h.nz i hi e he
   ·obtain rfl:=List.mem_singleton.1 he
    show R i c* (R r c)⁻¹≠0
    intro e0;rcases Rat.mul_eq_zero.1 e0 with e0|e0
    ·exact hh.2.2 e0
    ·rw[e0]at hinv;grind
  ·rw[(h2 i hi hh).2]at he;exact h.nz i hi e he
 ·intro i hi hp q hq;have hp':∀p,p<k->rs p≠i:=fun p hpk=>by have:=hp p (by omega);rwa [CV p hpk]at this
  have Ve:i≠r:=fun e=>by have:=hp k (by omega);rw[fI]at this;exact this e.symm
  by_cases e:q=k
  ·subst e;rw[fI,all i hi hp' Ve c hc];grind
  ·rw[NZ q (by omega),all i hi hp' Ve _ (h.El q (by omega)),h.elim i hi hp' q (by omega),h.elim r hr CU q (by omega)];grind
 ·intro p hp q hq
  by_cases e:p=k
  ·subst e;rw[fI,NZ q hq,kr _ (h.El q hq)];exact h.elim r hr CU q hq
  ·rw[CV p (by omega),NZ q (by omega),kp p (by omega) _ (h.El q (by omega))];exact h.pelim p (by omega) q hq
 ·intro p hp
  by_cases e:p=k
  ·subst e;rw[fI,fI,kr c hc];exact hz
  ·rw[CV p (by omega),NZ p (by omega),kp p (by omega) _ (h.El p (by omega))];exact h.piv p (by omega)
 ·intro x hx hs;have hxc:x c=0:=by have:=hx k (by omega);rwa [fI]at this
  obtain⟨t,ht⟩:=xeq (S n (fun j=>R r j*x j))
  have hy:=h.inj (up x c (-(t* (R r c)⁻¹))) (fun q hq=>by
   rw[BQ _ _ (BJ q hq)];have:=hx q (by omega)
   rwa [NZ q hq]at this) (fun i hi hp=>by
   rw[alm _ _ _ hc,hxc]
   by_cases e:i=r
   ·subst e;rw[ht];grind
   ·have hp2:∀p,p<k+1->up rs k r p≠i:=fun p hpk=>by
     by_cases ep:p=k
     ·subst ep;rw[fI];exact fun e2=>e e2.symm
     ·rw[CV p (by omega)];exact hp p (by omega)
    have h3:=hs i hi hp2;rw[cT (g:=fun j=>R i j*x j-R i c* (R r c)⁻¹* (R r j*x j)) (fun j hj=>by rw[all i hi hp e j hj];grind),L8,xV,ht]at h3
    grind)
  intro j hj
  by_cases e:j=c
  ·subst e;exact hxc
  ·have:=hy j hj;rwa [BQ _ _ e]at this
theorem onto{n:Nat}:∀{f:Nat->Nat},(∀p,p<n->f p<n)->(∀p q,p<n->q<n->f p=f q->p=q)->∀i,i<n->∃p,p<n/\f p=i:=by
 induction n with
 |zero=>intro f _ _ i hi;omega
 |succ n ih=>
  intro f hl hi i hin
  -- swap the value n into the last place
  let g:Nat->Nat:=fun p=>if f p=n then f n else f p
  have hg:=ih (f:=g) (fun p hp=>by
   show(if f p=n then f n else f p)<n
   split
   ·next e=>
    have h1:=hl n (by omega);have:f n≠n:=fun e2=>by have:=hi p n (by omega) (by omega) (e.trans e2.symm);omega
    omega
   ·next e=>have:=hl p (by omega);omega) (fun p q hp hq hpq=>by
   have IC:(if f p=n then f n else f p)=(if f q=n then f n else f q):=hpq
   by_cases e1:f p=n<;>by_cases e2:f q=n
   ·exact hi p q (by omega) (by omega) (e1.trans e2.symm)
   ·rw[if_pos e1,if_neg e2]at IC;have:=hi n q (by omega) (by omega) IC;omega
   ·rw[if_neg e1,if_pos e2]at IC;have:=hi p n (by omega) (by omega) IC;omega
   ·rw[if_neg e1,if_neg e2]at IC;exact hi p q (by omega) (by omega) IC)
  by_cases e:i=n
  ·subst e
   by_cases e2:f i=i
   ·exact⟨i,by omega,e2⟩
   ·obtain⟨p,hp,hpe⟩:=hg (f i) (by have:=hl i (by omega);omega);have Em:(if f p=i then f i else f p)=f i:=hpe
    by_cases e3:f p=i
    ·exact⟨p,by omega,e3⟩
    ·rw[if_neg e3]at Em;have:=hi p i (by omega) (by omega) Em;omega
  ·obtain⟨p,hp,hpe⟩:=hg i (by omega);have Em:(if f p=n then f n else f p)=i:=hpe
   by_cases e3:f p=n
   ·rw[if_pos e3]at Em;exact⟨n,by omega,Em⟩
   ·rw[if_neg e3]at Em;exact⟨p,by omega,Em⟩
theorem Vj{n:Nat}{f:Nat->Nat}(hl:∀p,p<n->f p<n)(hi:∀p q,p<n->q<n->f p=f q->p=q)(g:Nat->Rat):S n (fun p=>g (f p))=S n g:=by
 rw[cT (g:=fun p=>S n (fun j=>dl j (f p)*g j)) (fun p hp=>by rw[sH _ (hl p hp)]),L9];refine cT fun j hj=>?_;obtain⟨p0,h0,e0⟩:=onto hl hi j hj
 rw[cT (g:=fun p=>dl p p0*g j) (fun p hp=>by
  by_cases e:p=p0
  ·subst e;rw[e0,gQ,gQ]
  ·rw[je e,je (fun e2=>e (hi p p0 hp h0 (by rw[<-e2,e0])))]),sH _ h0]
theorem EI.solve{n:Nat}{M:Nat->Nat->Rat}{rs cs:Nat->Nat}{R:Nat->Nat->Rat}{Ls:Nat->List (Nat×Rat)}(h:EI n M n rs cs R Ls){b z y x:Nat->Rat}(hz:∀i,i<n->z i=b (rs i) -LS z (Ls (rs i)))(hy:∀i,i<n->S n (fun p=>R (rs i) (cs p)*y p)=z i)(hx:∀i,i<n->x (cs i)=y i):
 ∀i,i<n->S n (fun j=>M i j*x j)=b i:=by
 intro i hi;obtain⟨p,hp,rfl⟩:=onto h.Gz h.zo i hi
 have row:∀q,q<n->S n (fun j=>R (rs q) j*x j)=z q:=fun q hq=>by
  rw[<-Vj h.El h.wL (fun j=>R (rs q) j*x j),<-hy q hq];exact cT fun p hp=>by rw[hx p hp]
 rw[cT (g:=fun j=>LS (fun q=>R (rs q) j) (Ls (rs p))*x j+R (rs p) j*x j) (fun j hj=>by rw[h.id _ hi j hj];grind),xU,aaw,row p hp,oh (h:=z) (fun e he=>row e.1 ((h.lo _ hi e he).1)),hz p hp]
 grind
end Go.Proofs.YtkmpoleajjgfaaaGreat.Gd
