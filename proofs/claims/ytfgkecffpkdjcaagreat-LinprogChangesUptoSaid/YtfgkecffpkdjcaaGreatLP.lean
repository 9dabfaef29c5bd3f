/- Linear programs: sums, feasible points, dual bounds, certificates, and the sizes of the numbers: plain mathematics. -/
namespace Gm
noncomputable def pb (P:Prop):Bool:=@decide P (Classical.propDecidable P)
theorem pb_t {P:Prop}:pb P = true↔P:=by unfold pb;exact @decide_eq_true_iff P (Classical.propDecidable P)
theorem pb_f {P:Prop}:pb P = false↔¬ P:=by unfold pb;exact @decide_eq_false_iff_not P (Classical.propDecidable P)
theorem pb_of {P:Prop} {b:Bool} (h:b = true↔P):pb P = b:=by
 cases b with
 | true=>exact pb_t.2 (h.1 rfl)
 | false=>exact pb_f.2 fun hp=>by have:=h.2 hp;cases this
theorem pb_congr {P Q:Prop} (h:P↔Q):pb P = pb Q:=by rw [propext h]
theorem dec_pb {P:Prop} [Decidable P]:decide P = pb P:=by
 by_cases h:P
 ·rw [decide_eq_true h,pb_t.2 h]
 ·rw [decide_eq_false h,pb_f.2 h]
def sumN (f:Nat→Rat):Nat→Rat
 | 0=>0
 | n + 1=>sumN f n + f n
theorem sumN_congr {f g:Nat→Rat} {n:Nat} (h:∀ i,i < n→f i = g i):sumN f n = sumN g n:=by
 induction n with
 | zero=>rfl
 | succ n ih=>simp only [sumN];rw [ih fun i hi=>h i (by omega),h n (by omega)]
theorem sumN_add (f g:Nat→Rat) (n:Nat):sumN (fun i=>f i + g i) n = sumN f n + sumN g n:=by
 induction n with
 | zero=>simp only [sumN];grind
 | succ n ih=>simp only [sumN];rw [ih];grind
theorem sumN_mul (t:Rat) (f:Nat→Rat) (n:Nat):sumN (fun i=>t * f i) n = t * sumN f n:=by
 induction n with
 | zero=>simp [sumN]
 | succ n ih=>simp only [sumN];rw [ih];grind
theorem sumN_le {f g:Nat→Rat} {n:Nat} (h:∀ i,i < n→f i≤g i):sumN f n≤sumN g n:=by
 induction n with
 | zero=>exact Rat.le_refl
 | succ n ih=>
   have h1:=ih fun i hi=>h i (by omega)
   have h2:=h n (by omega)
   simp only [sumN];grind
theorem sumN_zero {f:Nat→Rat} {n:Nat} (h:∀ i,i < n→f i = 0):sumN f n = 0:=by
 induction n with
 | zero=>rfl
 | succ n ih=>simp only [sumN];rw [ih fun i hi=>h i (by omega),h n (by omega)];grind
theorem sumN_upd {f g:Nat→Rat} {n a:Nat} {u:Rat} (ha:a < n) (h:∀ i,g i = if i = a then f i - u else f i):sumN g n = sumN f n - u:=by
 induction n with
 | zero=>omega
 | succ n ih=>
   simp only [sumN]
   by_cases e:a = n
   ·subst e
    rw [sumN_congr (f:=g) (g:=f) (n:=a) fun i hi=>by rw [h,if_neg (by omega)],h,if_pos rfl];grind
   ·rw [ih (by omega),h,if_neg (by omega)];grind
structure LCol where
 cost:Rat
 hl:Bool
 lo:Rat
 hu:Bool
 up:Rat
structure LRow where
 sense:Int
 rhs:Rat
 es:List (Int × Rat)
structure Prg where
 cols:List LCol
 rows:List LRow
def colZ:LCol:=⟨0,false,0,false,0⟩
def rowZ:LRow:=⟨0,0,[]⟩
def Prg.col (p:Prg) (j:Nat):LCol:=p.cols.getD j colZ
def Prg.row (p:Prg) (i:Nat):LRow:=p.rows.getD i rowZ
def rg (x:List Rat) (j:Nat):Rat:=x.getD j 0
def LRow.ix (r:LRow) (k:Nat):Int:=(r.es.getD k (0,0)).1
def LRow.vl (r:LRow) (k:Nat):Rat:=(r.es.getD k (0,0)).2
def asum (r:LRow) (x:List Rat) (n:Nat):Rat:=sumN (fun k=>r.vl k * rg x (r.ix k).toNat) n
def act (r:LRow) (x:List Rat):Rat:=asum r x r.es.length
def osum (p:Prg) (x:List Rat) (n:Nat):Rat:=sumN (fun j=>(p.col j).cost * rg x j) n
def obj (p:Prg) (x:List Rat):Rat:=osum p x p.cols.length
def Crossed (c:LCol):Prop:=c.hl = true∧c.hu = true∧c.up < c.lo
def Asc (es:List (Int × Rat)):Prop:=∀ k,1≤k→k < es.length→(es.getD (k - 1) (0,0)).1 < (es.getD k (0,0)).1
def EntOk (es:List (Int × Rat)) (n:Nat):Prop:=Asc es∧∀ k,k < es.length→0≤(es.getD k (0,0)).1∧(es.getD k (0,0)).1 < n∧(es.getD k (0,0)).2≠0
def SenseOk (s:Int):Prop:=s = -1∨s = 0∨s = 1
def RowOk (r:LRow) (n:Nat):Prop:=SenseOk r.sense∧EntOk r.es n
open Classical in
noncomputable def errV (p:Prg):Int:=
 if 16384 < p.cols.length∨16384 < p.rows.length then 8
 else if ∃ j,j < p.cols.length∧Crossed (p.col j) then 3
 else if ∃ i,i < p.rows.length∧¬ RowOk (p.row i) p.cols.length then 1
 else 0
structure Vld (p:Prg):Prop where
 c:p.cols.length≤16384
 r:p.rows.length≤16384
 cr:∀ j,j < p.cols.length→¬ Crossed (p.col j)
 ro:∀ i,i < p.rows.length→RowOk (p.row i) p.cols.length
theorem errV_zero {p:Prg}:errV p = 0↔Vld p:=by
 unfold errV
 constructor
 ·intro h
  split at h;·simp at h
  split at h;·simp at h
  split at h;·simp at h
  rename_i h1 h2 h3
  exact ⟨by omega,by omega,fun j hj hc=>h2 ⟨j,hj,hc⟩,fun i hi=>Classical.byContradiction fun hn=>h3 ⟨i,hi,hn⟩⟩
 ·intro h
  rw [if_neg,if_neg,if_neg]
  ·rintro ⟨i,hi,hn⟩;exact hn (h.ro i hi)
  ·rintro ⟨j,hj,hc⟩;exact h.cr j hj hc
  ·have:=h.c;have:=h.r;omega
noncomputable def errC (p:Prg) (l n:Nat):Int:=open Classical in if errV p = 0 then (if l = n then 0 else 4) else errV p
theorem errC_zero {p:Prg} {l n:Nat}:errC p l n = 0↔Vld p∧l = n:=by
 unfold errC
 rw [← errV_zero]
 split
 ·rename_i h
  by_cases e:l = n
  ·simp [h,e]
  ·simp [h,e]
 ·rename_i h;simp [h]
def OutB (c:LCol) (v:Rat):Prop:=(c.hl = true∧v < c.lo)∨(c.hu = true∧c.up < v)
def Broken (r:LRow) (a:Rat):Prop:=(r.rhs < a∧r.sense≠1)∨(a < r.rhs∧r.sense≠-1)
structure Feas (p:Prg) (x:List Rat):Prop where
 v:Vld p
 n:x.length = p.cols.length
 c:∀ j,j < p.cols.length→¬ OutB (p.col j) (rg x j)
 r:∀ i,i < p.rows.length→¬ Broken (p.row i) (act (p.row i) x)
noncomputable def idxs (P:Nat→Prop) (n:Nat):List Nat:=(List.range n).filter fun j=>pb (P j)
theorem idxs_succ (P:Nat→Prop) (n:Nat):idxs P (n + 1) = idxs P n ++ (if pb (P n) = true then [n] else []):=by
 unfold idxs
 rw [List.range_succ,List.filter_append]
 congr 1
 cases h:pb (P n) <;> simp [h]
theorem idxs_nil {P:Nat→Prop} {n:Nat}:idxs P n = []↔∀ j,j < n→¬ P j:=by
 unfold idxs
 rw [List.filter_eq_nil_iff]
 constructor
 ·intro h j hj hp;exact h j (List.mem_range.2 hj) (pb_t.2 hp)
 ·intro h j hj hp;exact h j (List.mem_range.1 hj) (pb_t.1 hp)
theorem idxs_len (P:Nat→Prop) (n:Nat):(idxs P n).length≤n:=by
 unfold idxs
 exact Nat.le_trans (List.length_filter_le _ _) (by simp)
noncomputable def vcols (p:Prg) (x:List Rat):Nat→List Nat:=idxs fun j=>OutB (p.col j) (rg x j)
noncomputable def vrows (p:Prg) (x:List Rat):Nat→List Nat:=idxs fun i=>Broken (p.row i) (act (p.row i) x)
theorem feas_iff {p:Prg} {x:List Rat}:Feas p x↔errC p x.length p.cols.length = 0∧vcols p x p.cols.length = []∧vrows p x p.rows.length = []:=by
 rw [errC_zero]
 unfold vcols vrows
 rw [idxs_nil,idxs_nil]
 exact ⟨fun h=>⟨⟨h.v,h.n⟩,h.c,h.r⟩,fun h=>⟨h.1.1,h.1.2,h.2.1,h.2.2⟩⟩
def redE (r:LRow) (y:Rat) (d:Nat→Rat):Nat→Nat→Rat
 | 0=>d
 | k + 1=>fun j=>if j = (r.ix k).toNat then redE r y d k j - y * r.vl k else redE r y d k j
def redR (p:Prg) (y:List Rat):Nat→Nat→Rat
 | 0=>fun j=>(p.col j).cost
 | i + 1=>if rg y i = 0 then redR p y i else redE (p.row i) (rg y i) (redR p y i) (p.row i).es.length
def red (p:Prg) (y:List Rat):Nat→Rat:=redR p y p.rows.length
structure Sgd (p:Prg) (y:List Rat):Prop where
 v:Vld p
 n:y.length = p.rows.length
 s:∀ i,i < p.rows.length→((p.row i).sense = -1→rg y i≤0)∧((p.row i).sense = 1→0≤rg y i)
def yrhs (p:Prg) (y:List Rat) (n:Nat):Rat:=sumN (fun i=>rg y i * (p.row i).rhs) n
def bterm (p:Prg) (y:List Rat) (j:Nat):Rat:=if 0 < red p y j then red p y j * (p.col j).lo else if red p y j < 0 then red p y j * (p.col j).up else 0
def bsum (p:Prg) (y:List Rat) (n:Nat):Rat:=yrhs p y p.rows.length + sumN (bterm p y) n
def bnd (p:Prg) (y:List Rat):Rat:=bsum p y p.cols.length
def bOk (p:Prg) (y:List Rat) (j:Nat):Prop:=(0 < red p y j→(p.col j).hl = true)∧(red p y j < 0→(p.col j).hu = true)
structure BndOk (p:Prg) (y:List Rat):Prop where
 s:Sgd p y
 b:∀ j,j < p.cols.length→bOk p y j
theorem redE_sum {r:LRow} {n:Nat} (y:Rat) (d:Nat→Rat) (x:List Rat) {k:Nat} (h:∀ i,i < k→(r.ix i).toNat < n):sumN (fun j=>redE r y d k j * rg x j) n = sumN (fun j=>d j * rg x j) n - y * asum r x k:=by
 induction k with
 | zero=>simp only [redE,asum,sumN];grind
 | succ k ih=>
   have h1:=sumN_upd (f:=fun j=>redE r y d k j * rg x j) (g:=fun j=>redE r y d (k + 1) j * rg x j) (u:=y * r.vl k * rg x (r.ix k).toNat) (h k (by omega)) fun i=>by
    simp only [redE]
    split
    ·rename_i e;subst e;grind
    ·rfl
   rw [h1,ih fun i hi=>h i (by omega)]
   simp only [asum,sumN]
   grind
theorem RowOk.lt {r:LRow} {n:Nat} (h:RowOk r n) {k:Nat} (hk:k < r.es.length):(r.ix k).toNat < n:=by
 obtain ⟨h1,h2,_⟩:=h.2.2 k hk
 unfold LRow.ix;omega
theorem red_sum {p:Prg} (hv:Vld p) (y x:List Rat) {i:Nat} (hi:i≤p.rows.length):sumN (fun j=>redR p y i j * rg x j) p.cols.length = obj p x - sumN (fun i=>rg y i * act (p.row i) x) i:=by
 induction i with
 | zero=>simp only [redR,sumN,obj,osum];grind
 | succ i ih=>
   have h1:=ih (by omega)
   simp only [redR,sumN]
   split
   ·rename_i e;rw [h1,e];grind
   ·rw [redE_sum _ _ _ fun k hk=>(hv.ro i (by omega)).lt hk,h1];unfold act;grind
theorem weak {p:Prg} {x y:List Rat} (hf:Feas p x) (hb:BndOk p y):bnd p y≤obj p x:=by
 have h1:=red_sum hf.v y x (Nat.le_refl _)
 have h2:yrhs p y p.rows.length≤sumN (fun i=>rg y i * act (p.row i) x) p.rows.length:=sumN_le fun i hi=>by
  have h3:=hf.r i hi
  obtain ⟨h4,h5⟩:=hb.s.s i hi
  have h6:=(hf.v.ro i hi).1
  unfold Broken at h3
  generalize act (p.row i) x = a at *
  generalize rg y i = u at *
  generalize (p.row i).rhs = b at *
  generalize (p.row i).sense = s at *
  have key:(b≤a∧0≤u)∨(a≤b∧u≤0)∨a = b:=by
   rcases h6 with h6 | h6 | h6
   ·refine .inr (.inl ⟨Rat.not_lt.1 fun h=>h3 (.inl ⟨h,by omega⟩),h4 h6⟩)
   ·refine .inr (.inr ?_)
    exact Rat.le_antisymm (Rat.not_lt.1 fun h=>h3 (.inl ⟨h,by omega⟩)) (Rat.not_lt.1 fun h=>h3 (.inr ⟨h,by omega⟩))
   ·refine .inl ⟨Rat.not_lt.1 fun h=>h3 (.inr ⟨h,by omega⟩),h5 h6⟩
  rcases key with ⟨k1,k2⟩ | ⟨k1,k2⟩ | k1
  ·exact Rat.mul_le_mul_of_nonneg_left k1 k2
  ·have:=Rat.mul_le_mul_of_nonneg_left k1 (show 0≤-u by grind)
   grind
  ·rw [k1];exact Rat.le_refl
 have h7:sumN (bterm p y) p.cols.length≤sumN (fun j=>redR p y p.rows.length j * rg x j) p.cols.length:=sumN_le fun j hj=>by
  have h3:=hf.c j hj
  obtain ⟨h4,h5⟩:=hb.b j hj
  unfold OutB at h3
  unfold bterm
  unfold red at *
  generalize redR p y p.rows.length j = d at *
  generalize rg x j = v at *
  generalize p.col j = c at *
  split
  ·rename_i hd
   have:c.lo≤v:=Rat.not_lt.1 fun h=>h3 (.inl ⟨h4 hd,h⟩)
   exact Rat.mul_le_mul_of_nonneg_left this (Rat.le_of_lt hd)
  ·split
   ·rename_i hd
    have:v≤c.up:=Rat.not_lt.1 fun h=>h3 (.inr ⟨h5 hd,h⟩)
    have:=Rat.mul_le_mul_of_nonneg_left this (show 0≤-d by grind)
    grind
   ·rename_i ha hb'
    have:d = 0:=Rat.le_antisymm (Rat.not_lt.1 ha) (Rat.not_lt.1 hb')
    rw [this];grind
 unfold bnd bsum
 grind
structure Comb (n:Nat) (s t:Rat) (a b x:List Rat):Prop where
 h:∀ j,j < n→rg x j = s * rg a j + t * rg b j
theorem Comb.act {n:Nat} {s t:Rat} {a b x:List Rat} (h:Comb n s t a b x) {r:LRow} (hr:RowOk r n):act r x = s * act r a + t * act r b:=by
 unfold Gm.act asum
 rw [← sumN_mul,← sumN_mul,← sumN_add]
 exact sumN_congr fun k hk=>by rw [h.h _ (hr.lt hk)];grind
theorem Comb.obj {s t:Rat} {a b x:List Rat} {p:Prg} (h:Comb p.cols.length s t a b x):obj p x = s * obj p a + t * obj p b:=by
 unfold Gm.obj osum
 rw [← sumN_mul,← sumN_mul,← sumN_add]
 exact sumN_congr fun k hk=>by rw [h.h _ hk];grind
theorem not_outb {c:LCol} {v:Rat}:¬ OutB c v↔(c.hl = true→c.lo≤v)∧(c.hu = true→v≤c.up):=by
 unfold OutB
 constructor
 ·intro h
  exact ⟨fun h1=>Rat.not_lt.1 fun h2=>h (.inl ⟨h1,h2⟩),fun h1=>Rat.not_lt.1 fun h2=>h (.inr ⟨h1,h2⟩)⟩
 ·rintro ⟨h1,h2⟩ (⟨h3,h4⟩ | ⟨h3,h4⟩)
  ·exact absurd h4 (Rat.not_lt.2 (h1 h3))
  ·exact absurd h4 (Rat.not_lt.2 (h2 h3))
theorem not_broken {r:LRow} {a:Rat}:¬ Broken r a↔(r.sense≠1→a≤r.rhs)∧(r.sense≠-1→r.rhs≤a):=by
 unfold Broken
 constructor
 ·intro h
  exact ⟨fun h1=>Rat.not_lt.1 fun h2=>h (.inl ⟨h2,h1⟩),fun h1=>Rat.not_lt.1 fun h2=>h (.inr ⟨h2,h1⟩)⟩
 ·rintro ⟨h1,h2⟩ (⟨h3,h4⟩ | ⟨h3,h4⟩)
  ·exact absurd h3 (Rat.not_lt.2 (h1 h4))
  ·exact absurd h3 (Rat.not_lt.2 (h2 h4))
def LCol.free (c:LCol):LCol:={ c with cost:=0 }
def Prg.free (p:Prg):Prg:=⟨p.cols.map LCol.free,p.rows⟩
theorem free_col (p:Prg) (j:Nat):p.free.col j = (p.col j).free:=by
 unfold Prg.col Prg.free
 simp only [List.getD_eq_getElem?_getD,List.getElem?_map]
 cases p.cols[j]? <;> rfl
theorem free_len (p:Prg):p.free.cols.length = p.cols.length:=by unfold Prg.free;simp
theorem Vld.free {p:Prg}:Vld p.free↔Vld p:=by
 constructor
 ·intro h
  refine ⟨by rw [← free_len];exact h.c,h.r,fun j hj hc=>h.cr j (by rw [free_len];exact hj) (by rw [free_col];exact hc),fun i hi=>?_⟩
  have:=h.ro i hi
  rw [free_len] at this;exact this
 ·intro h
  refine ⟨by rw [free_len];exact h.c,h.r,fun j hj hc=>h.cr j (by rw [← free_len];exact hj) (by rw [free_col] at hc;exact hc),fun i hi=>?_⟩
  rw [free_len]
  exact h.ro i hi
theorem Feas.free {p:Prg} {x:List Rat} (h:Feas p x):Feas p.free x:=
 ⟨Vld.free.2 h.v,by rw [free_len];exact h.n,fun j hj=>by rw [free_col];exact h.c j (by rw [← free_len];exact hj),h.r⟩
theorem obj_free (p:Prg) (x:List Rat):obj p.free x = 0:=by
 unfold obj osum
 exact sumN_zero fun j _=>by rw [free_col];show 0 * _ = _;grind
def Infs (p:Prg) (y:List Rat):Prop:=BndOk p.free y∧0 < bnd p.free y
theorem Infs.no {p:Prg} {x y:List Rat} (h:Infs p y):¬ Feas p x:=fun hf=>by
 have h1:=weak hf.free h.1
 rw [obj_free] at h1
 exact absurd h.2 (Rat.not_lt.2 h1)
def Opt (p:Prg) (x y:List Rat):Prop:=Feas p x∧BndOk p y∧obj p x = bnd p y
theorem Opt.le {p:Prg} {x y z:List Rat} (h:Opt p x y) (hz:Feas p z):obj p x≤obj p z:=by
 rw [h.2.2];exact weak hz h.2.1
theorem Opt.ge {p:Prg} {x y z:List Rat} (h:Opt p x y) (hz:BndOk p z):bnd p z≤obj p x:=weak h.1 hz
theorem Opt.eq {p:Prg} {x y x' y':List Rat} (h:Opt p x y) (k:Opt p x' y'):obj p x = obj p x':=Rat.le_antisymm (h.le k.1) (k.le h.1)
structure Unb (p:Prg) (x ray:List Rat):Prop where
 f:Feas p x
 n:ray.length = p.cols.length
 c:∀ j,j < p.cols.length→((p.col j).hl = true→0≤rg ray j)∧((p.col j).hu = true→rg ray j≤0)
 r:∀ i,i < p.rows.length→((p.row i).sense≠1→act (p.row i) ray≤0)∧((p.row i).sense≠-1→0≤act (p.row i) ray)
 o:obj p ray < 0
theorem Unb.far {p:Prg} {x ray far:List Rat} (h:Unb p x ray) {t:Rat} (ht:0≤t) (hn:far.length = p.cols.length) (hc:Comb p.cols.length 1 t x ray far):Feas p far:=by
 refine ⟨h.f.v,hn,fun j hj=>?_,fun i hi=>?_⟩
 ·have h1:=not_outb.1 (h.f.c j hj)
  have h2:=h.c j hj
  rw [not_outb,hc.h j hj]
  refine ⟨fun h3=>?_,fun h3=>?_⟩
  ·have h4:=h1.1 h3
   have h5:=Rat.mul_nonneg ht (h2.1 h3)
   grind
  ·have h4:=h1.2 h3
   have h5:=Rat.mul_nonneg ht (show 0≤-(rg ray j) by have:=h2.2 h3;grind)
   grind
 ·have h1:=not_broken.1 (h.f.r i hi)
  have h2:=h.r i hi
  rw [not_broken,hc.act (h.f.v.ro i hi)]
  refine ⟨fun h3=>?_,fun h3=>?_⟩
  ·have h4:=h1.1 h3
   have h5:=Rat.mul_nonneg ht (show 0≤-(act (p.row i) ray) by have:=h2.1 h3;grind)
   grind
  ·have h4:=h1.2 h3
   have h5:=Rat.mul_nonneg ht (h2.2 h3)
   grind
theorem Unb.obj {p:Prg} {x ray far:List Rat} {t:Rat} (hc:Comb p.cols.length 1 t x ray far):obj p far = obj p x + t * obj p ray:=by
 rw [hc.obj];grind
def farP (n:Nat) (x ray:List Rat) (t:Rat):List Rat:=(List.range n).map fun j=>rg x j + t * rg ray j
theorem farP_comb (n:Nat) (x ray:List Rat) (t:Rat):(farP n x ray t).length = n∧Comb n 1 t x ray (farP n x ray t):=by
 refine ⟨by simp [farP],⟨fun j hj=>?_⟩⟩
 unfold farP
 have:rg (List.map (fun j=>rg x j + t * rg ray j) (List.range n)) j = rg x j + t * rg ray j:=by
  conv=>lhs;unfold rg
  rw [List.getD_eq_getElem?_getD,List.getElem?_map,List.getElem?_range hj];rfl
 rw [this];grind
theorem Unb.none {p:Prg} {x ray y:List Rat} (h:Unb p x ray):¬ BndOk p y:=fun hb=>by
 have ho:=h.o
 have hd:(0:Rat)≤-(Gm.obj p ray):=by grind
 have hn:-(Gm.obj p ray)≠0:=fun e=>by grind
 have h0:Gm.bnd p y≤Gm.obj p x:=weak h.f hb
 obtain ⟨t,ht0,ht⟩:∃ t:Rat,0≤t∧t * -(Gm.obj p ray) = Gm.obj p x - bnd p y + 1:=by
  refine ⟨(Gm.obj p x - bnd p y + 1) / -(Gm.obj p ray),?_,?_⟩
  ·rw [Rat.div_def]
   exact Rat.mul_nonneg (by grind) (Rat.le_of_lt (Rat.inv_pos.2 (by grind)))
  ·rw [Rat.div_def,Rat.mul_assoc,Rat.inv_mul_cancel _ hn];grind
 obtain ⟨h1,h2⟩:=farP_comb p.cols.length x ray t
 have h3:=weak (h.far ht0 h1 h2) hb
 rw [Unb.obj h2] at h3
 grind
inductive Sol (p:Prg):Int→Rat→List Rat→List Rat→List Rat→Prop where
 | opt {v:Rat} {x y:List Rat} (h:Opt p x y) (hv:v = Gm.obj p x):Sol p 1 v x y []
 | inf {y:List Rat} (h:Infs p y):Sol p 2 0 [] y []
 | unb {x r:List Rat} (h:Unb p x r):Sol p 3 0 x [] r
theorem Sol.one {p:Prg} {s s':Int} {v v':Rat} {x y r x' y' r':List Rat} (h:Sol p s v x y r) (k:Sol p s' v' x' y' r'):s = s'∧v = v':=by
 cases h with
 | opt h hv=>
   cases k with
   | opt k kv=>exact ⟨rfl,by rw [hv,kv];exact h.eq k⟩
   | inf k=>exact absurd h.1 k.no
   | unb k=>exact absurd h.2.1 k.none
 | inf h=>
   cases k with
   | opt k kv=>exact absurd k.1 h.no
   | inf k=>exact ⟨rfl,rfl⟩
   | unb k=>exact absurd k.f h.no
 | unb h=>
   cases k with
   | opt k kv=>exact absurd k.2.1 h.none
   | inf k=>exact absurd h.f k.no
   | unb k=>exact ⟨rfl,rfl⟩
def Cl (D E d c:Nat) (q:Rat):Prop:=∃ n:Int,q = mkRat n (D ^ d)∧n.natAbs≤c * E ^ d
theorem Cl.neg {D E d c:Nat} {q:Rat} (h:Cl D E d c q):Cl D E d c (-q):=by
 obtain ⟨n,rfl,h2⟩:=h
 exact ⟨-n,Rat.neg_mkRat n (D ^ d),by rw [Int.natAbs_neg];exact h2⟩
theorem Cl.zero (D E d c:Nat):Cl D E d c 0:=⟨0,by rw [Rat.zero_mkRat],by simp⟩
theorem mk_add (D:Nat) (m n:Int):mkRat m D + mkRat n D = mkRat (m + n) D:=by
 simp only [Rat.mkRat_eq_div]
 rw [Rat.div_def,Rat.div_def,Rat.div_def,← Rat.add_mul,Rat.intCast_add]
theorem Cl.add {D E d c c':Nat} {q r:Rat} (h:Cl D E d c q) (k:Cl D E d c' r):Cl D E d (c + c') (q + r):=by
 obtain ⟨m,rfl,h2⟩:=h
 obtain ⟨n,rfl,k2⟩:=k
 refine ⟨m + n,mk_add _ _ _,?_⟩
 have:=Int.natAbs_add_le m n
 rw [Nat.add_mul];omega
theorem Cl.sub {D E d c c':Nat} {q r:Rat} (h:Cl D E d c q) (k:Cl D E d c' r):Cl D E d (c + c') (q - r):=by
 rw [Rat.sub_eq_add_neg];exact h.add k.neg
theorem Cl.mul {D E d d' c c':Nat} {q r:Rat} (h:Cl D E d c q) (k:Cl D E d' c' r):Cl D E (d + d') (c * c') (q * r):=by
 obtain ⟨m,rfl,h2⟩:=h
 obtain ⟨n,rfl,k2⟩:=k
 refine ⟨m * n,by rw [Rat.mkRat_mul_mkRat,Nat.pow_add],?_⟩
 rw [Int.natAbs_mul,Nat.pow_add]
 calc m.natAbs * n.natAbs≤(c * E ^ d) * (c' * E ^ d'):=Nat.mul_le_mul h2 k2
  _ = _:=by rw [Nat.mul_mul_mul_comm]
theorem Cl.up1 {D E d c:Nat} {q:Rat} (hD:1≤D) (hE:D≤E) (h:Cl D E d c q):Cl D E (d + 1) c q:=by
 obtain ⟨m,rfl,h2⟩:=h
 refine ⟨m * D,?_,?_⟩
 ·rw [Nat.pow_succ,Rat.mkRat_mul_right (by omega)]
 ·rw [Int.natAbs_mul,Nat.pow_succ,← Nat.mul_assoc]
  exact Nat.mul_le_mul h2 (by rw [Int.natAbs_natCast];exact hE)
theorem Cl.up {D E d c d' c':Nat} {q:Rat} (hD:1≤D) (hE:D≤E) (h:Cl D E d c q) (hd:d≤d') (hc:c≤c'):Cl D E d' c' q:=by
 have h1:∀ k,Cl D E (d + k) c q:=fun k=>by
  induction k with
  | zero=>exact h
  | succ k ih=>exact ih.up1 hD hE
 have h2:=h1 (d' - d)
 rw [show d + (d' - d) = d' by omega] at h2
 obtain ⟨m,e,h3⟩:=h2
 exact ⟨m,e,Nat.le_trans h3 (Nat.mul_le_mul_right _ hc)⟩
theorem Cl.sum {D E d c:Nat} {f:Nat→Rat} {n:Nat} (h:∀ i,i < n→Cl D E d c (f i)):Cl D E d (n * c) (sumN f n):=by
 induction n with
 | zero=>exact Cl.zero D E d (0 * c)
 | succ n ih=>
   rw [Nat.succ_mul]
   exact (ih fun i hi=>h i (by omega)).add (h n (by omega))
structure PIn (D E:Nat) (p:Prg):Prop where
 cost:∀ j,Cl D E 1 1 (p.col j).cost
 lo:∀ j,Cl D E 1 1 (p.col j).lo
 up:∀ j,Cl D E 1 1 (p.col j).up
 rhs:∀ i,Cl D E 1 1 (p.row i).rhs
 vl:∀ i k,Cl D E 1 1 ((p.row i).vl k)
def XIn (D E:Nat) (x:List Rat):Prop:=∀ j,Cl D E 1 1 (rg x j)
theorem asum_cl {D E:Nat} {r:LRow} {x:List Rat} (hr:∀ k,Cl D E 1 1 (r.vl k)) (hx:XIn D E x) (n:Nat):Cl D E 2 n (asum r x n):=by
 have:=Cl.sum (D:=D) (E:=E) (d:=2) (c:=1 * 1) (f:=fun k=>r.vl k * rg x (r.ix k).toNat) (n:=n) fun k _=>(hr k).mul (hx _)
 rw [Nat.mul_one] at this
 exact this
theorem osum_cl {D E:Nat} {p:Prg} {x:List Rat} (hp:PIn D E p) (hx:XIn D E x) (n:Nat):Cl D E 2 n (osum p x n):=by
 have:=Cl.sum (D:=D) (E:=E) (d:=2) (c:=1 * 1) (f:=fun j=>(p.col j).cost * rg x j) (n:=n) fun k _=>(hp.cost k).mul (hx _)
 rw [Nat.mul_one] at this
 exact this
theorem redE_cl {D E:Nat} {r:LRow} {y:Rat} {d:Nat→Rat} {c:Nat} (hr:∀ k,Cl D E 1 1 (r.vl k)) (hy:Cl D E 1 1 y) (hd:∀ j,Cl D E 2 c (d j)) (hD:1≤D) (hE:D≤E) (n j:Nat):Cl D E 2 (c + n) (redE r y d n j):=by
 induction n with
 | zero=>exact hd j
 | succ n ih=>
   simp only [redE]
   split
   ·exact ih.sub (hy.mul (hr n))
   ·exact ih.up hD hE (Nat.le_refl _) (by omega)
theorem redR_cl {D E:Nat} {p:Prg} {y:List Rat} {L:Nat} (hp:PIn D E p) (hy:XIn D E y) (hD:1≤D) (hE:D≤E) (hL:∀ i,(p.row i).es.length≤L) (n j:Nat):Cl D E 2 (1 + n * L) (redR p y n j):=by
 induction n generalizing j with
 | zero=>exact (hp.cost j).up hD hE (by omega) (by omega)
 | succ n ih=>
   simp only [redR]
   split
   ·exact (ih j).up hD hE (Nat.le_refl _) (by rw [Nat.succ_mul];omega)
   ·exact (redE_cl (hp.vl n) (hy n) ih hD hE _ j).up hD hE (Nat.le_refl _) (by have:=hL n;rw [Nat.succ_mul];omega)
theorem redEn_cl {D E:Nat} {p:Prg} {y:List Rat} {L:Nat} (hp:PIn D E p) (hy:XIn D E y) (hD:1≤D) (hE:D≤E) (hL:∀ i,(p.row i).es.length≤L) (n k j:Nat):Cl D E 2 (1 + n * L + k) (redE (p.row n) (rg y n) (redR p y n) k j):=
 redE_cl (hp.vl n) (hy n) (redR_cl hp hy hD hE hL n) hD hE k j
theorem yrhs_cl {D E:Nat} {p:Prg} {y:List Rat} (hp:PIn D E p) (hy:XIn D E y) (n:Nat):Cl D E 2 n (yrhs p y n):=by
 have:=Cl.sum (D:=D) (E:=E) (d:=2) (c:=1 * 1) (f:=fun i=>rg y i * (p.row i).rhs) (n:=n) fun k _=>(hy _).mul (hp.rhs k)
 rw [Nat.mul_one] at this
 exact this
theorem bsum_cl {D E:Nat} {p:Prg} {y:List Rat} {L:Nat} (hp:PIn D E p) (hy:XIn D E y) (hD:1≤D) (hE:D≤E) (hL:∀ i,(p.row i).es.length≤L) (n:Nat):Cl D E 3 (p.rows.length + n * (1 + p.rows.length * L)) (bsum p y n):=by
 refine ((yrhs_cl hp hy _).up hD hE (by omega) (Nat.le_refl _)).add (Cl.sum fun j _=>?_)
 have h1:=redR_cl hp hy hD hE hL p.rows.length j
 unfold bterm red
 split
 ·have:=h1.mul (hp.lo j);rw [Nat.mul_one] at this;exact this
 ·split
  ·have:=h1.mul (hp.up j);rw [Nat.mul_one] at this;exact this
  ·exact Cl.zero _ _ _ _
def dProd:List Rat→Nat
 | []=>1
 | q :: l=>q.den * dProd l
def nProd:List Rat→Nat
 | []=>1
 | q :: l=>(q.num.natAbs + 1) * nProd l
theorem dProd_pos (l:List Rat):1≤dProd l:=by
 induction l with
 | nil=>exact Nat.le_refl 1
 | cons q l ih=>exact Nat.mul_le_mul q.den_pos ih
theorem nProd_pos (l:List Rat):1≤nProd l:=by
 induction l with
 | nil=>exact Nat.le_refl 1
 | cons q l ih=>exact Nat.mul_le_mul (Nat.succ_le_succ (Nat.zero_le _)) ih
theorem mem_den {l:List Rat} {q:Rat} (h:q ∈ l):q.den ∣ dProd l:=by
 induction l with
 | nil=>cases h
 | cons r l ih=>
   rcases List.mem_cons.1 h with h | h
   ·subst h;exact Nat.dvd_mul_right _ _
   ·exact Nat.dvd_trans (ih h) (Nat.dvd_mul_left _ _)
theorem mem_num {l:List Rat} {q:Rat} (h:q ∈ l):q.num.natAbs≤nProd l:=by
 induction l with
 | nil=>cases h
 | cons r l ih=>
   rcases List.mem_cons.1 h with h | h
   ·subst h
    have:=Nat.mul_le_mul (Nat.le_succ q.num.natAbs) (nProd_pos l)
    rw [Nat.mul_one] at this
    exact this
   ·have h1:=ih h
    have:=Nat.mul_le_mul (show 1≤r.num.natAbs + 1 by omega) h1
    rw [Nat.one_mul] at this
    exact this
theorem mem_cl {l:List Rat} {q:Rat} (h:q ∈ l):Cl (dProd l) (dProd l * nProd l) 1 1 q:=by
 obtain ⟨k,hk⟩:=mem_den h
 have hp:=dProd_pos l
 refine ⟨q.num * k,?_,?_⟩
 ·rw [Nat.pow_one,hk]
  have h1:k≠0:=fun e=>by rw [e,Nat.mul_zero] at hk;omega
  rw [Rat.mkRat_mul_right h1,Rat.mkRat_self]
 ·rw [Nat.pow_one,Nat.one_mul,Int.natAbs_mul,Int.natAbs_natCast,Nat.mul_comm (dProd l)]
  refine Nat.mul_le_mul (mem_num h) ?_
  rw [hk]
  have:=Nat.mul_le_mul q.den_pos (Nat.le_refl k)
  rw [Nat.one_mul] at this;exact this
end Gm
