/- Words for memory: a slice of 32-bit limbs that reads as a list of numbers; one that lies in new memory. -/
import Derived.Test.YtkpchamgghhihaaArith
import Derived.Test.YtkpchamgghhihaaProg
import Derived.WalkKit
import Derived.WalkSpells
import Derived.WalkLawsBesides
import Derived.Deep.QuietTactic
import Derived.BigQuiet
import Derived.Lib.Hide
import Derived.Laws.CopyOwn
import Derived.Laws.CopyRow
import Derived.Deep.RegionHeld3
import Derived.Deep.RegionWith
namespace Go.Proofs.Ytkpchamgghhihaa
open Go.RowKit Gm

/-- the slice with address A and capacity c reads as the limbs xs -/
structure Lim (w : World) (A : Option Addr) (c : Nat) (xs : List Nat) : Prop where
  lb : Lb xs
  cap : xs.length ≤ c
  max : c ≤ 9223372036854775807
  cells : 0 < xs.length → ∃ b off, A = some ⟨b, off, none⟩ ∧ b < w.heap.size ∧ ∀ k, k < xs.length → w.cell? ⟨b, off + k, none⟩ = some (.int .u32 ((xs[k]?.getD 0 : Nat) : Int))

/-- it does, and it lies in blocks from lo on, which may be written -/
structure Own (lo : Nat) (w : World) (A : Option Addr) (c : Nat) (xs : List Nat) : Prop where
  lb : Lb xs
  cap : xs.length ≤ c
  max : c ≤ 9223372036854775807
  cells : 0 < xs.length → ∃ b off, A = some ⟨b, off, none⟩ ∧ lo ≤ b ∧ b < w.heap.size ∧ ∀ k, k < xs.length → w.cell? ⟨b, off + k, none⟩ = some (.int .u32 ((xs[k]?.getD 0 : Nat) : Int)) ∧ w.frozen? ⟨b, off + k, none⟩ = false

section
variable {lo lo' : Nat} {w w' : World} {A : Option Addr} {c : Nat} {xs : List Nat}
theorem Own.lim (h : Own lo w A c xs) : Lim w A c xs :=
  ⟨h.lb, h.cap, h.max, fun h0 => by obtain ⟨b, off, e, _, hb, hc⟩ := h.cells h0; exact ⟨b, off, e, hb, fun k hk => (hc k hk).1⟩⟩
theorem Lim.nil (w : World) (A : Option Addr) : Lim w A 0 [] := ⟨Lb_nil, Nat.le_refl _, by omega, fun h => absurd h (by simp)⟩
theorem Own.nil (lo : Nat) (w : World) (A : Option Addr) : Own lo w A 0 [] := ⟨Lb_nil, Nat.le_refl _, by omega, fun h => absurd h (by simp)⟩
theorem Lim.at_ (h : Lim w A c xs) (h0 : 0 < xs.length) :
    ∃ b off, A = some ⟨b, off, none⟩ ∧ b < w.heap.size ∧ ∀ k, k < xs.length → w.cell? ⟨b, off + k, none⟩ = some (.int .u32 ((xs[k]?.getD 0 : Nat) : Int)) := h.cells h0
theorem Lim.below (h : Lim w A c xs) (hb : Below w.heap.size w w') : Lim w' A c xs :=
  ⟨h.lb, h.cap, h.max, fun h0 => by
    obtain ⟨b, off, e, hlt, hc⟩ := h.cells h0
    exact ⟨b, off, e, Nat.lt_of_lt_of_le hlt hb.size, fun k hk => (hb.cell (p := ⟨b, off + k, none⟩) hlt).trans (hc k hk)⟩⟩
theorem Own.below (h : Own lo w A c xs) (hb : Below w.heap.size w w') : Own lo w' A c xs :=
  ⟨h.lb, h.cap, h.max, fun h0 => by
    obtain ⟨b, off, e, hl, hlt, hc⟩ := h.cells h0
    exact ⟨b, off, e, hl, Nat.lt_of_lt_of_le hlt hb.size, fun k hk => ⟨(hb.cell (p := ⟨b, off + k, none⟩) hlt).trans (hc k hk).1, (hb.frozen (p := ⟨b, off + k, none⟩) hlt).trans (hc k hk).2⟩⟩⟩
theorem Lim.drewN (h : Lim w A c xs) (n : Nat) : Lim (w.drewN n) A c xs := ⟨h.lb, h.cap, h.max, h.cells⟩
theorem Own.drewN (h : Own lo w A c xs) (n : Nat) : Own lo (w.drewN n) A c xs := ⟨h.lb, h.cap, h.max, h.cells⟩
theorem Own.mono (h : Own lo w A c xs) (hl : lo' ≤ lo) : Own lo' w A c xs :=
  ⟨h.lb, h.cap, h.max, fun h0 => by
    obtain ⟨b, off, e, h1, hlt, hc⟩ := h.cells h0
    exact ⟨b, off, e, Nat.le_trans hl h1, hlt, hc⟩⟩
theorem Lim.take (h : Lim w A c xs) (n : Nat) : Lim w A c (xs.take n) := by
  have hl : (xs.take n).length ≤ xs.length := by simp; omega
  refine ⟨h.lb.take n, Nat.le_trans hl h.cap, h.max, fun h0 => ?_⟩
  obtain ⟨b, off, e, hlt, hc⟩ := h.cells (by omega)
  refine ⟨b, off, e, hlt, fun k hk => ?_⟩
  have hk' : k < n := by simp at hk; omega
  rw [hc k (by omega), List.getElem?_take_of_lt hk']
theorem Own.take (h : Own lo w A c xs) (n : Nat) : Own lo w A c (xs.take n) := by
  have hl : (xs.take n).length ≤ xs.length := by simp; omega
  refine ⟨h.lb.take n, Nat.le_trans hl h.cap, h.max, fun h0 => ?_⟩
  obtain ⟨b, off, e, hlo, hlt, hc⟩ := h.cells (by omega)
  refine ⟨b, off, e, hlo, hlt, fun k hk => ?_⟩
  have hk' : k < n := by simp at hk; omega
  rw [List.getElem?_take_of_lt hk']
  exact hc k (by omega)
theorem Lim.cut (h : Lim w A c xs) : Lim w A c (limbs (val xs)) := by
  rw [← take_limbs h.lb]; exact h.take _
theorem Own.cut (h : Own lo w A c xs) : Own lo w A c (limbs (val xs)) := by
  rw [← take_limbs h.lb]; exact h.take _
end

/-- what a function that computes a natural number returns: the canonical list, in new memory -/
def RetNat (w : World) (n : Nat) (e : Ending) (w' : World) : Prop :=
  ∃ A c, e = .returned (.slice A (limbs n).length c) ∧ Own w.heap.size w' A c (limbs n) ∧ Below w.heap.size w w'

/-- limbs as cells -/
def cellsOf (zs : List Nat) : Array Value := (zs.map fun x => Value.int .u32 ((x : Nat) : Int)).toArray
/-- n zero limbs -/
def zeros (n : Nat) : List Nat := List.replicate n 0
theorem zeros_length (n : Nat) : (zeros n).length = n := by simp [zeros]
theorem zeros_get (n k : Nat) : (zeros n)[k]?.getD 0 = 0 := by
  unfold zeros
  rcases Nat.lt_or_ge k n with h | h
  · rw [List.getElem?_replicate_of_lt h]; rfl
  · rw [List.getElem?_eq_none (by simpa using h)]; rfl
theorem zeros_lb (n : Nat) : Lb (zeros n) := Lb_replicate n
theorem zeros_val (n : Nat) : val (zeros n) = 0 := val_replicate n
theorem cellsOf_set (zs : List Nat) (i v : Nat) : (cellsOf zs).setIfInBounds i (.int .u32 ((v : Nat) : Int)) = cellsOf (zs.set i v) := by
  simp [cellsOf, List.map_set]
theorem cellsOf_get {zs : List Nat} {i : Nat} (h : i < zs.length) : (cellsOf zs)[i]? = some (.int .u32 ((zs[i]?.getD 0 : Nat) : Int)) := by
  simp [cellsOf, List.getElem?_eq_getElem h]

/-- block g is just these limbs -/
def Row (w : World) (g : Nat) (zs : List Nat) : Prop := w.heap[g]? = some (.cells (cellsOf zs) 24 (0, 0))
section
variable {w w' : World} {g : Nat} {zs : List Nat}
theorem Row.lt (h : Row w g zs) : g < w.heap.size := by
  rcases Nat.lt_or_ge g w.heap.size with hlt | hge
  · exact hlt
  · unfold Row at h; rw [Array.getElem?_eq_none hge] at h; cases h
theorem Row.cell (h : Row w g zs) {i : Nat} (hi : i < zs.length) : w.cell? ⟨g, i, none⟩ = some (.int .u32 ((zs[i]?.getD 0 : Nat) : Int)) := by
  rw [cell_of_row w g i _ _ (0, 0) h]; exact cellsOf_get hi
theorem Row.frozen (h : Row w g zs) (i : Nat) : w.frozen? ⟨g, i, none⟩ = false := by
  unfold Row at h; simp [World.frozen?, h]
theorem Row.new (w : World) (zs : List Nat) : Row (w.alloc (.cells (cellsOf zs) 24)) w.heap.size zs := heap_alloc_new w _
theorem Row.drewN (h : Row w g zs) (n : Nat) : Row (w.drewN n) g zs := h
theorem Row.alloc (h : Row w g zs) (o : Obj) : Row (w.alloc o) g zs := (Below.heap_alloc w o g h.lt).trans h
theorem Row.set (h : Row w g zs) (i v : Nat) : Row (w.setCell ⟨g, i, none⟩ (.int .u32 ((v : Nat) : Int))) g (zs.set i v) := by
  unfold Row at h ⊢
  rw [← cellsOf_set]
  simp [World.setCell, Array.getElem?_modify, h]
theorem Row.put (h : Row w g zs) (i : Nat) {z : Int} (v : Nat) (hz : z = (v : Int)) : Row (w.setCell ⟨g, i, none⟩ (.int .u32 z)) g (zs.set i v) := by
  subst hz; exact h.set i v
theorem Row.far (h : Row w g zs) {p : Addr} (hp : g ≠ p.block) (u : Value) : Row (w.setCell p u) g zs := (Below.heap_setCell w p u g hp).trans h
theorem Row.below {B : Nat} (h : Row w g zs) (hb : Below B w w') (hg : g < B) : Row w' g zs := (hb.block g hg).trans h
theorem Row.own (h : Row w g zs) (hz : Lb zs) {lo : Nat} (hl : lo ≤ g) (hm : zs.length ≤ 9223372036854775807) : Own lo w (some ⟨g, 0, none⟩) zs.length zs :=
  ⟨hz, Nat.le_refl _, hm, fun _ => ⟨g, 0, rfl, hl, h.lt, fun k hk => by rw [Nat.zero_add]; exact ⟨h.cell hk, h.frozen k⟩⟩⟩
end

theorem info_u32 : (Try.prog.info? 24).map (fun i => (i.zero, i.size, i.bytes)) = some (some (.int .u32 0), 1, 4) := by kernel_rfl

/-- make([]uint32, n) -/
theorem mk_run (z : Int) (n : Nat) (hz : z = (n : Int)) (hn : n ≤ 70368744177664) (u : World) :
    (Instr.makeSlice 22 (.int .i64 z) (.int .i64 z)).run Try.prog u = .ok (.slice (some ⟨u.heap.size, 0, none⟩) n n) (u.alloc (.cells (cellsOf (zeros n)) 24)) := by
  obtain ⟨i0, hi, hz0, hz1, hz2⟩ := info_parts info_u32
  subst hz
  have h := run_make (P := Try.prog) u 22 24 i0 (.int .u32 0) Try.underlying22 hi hz0 .i64 .i64 (n : Int) (n : Int) (by omega) (Int.le_refl _) (by rw [hz2]; omega) (by omega)
  simp only [Int.toNat_natCast] at h
  have e : madeCells (Value.int IntKind.u32 0).cells (n * i0.size) = cellsOf (zeros n) := by
    rw [hz1]
    simp only [madeCells, cellsOf, zeros, Value.cells]
    apply Array.ext
    · simp
    · intro i h1 h2
      simp [Nat.mod_one]
  rw [e] at h
  exact h

theorem bcell {W w1 : World} (hb : Below W.heap.size W w1) : (∀ b o, b < W.heap.size → w1.cell? ⟨b, o, none⟩ = W.cell? ⟨b, o, none⟩) ∧ (∀ b o, b < W.heap.size → w1.frozen? ⟨b, o, none⟩ = W.frozen? ⟨b, o, none⟩) :=
  ⟨fun b o h => hb.cell (p := ⟨b, o, none⟩) h, fun b o h => hb.frozen (p := ⟨b, o, none⟩) h⟩

/-- a negative difference in 64 bits: its low limb and its sign -/
theorem wrap_low (z : Int) (h1 : -4294967296 ≤ z) (h2 : z < 0) : IntKind.u64.wrap z % 4294967296 = z + 4294967296 := by
  rw [IntKind.wrap_u64]; omega
theorem wrap_sign (z : Int) (h1 : -4294967296 ≤ z) (h2 : z < 0) : IntKind.u64.wrap z / 9223372036854775808 = 1 := by
  rw [IntKind.wrap_u64]; omega
theorem wrap_sub (a y : Int) : IntKind.u64.wrap (IntKind.u64.wrap a - y) = IntKind.u64.wrap (a - y) := by
  rw [IntKind.wrap_u64, IntKind.wrap_u64, IntKind.wrap_u64]; omega

/-- a low and a high limb joined -/
theorem or_hi (v x : Nat) (hv : v < 4294967296) (hx : x < 4294967296) : bits .or .u64 (v : Int) ((x : Int) * 4294967296) = ((v + 4294967296 * x : Nat) : Int) := by
  have e : (x : Int) * 4294967296 = ((x * 4294967296 : Nat) : Int) := by omega
  rw [e, u64_or_nat _ _ (by omega) (by omega), Nat.or_comm, nat_join32 _ _ (by omega) hv]
  omega
theorem or_hi' (v x : Nat) (hv : v < 4294967296) (hx : x < 4294967296) : bits .or .u64 ((x : Int) * 4294967296) (v : Int) = ((v + 4294967296 * x : Nat) : Int) := by
  have e : (x : Int) * 4294967296 = ((x * 4294967296 : Nat) : Int) := by omega
  rw [e, u64_or_nat _ _ (by omega) (by omega), nat_join32 _ _ (by omega) hv]
  omega
theorem or_zero (x : Nat) (hx : x < 4294967296) : bits .or .u64 0 (x : Int) = (x : Int) := by
  have := u64_or_nat 0 x (by omega) (by omega)
  simpa using this

theorem size_u32 : (Try.prog.info? 24).map (·.size) = some 1 := by kernel_rfl
theorem cells_of_row {w : World} {A : Option Addr} {c : Nat} {xs : List Nat} (h : Lim w A c xs) (h0 : 0 < xs.length) :
    ∃ ad, A = some ad ∧ ∀ j v, (xs.map fun x => Value.int .u32 ((x : Nat) : Int))[j]? = some v → w.cell? (ad.add j) = some v := by
  obtain ⟨b, off, rfl, _, hc⟩ := h.at_ h0
  refine ⟨_, rfl, fun j v hj => ?_⟩
  have hl : j < xs.length := by
    have := (List.getElem?_eq_some_iff.1 hj).1
    simpa using this
  have hv : v = .int .u32 ((xs[j]?.getD 0 : Nat) : Int) := by
    rw [List.getElem?_map, List.getElem?_eq_getElem hl] at hj
    simp at hj
    rw [← hj, List.getElem?_eq_getElem hl]; rfl
  have he : (Addr.mk b off none).add j = ⟨b, off + j, none⟩ := by
    unfold Addr.add
    split
    · next h0 => rw [h0]; rfl
    · rfl
  rw [he, hv]
  exact hc j hl

/-- copy into a row of the call's own -/
theorem copy_run {w1 : World} {B g off dLen dCap c : Nat} {A : Option Addr} {zs xs : List Nat} {w0 : World} (hr : Row w1 g zs) (hx : Lim w1 A c xs) (hd : xs.length ≤ dLen) (hfit : off + xs.length ≤ zs.length) (hb : Below B w0 w1) (hg : B ≤ g) :
    ∃ w2, (Builtin.copy_ #[22, 22] 3 #[.slice (some ⟨g, off, none⟩) dLen dCap, .slice A xs.length c]).run Try.prog w1 = .ok (goInt xs.length) w2 ∧ Row w2 g (zs.take off ++ (xs ++ zs.drop (off + xs.length))) ∧ Below B w0 w2 := by
  have hmin : Nat.min xs.length dLen = xs.length := Nat.min_eq_left hd
  rcases Nat.eq_zero_or_pos xs.length with h0 | h0
  · obtain rfl : xs = [] := List.eq_nil_of_length_eq_zero h0
    have h := run_copy_none (P := Try.prog) w1 22 22 3 24 (some ⟨g, off, none⟩) A dLen dCap 0 c Try.underlying22 size_u32 (by simp)
    refine ⟨w1, h, ?_, hb⟩
    simpa using hr
  · obtain ⟨ad, rfl, hsrc⟩ := cells_of_row hx h0
    have h := run_copy_row (P := Try.prog) w1 22 22 3 24 g off dLen dCap ad xs.length c (cellsOf zs) 24 (xs.map fun x => Value.int .u32 ((x : Nat) : Int)) Try.underlying22 size_u32 hr
      (by simp [hmin]) hsrc (by simp [cellsOf]; omega) (by intro v hv; obtain ⟨x, _, rfl⟩ := List.mem_map.1 hv; rfl)
    rw [List.length_map] at h
    refine ⟨_, h, ?_, below_setRow hb hg _⟩
    have e : (cellsOf zs).toList.take off ++ (xs.map (fun x => Value.int .u32 ((x : Nat) : Int)) ++ (cellsOf zs).toList.drop (off + xs.length)) = (zs.take off ++ (xs ++ zs.drop (off + xs.length))).map fun x => Value.int .u32 ((x : Nat) : Int) := by
      simp [cellsOf, List.map_take, List.map_drop]
    rw [List.append_assoc, e]
    exact setRow_heap w1 g _ _ 24 _ hr

end Go.Proofs.Ytkpchamgghhihaa
