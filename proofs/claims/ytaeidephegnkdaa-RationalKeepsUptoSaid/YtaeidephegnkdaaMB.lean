/- Mem NatA NatB NatC NatD NatE NatF NatG NatH in one text. -/
import Derived.Test.YtaeidephegnkdaaArith
import Derived.Test.YtaeidephegnkdaaProg
import Derived.WalkKit
import Derived.WalkSpells
import Derived.WalkLawsBesides
import Derived.Deep.QuietTactic
import Derived.BigQuiet
import Derived.Lib.Hide
import Derived.Laws.CopyOwn
import Derived.Laws.CopyRow
import Derived.Deep.RegionHeld3
import Derived.Deep.RegionWith
namespace Go.Proofs.Ytaeidephegnkdaa
open Go.RowKit Gm
/- Words for memory: a slice of 32-bit limbs that reads as a list of numbers; one that lies in new memory. -/

/-- the slice with address A and capacity c reads as the limbs xs -/
structure Lim (w : World) (A : Option Addr) (c : Nat) (xs : List Nat) : Prop where
  lb : Lb xs
  cap : xs.length ≤ c
  max : c ≤ 9223372036854775807
  cells : 0 < xs.length → ∃ b off, A = some ⟨b, off, none⟩ ∧ b < w.heap.size ∧ ∀ k, k < xs.length → w.cell? ⟨b, off + k, none⟩ = some (.int .u32 ((xs[k]?.getD 0 : Nat) : Int))

/-- it does, and it lies in blocks from lo on, which may be written -/
structure Own (lo : Nat) (w : World) (A : Option Addr) (c : Nat) (xs : List Nat) : Prop where
  lb : Lb xs
  cap : xs.length ≤ c
  max : c ≤ 9223372036854775807
  cells : 0 < xs.length → ∃ b off, A = some ⟨b, off, none⟩ ∧ lo ≤ b ∧ b < w.heap.size ∧ ∀ k, k < xs.length → w.cell? ⟨b, off + k, none⟩ = some (.int .u32 ((xs[k]?.getD 0 : Nat) : Int)) ∧ w.frozen? ⟨b, off + k, none⟩ = false

section
variable {lo lo' : Nat} {w w' : World} {A : Option Addr} {c : Nat} {xs : List Nat}
theorem Own.lim (h : Own lo w A c xs) : Lim w A c xs :=
  ⟨h.lb, h.cap, h.max, fun h0 => by obtain ⟨b, off, e, _, hb, hc⟩ := h.cells h0; exact ⟨b, off, e, hb, fun k hk => (hc k hk).1⟩⟩
theorem Lim.nil (w : World) (A : Option Addr) : Lim w A 0 [] := ⟨Lb_nil, Nat.le_refl _, by omega, fun h => absurd h (by simp)⟩
theorem Own.nil (lo : Nat) (w : World) (A : Option Addr) : Own lo w A 0 [] := ⟨Lb_nil, Nat.le_refl _, by omega, fun h => absurd h (by simp)⟩
theorem Lim.at_ (h : Lim w A c xs) (h0 : 0 < xs.length) :
    ∃ b off, A = some ⟨b, off, none⟩ ∧ b < w.heap.size ∧ ∀ k, k < xs.length → w.cell? ⟨b, off + k, none⟩ = some (.int .u32 ((xs[k]?.getD 0 : Nat) : Int)) := h.cells h0
theorem Lim.below (h : Lim w A c xs) (hb : Below w.heap.size w w') : Lim w' A c xs :=
  ⟨h.lb, h.cap, h.max, fun h0 => by
    obtain ⟨b, off, e, hlt, hc⟩ := h.cells h0
    exact ⟨b, off, e, Nat.lt_of_lt_of_le hlt hb.size, fun k hk => (hb.cell (p := ⟨b, off + k, none⟩) hlt).trans (hc k hk)⟩⟩
theorem Own.below (h : Own lo w A c xs) (hb : Below w.heap.size w w') : Own lo w' A c xs :=
  ⟨h.lb, h.cap, h.max, fun h0 => by
    obtain ⟨b, off, e, hl, hlt, hc⟩ := h.cells h0
    exact ⟨b, off, e, hl, Nat.lt_of_lt_of_le hlt hb.size, fun k hk => ⟨(hb.cell (p := ⟨b, off + k, none⟩) hlt).trans (hc k hk).1, (hb.frozen (p := ⟨b, off + k, none⟩) hlt).trans (hc k hk).2⟩⟩⟩
theorem Lim.drewN (h : Lim w A c xs) (n : Nat) : Lim (w.drewN n) A c xs := ⟨h.lb, h.cap, h.max, h.cells⟩
theorem Own.drewN (h : Own lo w A c xs) (n : Nat) : Own lo (w.drewN n) A c xs := ⟨h.lb, h.cap, h.max, h.cells⟩
theorem Own.mono (h : Own lo w A c xs) (hl : lo' ≤ lo) : Own lo' w A c xs :=
  ⟨h.lb, h.cap, h.max, fun h0 => by
    obtain ⟨b, off, e, h1, hlt, hc⟩ := h.cells h0
    exact ⟨b, off, e, Nat.le_trans hl h1, hlt, hc⟩⟩
theorem Lim.take (h : Lim w A c xs) (n : Nat) : Lim w A c (xs.take n) := by
  have hl : (xs.take n).length ≤ xs.length := by simp; omega
  refine ⟨h.lb.take n, Nat.le_trans hl h.cap, h.max, fun h0 => ?_⟩
  obtain ⟨b, off, e, hlt, hc⟩ := h.cells (by omega)
  refine ⟨b, off, e, hlt, fun k hk => ?_⟩
  have hk' : k < n := by simp at hk; omega
  rw [hc k (by omega), List.getElem?_take_of_lt hk']
theorem Own.take (h : Own lo w A c xs) (n : Nat) : Own lo w A c (xs.take n) := by
  have hl : (xs.take n).length ≤ xs.length := by simp; omega
  refine ⟨h.lb.take n, Nat.le_trans hl h.cap, h.max, fun h0 => ?_⟩
  obtain ⟨b, off, e, hlo, hlt, hc⟩ := h.cells (by omega)
  refine ⟨b, off, e, hlo, hlt, fun k hk => ?_⟩
  have hk' : k < n := by simp at hk; omega
  rw [List.getElem?_take_of_lt hk']
  exact hc k (by omega)
theorem Lim.cut (h : Lim w A c xs) : Lim w A c (limbs (val xs)) := by
  rw [← take_limbs h.lb]; exact h.take _
theorem Own.cut (h : Own lo w A c xs) : Own lo w A c (limbs (val xs)) := by
  rw [← take_limbs h.lb]; exact h.take _
end

/-- what a function that computes a natural number returns: the canonical list, in new memory -/
def RetNat (w : World) (n : Nat) (e : Ending) (w' : World) : Prop :=
  ∃ A c, e = .returned (.slice A (limbs n).length c) ∧ Own w.heap.size w' A c (limbs n) ∧ Below w.heap.size w w'

/-- limbs as cells -/
def cellsOf (zs : List Nat) : Array Value := (zs.map fun x => Value.int .u32 ((x : Nat) : Int)).toArray
/-- n zero limbs -/
def zeros (n : Nat) : List Nat := List.replicate n 0
theorem zeros_length (n : Nat) : (zeros n).length = n := by simp [zeros]
theorem zeros_get (n k : Nat) : (zeros n)[k]?.getD 0 = 0 := by
  unfold zeros
  rcases Nat.lt_or_ge k n with h | h
  · rw [List.getElem?_replicate_of_lt h]; rfl
  · rw [List.getElem?_eq_none (by simpa using h)]; rfl
theorem zeros_lb (n : Nat) : Lb (zeros n) := Lb_replicate n
theorem zeros_val (n : Nat) : val (zeros n) = 0 := val_replicate n
theorem cellsOf_set (zs : List Nat) (i v : Nat) : (cellsOf zs).setIfInBounds i (.int .u32 ((v : Nat) : Int)) = cellsOf (zs.set i v) := by
  simp [cellsOf, List.map_set]
theorem cellsOf_get {zs : List Nat} {i : Nat} (h : i < zs.length) : (cellsOf zs)[i]? = some (.int .u32 ((zs[i]?.getD 0 : Nat) : Int)) := by
  simp [cellsOf, List.getElem?_eq_getElem h]

/-- block g is just these limbs -/
def Row (w : World) (g : Nat) (zs : List Nat) : Prop := w.heap[g]? = some (.cells (cellsOf zs) 40 (0, 0))
section
variable {w w' : World} {g : Nat} {zs : List Nat}
theorem Row.lt (h : Row w g zs) : g < w.heap.size := by
  rcases Nat.lt_or_ge g w.heap.size with hlt | hge
  · exact hlt
  · unfold Row at h; rw [Array.getElem?_eq_none hge] at h; cases h
theorem Row.cell (h : Row w g zs) {i : Nat} (hi : i < zs.length) : w.cell? ⟨g, i, none⟩ = some (.int .u32 ((zs[i]?.getD 0 : Nat) : Int)) := by
  rw [cell_of_row w g i _ _ (0, 0) h]; exact cellsOf_get hi
theorem Row.frozen (h : Row w g zs) (i : Nat) : w.frozen? ⟨g, i, none⟩ = false := by
  unfold Row at h; simp [World.frozen?, h]
theorem Row.new (w : World) (zs : List Nat) : Row (w.alloc (.cells (cellsOf zs) 40)) w.heap.size zs := heap_alloc_new w _
theorem Row.drewN (h : Row w g zs) (n : Nat) : Row (w.drewN n) g zs := h
theorem Row.alloc (h : Row w g zs) (o : Obj) : Row (w.alloc o) g zs := (Below.heap_alloc w o g h.lt).trans h
theorem Row.set (h : Row w g zs) (i v : Nat) : Row (w.setCell ⟨g, i, none⟩ (.int .u32 ((v : Nat) : Int))) g (zs.set i v) := by
  unfold Row at h ⊢
  rw [← cellsOf_set]
  simp [World.setCell, Array.getElem?_modify, h]
theorem Row.put (h : Row w g zs) (i : Nat) {z : Int} (v : Nat) (hz : z = (v : Int)) : Row (w.setCell ⟨g, i, none⟩ (.int .u32 z)) g (zs.set i v) := by
  subst hz; exact h.set i v
theorem Row.far (h : Row w g zs) {p : Addr} (hp : g ≠ p.block) (u : Value) : Row (w.setCell p u) g zs := (Below.heap_setCell w p u g hp).trans h
theorem Row.below {B : Nat} (h : Row w g zs) (hb : Below B w w') (hg : g < B) : Row w' g zs := (hb.block g hg).trans h
theorem Row.own (h : Row w g zs) (hz : Lb zs) {lo : Nat} (hl : lo ≤ g) (hm : zs.length ≤ 9223372036854775807) : Own lo w (some ⟨g, 0, none⟩) zs.length zs :=
  ⟨hz, Nat.le_refl _, hm, fun _ => ⟨g, 0, rfl, hl, h.lt, fun k hk => by rw [Nat.zero_add]; exact ⟨h.cell hk, h.frozen k⟩⟩⟩
end

theorem info_u32 : (Try.prog.info? 40).map (fun i => (i.zero, i.size, i.bytes)) = some (some (.int .u32 0), 1, 4) := by kernel_rfl

/-- make([]uint32, n) -/
theorem mk_run (z : Int) (n : Nat) (hz : z = (n : Int)) (hn : n ≤ 70368744177664) (u : World) :
    (Instr.makeSlice 22 (.int .i64 z) (.int .i64 z)).run Try.prog u = .ok (.slice (some ⟨u.heap.size, 0, none⟩) n n) (u.alloc (.cells (cellsOf (zeros n)) 40)) := by
  obtain ⟨i0, hi, hz0, hz1, hz2⟩ := info_parts info_u32
  subst hz
  have h := run_make (P := Try.prog) u 22 40 i0 (.int .u32 0) Try.underlying22 hi hz0 .i64 .i64 (n : Int) (n : Int) (by omega) (Int.le_refl _) (by rw [hz2]; omega) (by omega)
  simp only [Int.toNat_natCast] at h
  have e : madeCells (Value.int IntKind.u32 0).cells (n * i0.size) = cellsOf (zeros n) := by
    rw [hz1]
    simp only [madeCells, cellsOf, zeros, Value.cells]
    apply Array.ext
    · simp
    · intro i h1 h2
      simp [Nat.mod_one]
  rw [e] at h
  exact h

theorem bcell {W w1 : World} (hb : Below W.heap.size W w1) : (∀ b o, b < W.heap.size → w1.cell? ⟨b, o, none⟩ = W.cell? ⟨b, o, none⟩) ∧ (∀ b o, b < W.heap.size → w1.frozen? ⟨b, o, none⟩ = W.frozen? ⟨b, o, none⟩) :=
  ⟨fun b o h => hb.cell (p := ⟨b, o, none⟩) h, fun b o h => hb.frozen (p := ⟨b, o, none⟩) h⟩

/-- a negative difference in 64 bits: its low limb and its sign -/
theorem wrap_low (z : Int) (h1 : -4294967296 ≤ z) (h2 : z < 0) : IntKind.u64.wrap z % 4294967296 = z + 4294967296 := by
  rw [IntKind.wrap_u64]; omega
theorem wrap_sign (z : Int) (h1 : -4294967296 ≤ z) (h2 : z < 0) : IntKind.u64.wrap z / 9223372036854775808 = 1 := by
  rw [IntKind.wrap_u64]; omega
theorem wrap_sub (a y : Int) : IntKind.u64.wrap (IntKind.u64.wrap a - y) = IntKind.u64.wrap (a - y) := by
  rw [IntKind.wrap_u64, IntKind.wrap_u64, IntKind.wrap_u64]; omega

/-- a low and a high limb joined -/
theorem or_hi (v x : Nat) (hv : v < 4294967296) (hx : x < 4294967296) : bits .or .u64 (v : Int) ((x : Int) * 4294967296) = ((v + 4294967296 * x : Nat) : Int) := by
  have e : (x : Int) * 4294967296 = ((x * 4294967296 : Nat) : Int) := by omega
  rw [e, u64_or_nat _ _ (by omega) (by omega), Nat.or_comm, nat_join32 _ _ (by omega) hv]
  omega
theorem or_hi' (v x : Nat) (hv : v < 4294967296) (hx : x < 4294967296) : bits .or .u64 ((x : Int) * 4294967296) (v : Int) = ((v + 4294967296 * x : Nat) : Int) := by
  have e : (x : Int) * 4294967296 = ((x * 4294967296 : Nat) : Int) := by omega
  rw [e, u64_or_nat _ _ (by omega) (by omega), nat_join32 _ _ (by omega) hv]
  omega
theorem or_zero (x : Nat) (hx : x < 4294967296) : bits .or .u64 0 (x : Int) = (x : Int) := by
  have := u64_or_nat 0 x (by omega) (by omega)
  simpa using this

theorem size_u32 : (Try.prog.info? 40).map (·.size) = some 1 := by kernel_rfl
theorem cells_of_row {w : World} {A : Option Addr} {c : Nat} {xs : List Nat} (h : Lim w A c xs) (h0 : 0 < xs.length) :
    ∃ ad, A = some ad ∧ ∀ j v, (xs.map fun x => Value.int .u32 ((x : Nat) : Int))[j]? = some v → w.cell? (ad.add j) = some v := by
  obtain ⟨b, off, rfl, _, hc⟩ := h.at_ h0
  refine ⟨_, rfl, fun j v hj => ?_⟩
  have hl : j < xs.length := by
    have := (List.getElem?_eq_some_iff.1 hj).1
    simpa using this
  have hv : v = .int .u32 ((xs[j]?.getD 0 : Nat) : Int) := by
    rw [List.getElem?_map, List.getElem?_eq_getElem hl] at hj
    simp at hj
    rw [← hj, List.getElem?_eq_getElem hl]; rfl
  have he : (Addr.mk b off none).add j = ⟨b, off + j, none⟩ := by
    unfold Addr.add
    split
    · next h0 => rw [h0]; rfl
    · rfl
  rw [he, hv]
  exact hc j hl

/-- copy into a row of the call's own -/
theorem copy_run {w1 : World} {B g off dLen dCap c : Nat} {A : Option Addr} {zs xs : List Nat} {w0 : World} (hr : Row w1 g zs) (hx : Lim w1 A c xs) (hd : xs.length ≤ dLen) (hfit : off + xs.length ≤ zs.length) (hb : Below B w0 w1) (hg : B ≤ g) :
    ∃ w2, (Builtin.copy_ #[22, 22] 3 #[.slice (some ⟨g, off, none⟩) dLen dCap, .slice A xs.length c]).run Try.prog w1 = .ok (goInt xs.length) w2 ∧ Row w2 g (zs.take off ++ (xs ++ zs.drop (off + xs.length))) ∧ Below B w0 w2 := by
  have hmin : Nat.min xs.length dLen = xs.length := Nat.min_eq_left hd
  rcases Nat.eq_zero_or_pos xs.length with h0 | h0
  · obtain rfl : xs = [] := List.eq_nil_of_length_eq_zero h0
    have h := run_copy_none (P := Try.prog) w1 22 22 3 40 (some ⟨g, off, none⟩) A dLen dCap 0 c Try.underlying22 size_u32 (by simp)
    refine ⟨w1, h, ?_, hb⟩
    simpa using hr
  · obtain ⟨ad, rfl, hsrc⟩ := cells_of_row hx h0
    have h := run_copy_row (P := Try.prog) w1 22 22 3 40 g off dLen dCap ad xs.length c (cellsOf zs) 40 (xs.map fun x => Value.int .u32 ((x : Nat) : Int)) Try.underlying22 size_u32 hr
      (by simp [hmin]) hsrc (by simp [cellsOf]; omega) (by intro v hv; obtain ⟨x, _, rfl⟩ := List.mem_map.1 hv; rfl)
    rw [List.length_map] at h
    refine ⟨_, h, ?_, below_setRow hb hg _⟩
    have e : (cellsOf zs).toList.take off ++ (xs.map (fun x => Value.int .u32 ((x : Nat) : Int)) ++ (cellsOf zs).toList.drop (off + xs.length)) = (zs.take off ++ (xs ++ zs.drop (off + xs.length))).map fun x => Value.int .u32 ((x : Nat) : Int) := by
      simp [cellsOf, List.map_take, List.map_drop]
    rw [List.append_assoc, e]
    exact setRow_heap w1 g _ _ 40 _ hr


/- Contracts of package natural: cutting of zero limbs, comparison. -/

set_option maxHeartbeats 400000 in
theorem cut_c (A : Option Addr) (xs : List Nat) (c : Nat) (w : World) (h : Lim w A c xs) :
    Calls Try.prog 97 #[.slice A xs.length c] w fun e w' => e = .returned (.slice A (limbs (val xs)).length c) ∧ w = w' := by
  have hc := h.cap
  have hm := h.max
  go_enter Try.func97, Try.ntmps97
  go_wp2
  go_loop [3] (fun t => ∃ n : Nat, n ≤ xs.length ∧ t = .int .i64 n ∧ val (xs.drop n) = 0) (fun t => (intOf t).toNat)
  case atStart => exact ⟨xs.length, Nat.le_refl _, rfl, by simp [val]⟩
  case round =>
    obtain ⟨n, hn, rfl, hv⟩ := hrel
    have HV := Lib.hid hv
    clear hv
    rcases Nat.eq_zero_or_pos n with rfl | hp
    · have hl : (limbs (val xs)).length = 0 := by rw [← take_canon h.lb hn HV.out (.inl rfl)]; simp
      have HL := Lib.hid hl
      clear hl
      go_wp2
      go_ret
      exact ⟨by rw [HL.out]; rfl, rfl⟩
    · obtain ⟨m, rfl⟩ : ∃ m, n = m + 1 := ⟨n - 1, by omega⟩
      have hLb := h.lb
      obtain ⟨b, off, rfl, hb, hcell⟩ := h.at_ (by omega)
      have hx := hcell m (by omega)
      clear hcell h
      obtain ⟨x, ex⟩ : ∃ x, xs[m]?.getD 0 = x := ⟨_, rfl⟩
      rw [ex] at hx
      have EX := Lib.hid ex
      clear ex
      by_cases h0 : x = 0
      · subst h0
        go_wp2
        go_round
        case rel => exact ⟨m, by omega, by go_num, val_drop_step (by omega) HV.out EX.out⟩
        case measure => simp [intOf]
      · have hb0 : ((x : Int) == 0) = false := by simp; omega
        have hl : (limbs (val xs)).length = m + 1 := by
          rw [← take_canon hLb hn HV.out (.inr (by simp only [Nat.add_sub_cancel]; rw [EX.out]; exact h0))]; simp; omega
        have HL := Lib.hid hl
        clear hl
        go_wp2
        go_ret

        exact ⟨by rw [HL.out]; rfl, rfl⟩
/-- cutting a row of the call's own gives the canonical list in new memory -/
theorem cut_own {w w1 : World} {g k n : Nat} {rs : List Nat} (hr : Row w1 g rs) (hz : Lb rs) (hg : w.heap.size ≤ g) (hk : rs.length = k) (hm : k ≤ 70368744177664) (hv : val rs = n) (hb : Below w.heap.size w w1) :
    Calls Try.prog 97 #[.slice (some ⟨g, 0, none⟩) k k] w1 (RetNat w n) := by
  subst hk hv
  have hown := hr.own hz hg (by omega)
  refine (cut_c _ _ _ _ hown.lim).mono ?_
  rintro e w' ⟨rfl, rfl⟩
  exact ⟨_, _, rfl, hown.cut, hb⟩

set_option maxHeartbeats 400000 in
theorem Compare_c (A B : Option Addr) (xs ys : List Nat) (c d : Nat) (w : World) (ha : Lim w A c xs) (hb : Lim w B d ys) :
    Calls Try.prog 61 #[.slice A xs.length c, .slice B ys.length d] w fun e w' => e = .returned (.int .i64 (cmpN (val xs) (val ys))) ∧ ∃ n, w' = w.drewN n := by
  have hc := ha.cap
  have hm := ha.max
  have hd := hb.cap
  have hn := hb.max
  go_enter Try.func61, Try.ntmps61
  go_wp2_with fail
  refine (cut_c _ _ _ _ ha).mono ?_
  rintro e w' ⟨rfl, rfl⟩
  go_wp2_with fail
  refine (cut_c _ _ _ _ hb).mono ?_
  rintro e w' ⟨rfl, rfl⟩
  have la := limbs_length_le ha.lb
  have lb := limbs_length_le hb.lb
  replace ha := ha.cut
  replace hb := hb.cut
  have ea := val_limbs (val xs)
  have eb := val_limbs (val ys)
  have EA := Lib.hid ea
  have EB := Lib.hid eb
  clear ea eb
  have HLT := Lib.hid (@limbs_lt_length (val xs) (val ys))
  have HGT := Lib.hid (@limbs_lt_length (val ys) (val xs))
  generalize limbs (val xs) = us at *
  generalize limbs (val ys) = vs at *
  by_cases hne : us.length = vs.length
  · have hb1 : ((us.length : Int) != (vs.length : Int)) = false := by simp [hne]
    have HN := Lib.hid hne
    clear hne
    go_wp2_with fail
    go_loopw [5] (fun t wr => ∃ k : Nat, k ≤ us.length ∧ t = .int .i64 ((k : Int) - 1) ∧ val (us.drop k) = val (vs.drop k) ∧ ∃ n, wr = w.drewN n) (fun t _ => (intOf t + 1).toNat)
    case atStart => exact ⟨us.length, Nat.le_refl _, rfl, by rw [List.drop_length, HN.out, List.drop_length], 0, rfl⟩
    case round =>
      obtain ⟨k, hk, ht, hv, n, rfl⟩ := hrel
      have HV := Lib.hid hv
      clear hv
      rcases Nat.eq_zero_or_pos k with rfl | hp
      · subst ht
        go_wp2
        go_ret
        exact ⟨by rw [cmpN_eq (by rw [← EA.out, ← EB.out]; exact HV.out)]; rfl, n, rfl⟩
      · obtain ⟨m, rfl⟩ : ∃ m, k = m + 1 := ⟨k - 1, by omega⟩
        obtain rfl := ht.trans (show Value.int .i64 (((m + 1 : Nat) : Int) - 1) = .int .i64 (m : Int) by congr 1; omega)
        have e2 := HN.out
        have hm2 : m < vs.length := by omega
        clear e2
        have lba := ha.lb
        have lbb := hb.lb
        obtain ⟨b1, o1, rfl, hb1', hc1⟩ := ha.at_ (by omega)
        obtain ⟨b2, o2, rfl, hb2', hc2⟩ := hb.at_ (by omega)
        have hx := hc1 m (by omega)
        have hy := hc2 m (by omega)
        clear hc1 hc2 ha hb
        obtain ⟨x, ex⟩ : ∃ x, us[m]?.getD 0 = x := ⟨_, rfl⟩
        obtain ⟨y, ey⟩ : ∃ y, vs[m]?.getD 0 = y := ⟨_, rfl⟩
        rw [ex] at hx
        rw [ey] at hy
        have EX := Lib.hid ex
        have EY := Lib.hid ey
        clear ex ey
        have i0 : (0 : Int) ≤ (m : Int) := by omega
        have i1 : (m : Int) < us.length := by omega
        have i2 : (m : Int) < vs.length := by omega
        rcases Nat.lt_trichotomy x y with hl | hl | hl
        · go_wp2
          go_quiet (fail)
          go_wp2
          go_ret
          exact ⟨by rw [cmpN_lt (by rw [← EA.out, ← EB.out]; exact cmp_lt lba (by omega) hm2 HV.out (by rw [EX.out, EY.out]; exact hl))]; rfl, _, World.drewN_drewN _ _ _⟩
        · subst hl
          go_wp2
          go_quiet (fail)
          go_wp2
          go_quiet (fail)
          go_wp2
          go_roundw
          case rel => exact ⟨m, by omega, rfl, drop_eq_step (by omega) hm2 HV.out (by rw [EX.out, EY.out]), _, rfl⟩
          case measure => simp [intOf]
        · go_wp2
          go_quiet (fail)
          go_wp2
          go_quiet (fail)
          go_wp2
          go_ret
          exact ⟨by rw [cmpN_gt (by rw [← EA.out, ← EB.out]; exact cmp_lt lbb hm2 (by omega) HV.out.symm (by rw [EX.out, EY.out]; exact hl))]; rfl, _, by rw [World.drewN_drewN, World.drewN_drewN]⟩
  · rcases Nat.lt_or_gt_of_ne hne with hl | hl
    · have hb1 : ((us.length : Int) != (vs.length : Int)) = true := by simp; omega
      go_wp2_with fail
      go_ret
      exact ⟨by rw [cmpN_lt (HLT.out hl)]; rfl, 0, rfl⟩
    · have hb1 : ((us.length : Int) != (vs.length : Int)) = true := by simp; omega
      have hb2 : ¬ ((us.length : Int) < (vs.length : Int)) := by omega
      go_wp2_with fail
      go_ret
      exact ⟨by rw [cmpN_gt (HGT.out hl)]; rfl, 0, rfl⟩

/- Contracts of package natural: sums. -/

set_option maxHeartbeats 400000 in
theorem Add_ge (A B : Option Addr) (xs ys : List Nat) (c d : Nat) (w : World) (ha : Lim w A c xs) (hb : Lim w B d ys)
    (hs : xs.length < 70368744177664) (hle : (limbs (val ys)).length ≤ (limbs (val xs)).length) :
    Calls Try.prog 98 #[.slice A xs.length c, .slice B ys.length d] w (RetNat w (val xs + val ys)) := by
  have hc := ha.cap
  have hm := ha.max
  have hd := hb.cap
  have hn := hb.max
  go_enter Try.func98, Try.ntmps98
  go_wp2_with fail
  refine (cut_c _ _ _ _ ha).mono ?_
  rintro e w' ⟨rfl, rfl⟩
  go_wp2_with fail
  refine (cut_c _ _ _ _ hb).mono ?_
  rintro e w' ⟨rfl, rfl⟩
  have la := limbs_length_le ha.lb
  have lb := limbs_length_le hb.lb
  replace ha := ha.cut
  replace hb := hb.cut
  have EA := Lib.hid (val_limbs (val xs))
  have EB := Lib.hid (val_limbs (val ys))
  generalize limbs (val xs) = us at *
  generalize limbs (val ys) = vs at *
  have hmk := mk_run (↑us.length + 1) (us.length + 1) (by omega) (by omega)
  go_wp2_with fail
  go_loopw [6, 26] (fun t i wr => ∃ (k q : Nat) (zs : List Nat), k ≤ us.length ∧ i = .int .i64 k ∧ t = .int .u64 q ∧ q ≤ 1 ∧ zs.length = us.length + 1 ∧ Lb zs ∧ Row wr w.heap.size zs ∧ Below w.heap.size w wr ∧ (∀ j, k ≤ j → zs[j]?.getD 0 = 0) ∧ val zs + Ba ^ k * q = val (us.take k) + val (vs.take k)) (fun _ i _ => us.length - (intOf i).toNat)
  case atStart => exact ⟨0, 0, zeros (us.length + 1), Nat.zero_le _, rfl, rfl, by omega, zeros_length _, zeros_lb _, Row.new _ _, (Below.refl _ _).alloc (Nat.le_refl _) _, fun j _ => zeros_get _ _, by simp [zeros_val, val]⟩
  case round =>
    obtain ⟨k, q, zs, hk, rfl, rfl, hq, hl, hz, hrow, hbel, h0, hv⟩ := hrel
    have HV := Lib.hid hv
    have H0 := Lib.hid h0
    have HL := Lib.hid hl
    clear hv h0 hl hmk
    by_cases hlt : k < us.length
    · obtain ⟨b1, o1, rfl, hb1, hc1⟩ := ha.at_ (by omega)
      have hx := (hbel.cell (p := ⟨b1, o1 + k, none⟩) hb1).trans (hc1 k hlt)
      have bx : us[k]?.getD 0 < 4294967296 := ha.lb.get k
      obtain ⟨x, ex⟩ : ∃ x, us[k]?.getD 0 = x := ⟨_, rfl⟩
      rw [ex] at hx bx
      have EX := Lib.hid ex
      have hs1 := hrow.cell (i := k) (by rw [HL.out]; omega)
      have hs2 := hrow.frozen k
      rw [H0.out k (Nat.le_refl _)] at hs1
      clear ex hc1
      by_cases hlb : k < vs.length
      · obtain ⟨b2, o2, rfl, hb2, hc2⟩ := hb.at_ (by omega)
        have hy := (hbel.cell (p := ⟨b2, o2 + k, none⟩) hb2).trans (hc2 k hlb)
        have bY : vs[k]?.getD 0 < 4294967296 := hb.lb.get k
        obtain ⟨y, ey⟩ : ∃ y, vs[k]?.getD 0 = y := ⟨_, rfl⟩
        rw [ey] at hy bY
        have EY := Lib.hid ey
        clear ey hc2
        go_wp2
        have hr := hrow.put k ((q + x + y) % Ba) (z := ((q : Int) + x + y) % 4294967296) (by simp only [Ba_eq]; omega)
        have hstep := add_step (xs := us) (ys := vs) (zs := zs) (i := k) (c := q) (by rw [HL.out]; omega) H0.out HV.out
        rw [EX.out, EY.out] at hstep
        go_roundw
        case rel => exact ⟨k + 1, (q + x + y) / Ba, zs.set k ((q + x + y) % Ba), by omega, by go_num, by simp only [Ba_eq]; go_num, by simp only [Ba_eq]; omega, by rw [List.length_set]; exact HL.out, hz.set _ _ (Nat.mod_lt _ Ba_pos), hr, hbel.setCell (Nat.le_refl _) _, zeros_step H0.out, hstep⟩
        case measure => simp [intOf]; omega
      · have hy0 : vs[k]?.getD 0 = 0 := by rw [List.getElem?_eq_none (by omega)]; rfl
        have EY := Lib.hid hy0
        clear hy0
        have hlb' : ¬ ((k : Int) < vs.length) := by omega
        go_wp2
        have hr := hrow.put k ((q + x + 0) % Ba) (z := ((q : Int) + x) % 4294967296) (by simp only [Ba_eq]; omega)
        have hstep := add_step (xs := us) (ys := vs) (zs := zs) (i := k) (c := q) (by rw [HL.out]; omega) H0.out HV.out
        rw [EX.out, EY.out] at hstep
        go_roundw
        case rel => exact ⟨k + 1, (q + x + 0) / Ba, zs.set k ((q + x + 0) % Ba), by omega, by go_num, by simp only [Ba_eq]; go_num, by simp only [Ba_eq]; omega, by rw [List.length_set]; exact HL.out, hz.set _ _ (Nat.mod_lt _ Ba_pos), hr, hbel.setCell (Nat.le_refl _) _, zeros_step H0.out, hstep⟩
        case measure => simp [intOf]; omega
    · obtain rfl : k = us.length := by omega
      have hs1 := hrow.cell (i := us.length) (by rw [HL.out]; omega)
      have hs2 := hrow.frozen us.length
      rw [H0.out us.length (Nat.le_refl _)] at hs1
      have hr := hrow.put us.length q (z := (q : Int)) rfl
      have e1 := val_set (zs := zs) (k := us.length) q (by rw [HL.out]; omega)
      rw [H0.out us.length (Nat.le_refl _)] at e1
      have hval : val (zs.set us.length q) = val xs + val ys := by
        rw [← EA.out, ← EB.out]
        have := HV.out
        rw [List.take_of_length_le (Nat.le_refl _), List.take_of_length_le (by omega)] at this
        omega
      have hlen : (zs.set us.length q).length = us.length + 1 := by rw [List.length_set]; exact HL.out
      have hzl := hz.set us.length q (by have := Ba_eq; omega)
      have hb2 := hbel.setCell (p := ⟨w.heap.size, us.length, none⟩) (Nat.le_refl _) (.int .u32 (q : Int))
      have HVAL := Lib.hid hval
      have HLEN := Lib.hid hlen
      clear hval hlen e1
      go_wp2_with fail
      refine (cut_own hr hzl (Nat.le_refl _) HLEN.out (by omega) HVAL.out hb2).mono ?_
      rintro e w' ⟨A', c', rfl, r3, r4⟩
      go_wp2
      go_ret
      exact ⟨A', c', rfl, r3, r4⟩
set_option maxHeartbeats 400000 in
theorem Add_lt (A B : Option Addr) (xs ys : List Nat) (c d : Nat) (w : World) (ha : Lim w A c xs) (hb : Lim w B d ys)
    (hs : ys.length < 70368744177664) (hle : (limbs (val xs)).length < (limbs (val ys)).length) :
    Calls Try.prog 98 #[.slice A xs.length c, .slice B ys.length d] w (RetNat w (val ys + val xs)) := by
  have hc := ha.cap
  have hm := ha.max
  have hd := hb.cap
  have hn := hb.max
  go_enter Try.func98, Try.ntmps98
  go_wp2_with fail
  refine (cut_c _ _ _ _ ha).mono ?_
  rintro e w' ⟨rfl, rfl⟩
  go_wp2_with fail
  refine (cut_c _ _ _ _ hb).mono ?_
  rintro e w' ⟨rfl, rfl⟩
  have la := limbs_length_le ha.lb
  have lb := limbs_length_le hb.lb
  replace ha := ha.cut
  replace hb := hb.cut
  have EA := Lib.hid (val_limbs (val xs))
  have EB := Lib.hid (val_limbs (val ys))
  generalize limbs (val xs) = us at *
  generalize limbs (val ys) = vs at *
  have hmk := mk_run (↑vs.length + 1) (vs.length + 1) (by omega) (by omega)
  go_wp2_with fail
  go_loopw [6, 26] (fun t i wr => ∃ (k q : Nat) (zs : List Nat), k ≤ vs.length ∧ i = .int .i64 k ∧ t = .int .u64 q ∧ q ≤ 1 ∧ zs.length = vs.length + 1 ∧ Lb zs ∧ Row wr w.heap.size zs ∧ Below w.heap.size w wr ∧ (∀ j, k ≤ j → zs[j]?.getD 0 = 0) ∧ val zs + Ba ^ k * q = val (vs.take k) + val (us.take k)) (fun _ i _ => vs.length - (intOf i).toNat)
  case atStart => exact ⟨0, 0, zeros (vs.length + 1), Nat.zero_le _, rfl, rfl, by omega, zeros_length _, zeros_lb _, Row.new _ _, (Below.refl _ _).alloc (Nat.le_refl _) _, fun j _ => zeros_get _ _, by simp [zeros_val, val]⟩
  case round =>
    obtain ⟨k, q, zs, hk, rfl, rfl, hq, hl, hz, hrow, hbel, h0, hv⟩ := hrel
    have HV := Lib.hid hv
    have H0 := Lib.hid h0
    have HL := Lib.hid hl
    clear hv h0 hl hmk
    by_cases hlt : k < vs.length
    · obtain ⟨b1, o1, rfl, hb1, hc1⟩ := hb.at_ (by omega)
      have hx := (hbel.cell (p := ⟨b1, o1 + k, none⟩) hb1).trans (hc1 k hlt)
      have bx : vs[k]?.getD 0 < 4294967296 := hb.lb.get k
      obtain ⟨x, ex⟩ : ∃ x, vs[k]?.getD 0 = x := ⟨_, rfl⟩
      rw [ex] at hx bx
      have E1 := Lib.hid ex
      have hs1 := hrow.cell (i := k) (by rw [HL.out]; omega)
      have hs2 := hrow.frozen k
      rw [H0.out k (Nat.le_refl _)] at hs1
      clear ex hc1
      by_cases hlb : k < us.length
      · obtain ⟨b2, o2, rfl, hb2, hc2⟩ := ha.at_ (by omega)
        have hy := (hbel.cell (p := ⟨b2, o2 + k, none⟩) hb2).trans (hc2 k hlb)
        have bY : us[k]?.getD 0 < 4294967296 := ha.lb.get k
        obtain ⟨y, ey⟩ : ∃ y, us[k]?.getD 0 = y := ⟨_, rfl⟩
        rw [ey] at hy bY
        have EY := Lib.hid ey
        clear ey hc2
        go_wp2
        have hr := hrow.put k ((q + x + y) % Ba) (z := ((q : Int) + x + y) % 4294967296) (by simp only [Ba_eq]; omega)
        have hstep := add_step (xs := vs) (ys := us) (zs := zs) (i := k) (c := q) (by rw [HL.out]; omega) H0.out HV.out
        rw [E1.out, EY.out] at hstep
        go_roundw
        case rel => exact ⟨k + 1, (q + x + y) / Ba, zs.set k ((q + x + y) % Ba), by omega, by go_num, by simp only [Ba_eq]; go_num, by simp only [Ba_eq]; omega, by rw [List.length_set]; exact HL.out, hz.set _ _ (Nat.mod_lt _ Ba_pos), hr, hbel.setCell (Nat.le_refl _) _, zeros_step H0.out, hstep⟩
        case measure => simp [intOf]; omega
      · have hy0 : us[k]?.getD 0 = 0 := by rw [List.getElem?_eq_none (by omega)]; rfl
        have EY := Lib.hid hy0
        clear hy0
        have hlb' : ¬ ((k : Int) < us.length) := by omega
        go_wp2
        have hr := hrow.put k ((q + x + 0) % Ba) (z := ((q : Int) + x) % 4294967296) (by simp only [Ba_eq]; omega)
        have hstep := add_step (xs := vs) (ys := us) (zs := zs) (i := k) (c := q) (by rw [HL.out]; omega) H0.out HV.out
        rw [E1.out, EY.out] at hstep
        go_roundw
        case rel => exact ⟨k + 1, (q + x + 0) / Ba, zs.set k ((q + x + 0) % Ba), by omega, by go_num, by simp only [Ba_eq]; go_num, by simp only [Ba_eq]; omega, by rw [List.length_set]; exact HL.out, hz.set _ _ (Nat.mod_lt _ Ba_pos), hr, hbel.setCell (Nat.le_refl _) _, zeros_step H0.out, hstep⟩
        case measure => simp [intOf]; omega
    · obtain rfl : k = vs.length := by omega
      have hs1 := hrow.cell (i := vs.length) (by rw [HL.out]; omega)
      have hs2 := hrow.frozen vs.length
      rw [H0.out vs.length (Nat.le_refl _)] at hs1
      have hr := hrow.put vs.length q (z := (q : Int)) rfl
      have e1 := val_set (zs := zs) (k := vs.length) q (by rw [HL.out]; omega)
      rw [H0.out vs.length (Nat.le_refl _)] at e1
      have hval : val (zs.set vs.length q) = val ys + val xs := by
        rw [← EB.out, ← EA.out]
        have := HV.out
        rw [List.take_of_length_le (Nat.le_refl _), List.take_of_length_le (by omega)] at this
        omega
      have hlen : (zs.set vs.length q).length = vs.length + 1 := by rw [List.length_set]; exact HL.out
      have hzl := hz.set vs.length q (by have := Ba_eq; omega)
      have hb2 := hbel.setCell (p := ⟨w.heap.size, vs.length, none⟩) (Nat.le_refl _) (.int .u32 (q : Int))
      have HVAL := Lib.hid hval
      have HLEN := Lib.hid hlen
      clear hval hlen e1
      go_wp2_with fail
      refine (cut_own hr hzl (Nat.le_refl _) HLEN.out (by omega) HVAL.out hb2).mono ?_
      rintro e w' ⟨A', c', rfl, r3, r4⟩
      go_wp2
      go_ret
      exact ⟨A', c', rfl, r3, r4⟩
/-- the sum -/
theorem Add_c (A B : Option Addr) (xs ys : List Nat) (c d : Nat) (w : World) (ha : Lim w A c xs) (hb : Lim w B d ys)
    (hs : xs.length < 70368744177664) (ht : ys.length < 70368744177664) :
    Calls Try.prog 98 #[.slice A xs.length c, .slice B ys.length d] w (RetNat w (val xs + val ys)) := by
  rcases Nat.lt_or_ge (limbs (val xs)).length (limbs (val ys)).length with h | h
  · rw [Nat.add_comm]; exact Add_lt A B xs ys c d w ha hb ht h
  · exact Add_ge A B xs ys c d w ha hb hs h


/- Contracts of package natural: differences. -/

/-- what a function returns that refuses some numbers -/
def RetNatOk (w : World) (n : Nat) (e : Ending) (w' : World) : Prop :=
  ∃ A c, e = .returned (.tuple #[.slice A (limbs n).length c, .bool true]) ∧ Own w.heap.size w' A c (limbs n) ∧ Below w.heap.size w w'
def RetNo (w : World) (e : Ending) (w' : World) : Prop := e = .returned (.tuple #[.slice none 0 0, .bool false]) ∧ ∃ n, w' = w.drewN n

set_option maxHeartbeats 400000 in
theorem Sub_no (A B : Option Addr) (xs ys : List Nat) (c d : Nat) (w : World) (ha : Lim w A c xs) (hb : Lim w B d ys)
    (hlt : val xs < val ys) :
    Calls Try.prog 99 #[.slice A xs.length c, .slice B ys.length d] w (RetNo w) := by
  have hc := ha.cap
  have hm := ha.max
  have hd := hb.cap
  have hn := hb.max
  go_enter Try.func99, Try.ntmps99
  go_wp2_with fail
  refine (cut_c _ _ _ _ ha).mono ?_
  rintro e w' ⟨rfl, rfl⟩
  go_wp2_with fail
  refine (cut_c _ _ _ _ hb).mono ?_
  rintro e w' ⟨rfl, rfl⟩
  have la := limbs_length_le ha.lb
  have lb := limbs_length_le hb.lb
  have ec : cmpN (val (limbs (val xs))) (val (limbs (val ys))) = -1 := by rw [val_limbs, val_limbs]; exact cmpN_lt hlt
  have EC := Lib.hid ec
  clear ec
  go_wp2_with fail
  refine (Compare_c _ _ _ _ _ _ _ ha.cut hb.cut).mono ?_
  rintro e w' ⟨rfl, n, rfl⟩
  rw [EC.out]
  go_wp2_with fail
  go_ret2
  exact ⟨rfl, n, rfl⟩

set_option maxHeartbeats 400000 in
theorem Sub_ok (A B : Option Addr) (xs ys : List Nat) (c d : Nat) (w : World) (ha : Lim w A c xs) (hb : Lim w B d ys)
    (hs : xs.length ≤ 70368744177664) (hge : val ys ≤ val xs) :
    Calls Try.prog 99 #[.slice A xs.length c, .slice B ys.length d] w (RetNatOk w (val xs - val ys)) := by
  have hc := ha.cap
  have hm := ha.max
  have hd := hb.cap
  have hn := hb.max
  go_enter Try.func99, Try.ntmps99
  go_wp2_with fail
  refine (cut_c _ _ _ _ ha).mono ?_
  rintro e w' ⟨rfl, rfl⟩
  go_wp2_with fail
  refine (cut_c _ _ _ _ hb).mono ?_
  rintro e w' ⟨rfl, rfl⟩
  have la := limbs_length_le ha.lb
  have lb := limbs_length_le hb.lb
  have ec : 0 ≤ cmpN (val (limbs (val xs))) (val (limbs (val ys))) := by
    rw [val_limbs, val_limbs]
    rcases Nat.lt_or_eq_of_le hge with h | h
    · rw [cmpN_gt h]; omega
    · rw [cmpN_eq h.symm]; omega
  go_wp2_with fail
  refine (Compare_c _ _ _ _ _ _ _ ha.cut hb.cut).mono ?_
  rintro e w' ⟨rfl, n, rfl⟩
  replace ha := ha.cut
  replace hb := hb.cut
  have EA := Lib.hid (val_limbs (val xs))
  have EB := Lib.hid (val_limbs (val ys))
  have hle := limbs_mono hge
  have HGE := Lib.hid hge
  clear hge
  generalize cmpN (val (limbs (val xs))) (val (limbs (val ys))) = z at *
  generalize limbs (val xs) = us at *
  generalize limbs (val ys) = vs at *
  have ec' : ¬ z < 0 := by omega
  have hmk := mk_run (↑us.length) us.length rfl (by omega)
  go_wp2_with fail
  go_loopw [7, 24] (fun t i wr => ∃ (k q : Nat) (zs : List Nat), k ≤ us.length ∧ i = .int .i64 k ∧ t = .int .u64 q ∧ q ≤ 1 ∧ zs.length = us.length ∧ Lb zs ∧ Row wr w.heap.size zs ∧ Below w.heap.size w wr ∧ (∀ j, k ≤ j → zs[j]?.getD 0 = 0) ∧ val zs + val (vs.take k) = val (us.take k) + Ba ^ k * q) (fun _ i _ => us.length - (intOf i).toNat)
  case atStart => exact ⟨0, 0, zeros us.length, Nat.zero_le _, rfl, rfl, by omega, zeros_length _, zeros_lb _, Row.new _ _, (below_drewN (Below.refl w.heap.size w) n).alloc (Nat.le_refl _) _, fun j _ => zeros_get _ _, by simp [zeros_val, val]⟩
  case round =>
    obtain ⟨k, q, zs, hk, rfl, rfl, hq, hl, hz, hrow, hbel, h0, hv⟩ := hrel
    have HV := Lib.hid hv
    have H0 := Lib.hid h0
    have HL := Lib.hid hl
    clear hv h0 hl hmk
    by_cases hlt : k < us.length
    · obtain ⟨b1, o1, rfl, hb1, hc1⟩ := ha.at_ (by omega)
      have hx := (hbel.cell (p := ⟨b1, o1 + k, none⟩) hb1).trans (hc1 k hlt)
      have bx : us[k]?.getD 0 < 4294967296 := ha.lb.get k
      obtain ⟨x, ex⟩ : ∃ x, us[k]?.getD 0 = x := ⟨_, rfl⟩
      rw [ex] at hx bx
      have EX := Lib.hid ex
      have hs1 := hrow.cell (i := k) (by rw [HL.out]; omega)
      have hs2 := hrow.frozen k
      rw [H0.out k (Nat.le_refl _)] at hs1
      clear ex hc1
      by_cases hlb : k < vs.length
      · obtain ⟨b2, o2, rfl, hb2, hc2⟩ := hb.at_ (by omega)
        have hy := (hbel.cell (p := ⟨b2, o2 + k, none⟩) hb2).trans (hc2 k hlb)
        have bY : vs[k]?.getD 0 < 4294967296 := hb.lb.get k
        obtain ⟨y, ey⟩ : ∃ y, vs[k]?.getD 0 = y := ⟨_, rfl⟩
        rw [ey] at hy bY
        have EY := Lib.hid ey
        clear ey hc2
        by_cases g1 : q + y ≤ x
        · go_wp2
          have hr := hrow.put k (x - q - y) (z := (x : Int) - q - y) (by omega)
          have hstep := sub_step_no (xs := us) (ys := vs) (zs := zs) (i := k) (c := q) (z := x - q - y) (by rw [HL.out]; omega) H0.out HV.out (by rw [EX.out, EY.out]; have := Ba_eq; omega)
          go_roundw
          case rel => exact ⟨k + 1, 0, zs.set k (x - q - y), by omega, by go_num, by go_num, by omega, by rw [List.length_set]; exact HL.out, hz.set _ _ (by have := Ba_eq; omega), hr, hbel.setCell (Nat.le_refl _) _, zeros_step H0.out, hstep⟩
          case measure => simp [intOf]; omega
        · by_cases g2 : q ≤ x
          · go_wp2
            have hr := hrow.put k (x + Ba - q - y) (z := IntKind.u64.wrap ((x : Int) - q - y) % 4294967296) (by rw [wrap_low _ (by omega) (by omega)]; have := Ba_eq; omega)
            have hstep := sub_step_yes (xs := us) (ys := vs) (zs := zs) (i := k) (c := q) (z := x + Ba - q - y) (by rw [HL.out]; omega) H0.out HV.out (by rw [EX.out, EY.out]; have := Ba_eq; omega)
            go_roundw
            case rel => exact ⟨k + 1, 1, zs.set k (x + Ba - q - y), by omega, by go_num, by rw [wrap_sign _ (by omega) (by omega)]; rfl, by omega, by rw [List.length_set]; exact HL.out, hz.set _ _ (by have := Ba_eq; omega), hr, hbel.setCell (Nat.le_refl _) _, zeros_step H0.out, hstep⟩
            case measure => simp [intOf]; omega
          · go_wp2
            have hr := hrow.put k (x + Ba - q - y) (z := IntKind.u64.wrap (IntKind.u64.wrap ((x : Int) - q) - y) % 4294967296) (by rw [wrap_sub, wrap_low _ (by omega) (by omega)]; have := Ba_eq; omega)
            have hstep := sub_step_yes (xs := us) (ys := vs) (zs := zs) (i := k) (c := q) (z := x + Ba - q - y) (by rw [HL.out]; omega) H0.out HV.out (by rw [EX.out, EY.out]; have := Ba_eq; omega)
            go_roundw
            case rel => exact ⟨k + 1, 1, zs.set k (x + Ba - q - y), by omega, by go_num, by rw [wrap_sub, wrap_sign _ (by omega) (by omega)]; rfl, by omega, by rw [List.length_set]; exact HL.out, hz.set _ _ (by have := Ba_eq; omega), hr, hbel.setCell (Nat.le_refl _) _, zeros_step H0.out, hstep⟩
            case measure => simp [intOf]; omega
      · have hlb' : ¬ ((k : Int) < vs.length) := by omega
        have hy0 : vs[k]?.getD 0 = 0 := by rw [List.getElem?_eq_none (by omega)]; rfl
        have EY := Lib.hid hy0
        clear hy0
        by_cases g1 : q ≤ x
        · go_wp2
          have hr := hrow.put k (x - q) (z := (x : Int) - q) (by omega)
          have hstep := sub_step_no (xs := us) (ys := vs) (zs := zs) (i := k) (c := q) (z := x - q) (by rw [HL.out]; omega) H0.out HV.out (by rw [EX.out, EY.out]; have := Ba_eq; omega)
          go_roundw
          case rel => exact ⟨k + 1, 0, zs.set k (x - q), by omega, by go_num, by go_num, by omega, by rw [List.length_set]; exact HL.out, hz.set _ _ (by have := Ba_eq; omega), hr, hbel.setCell (Nat.le_refl _) _, zeros_step H0.out, hstep⟩
          case measure => simp [intOf]; omega
        · go_wp2
          have hr := hrow.put k (x + Ba - q) (z := IntKind.u64.wrap ((x : Int) - q) % 4294967296) (by rw [wrap_low _ (by omega) (by omega)]; have := Ba_eq; omega)
          have hstep := sub_step_yes (xs := us) (ys := vs) (zs := zs) (i := k) (c := q) (z := x + Ba - q) (by rw [HL.out]; omega) H0.out HV.out (by rw [EX.out, EY.out]; have := Ba_eq; omega)
          go_roundw
          case rel => exact ⟨k + 1, 1, zs.set k (x + Ba - q), by omega, by go_num, by rw [wrap_sign _ (by omega) (by omega)]; rfl, by omega, by rw [List.length_set]; exact HL.out, hz.set _ _ (by have := Ba_eq; omega), hr, hbel.setCell (Nat.le_refl _) _, zeros_step H0.out, hstep⟩
          case measure => simp [intOf]; omega
    · obtain rfl : k = us.length := by omega
      have hval : val zs = val xs - val ys := by
        rw [← EA.out, ← EB.out]
        have := HV.out
        rw [List.take_of_length_le (Nat.le_refl _), List.take_of_length_le (by omega)] at this
        exact sub_end hz HL.out (by rw [EA.out, EB.out]; exact HGE.out) this
      have HVAL := Lib.hid hval
      clear hval
      go_wp2_with fail
      refine (cut_own hrow hz (Nat.le_refl _) HL.out (by omega) HVAL.out hbel).mono ?_
      rintro e w' ⟨A', c', rfl, r3, r4⟩
      go_wp2
      go_ret2
      exact ⟨A', c', rfl, r3, r4⟩


/- Contracts of package natural: numbers of 64 bits. -/

set_option maxHeartbeats 400000 in
theorem FromUint64_c (v : Nat) (w : World) (hv : v < Ba * Ba) :
    Calls Try.prog 91 #[.int .u64 (v : Int)] w (RetNat w v) := by
  have h1 : (v : Int) < 18446744073709551616 := by have : Ba * Ba = 18446744073709551616 := by decide
                                                   omega
  go_enter Try.func91, Try.ntmps91
  go_wp2_with fail
  have hr : Row (w.alloc (.cells #[.int .u32 ((v : Int) % 4294967296), .int .u32 ((v : Int) / 4294967296)] 40)) w.heap.size [v % Ba, v / Ba] := Row.new w [v % Ba, v / Ba]
  refine (cut_own hr (Lb_two hv) (Nat.le_refl _) rfl (by simp) (val_two v) ((Below.refl _ _).alloc (Nat.le_refl _) _)).mono ?_
  rintro e w' ⟨A', c', rfl, r3, r4⟩
  go_wp2
  go_ret
  exact ⟨A', c', rfl, r3, r4⟩

set_option maxHeartbeats 400000 in
theorem word_c (A : Option Addr) (xs : List Nat) (c : Nat) (w : World) (h : Lim w A c xs) (hl : xs.length ≤ 2) :
    Calls Try.prog 109 #[.slice A xs.length c] w fun e w' => e = .returned (.int .u64 (val xs : Nat)) ∧ w = w' := by
  go_enter Try.func109, Try.ntmps109
  go_wp2
  go_loop [3, 8] (fun t i => ∃ k : Nat, k ≤ xs.length ∧ i = .int .i64 k ∧ t = .int .u64 (val (xs.take k) : Nat)) (fun _ i => xs.length - (intOf i).toNat)
  case atStart => exact ⟨0, Nat.zero_le _, rfl, by simp [val]⟩
  case round =>
    obtain ⟨k, hk, rfl, rfl⟩ := hrel
    by_cases hlt : k < xs.length
    · obtain ⟨b, off, rfl, hb, hcell⟩ := h.at_ (by omega)
      have hx := hcell k (by omega)
      have bx : xs[k]?.getD 0 < 4294967296 := h.lb.get k
      clear hcell
      have hs := val_take_succ (xs := xs) hlt
      obtain ⟨x, ex⟩ : ∃ x, xs[k]?.getD 0 = x := ⟨_, rfl⟩
      rw [ex] at hx bx hs
      have HS := Lib.hid hs
      have hv0 : val (xs.take k) < 4294967296 := by
        have h1 := val_take_lt h.lb k
        have h2 : Ba ^ k ≤ Ba ^ 1 := Nat.pow_le_pow_right Ba_pos (by omega)
        have h3 : Ba ^ 1 = 4294967296 := by decide
        omega
      clear ex hs
      have hk2 : k = 0 ∨ k = 1 := by omega
      rcases hk2 with rfl | rfl
      · have e0 : val (xs.take 0) = 0 := by simp [val]
        rw [e0]
        rw [Nat.add_zero] at hx
        go_wp2
        go_round
        case rel => exact ⟨1, by omega, by go_num, by rw [HS.out, e0]; simp [or_zero x bx]⟩
        case measure => simp [intOf]; omega
      · obtain ⟨v, ev⟩ : ∃ v, val (xs.take 1) = v := ⟨_, rfl⟩
        rw [ev] at hv0 ⊢
        have EV := Lib.hid ev
        clear ev
        go_wp2
        go_round
        case rel => exact ⟨2, by omega, by go_num, by rw [HS.out, EV.out, or_hi v x hv0 bx]; rfl⟩
        case measure => simp [intOf]; omega
    · go_wp2
      go_ret
      exact ⟨by rw [List.take_of_length_le (by omega)]; rfl, rfl⟩

theorem FromUint64_i (z : Int) (w : World) (h0 : 0 ≤ z) (h1 : z < 18446744073709551616) :
    Calls Try.prog 91 #[.int .u64 z] w (RetNat w z.toNat) := by
  obtain ⟨v, rfl⟩ := Int.eq_ofNat_of_zero_le h0
  rw [Int.toNat_natCast]
  exact FromUint64_c v w (by have : Ba * Ba = 18446744073709551616 := by decide
                             omega)

set_option maxHeartbeats 400000 in
theorem Uint64_yes (A : Option Addr) (xs : List Nat) (c : Nat) (w : World) (h : Lim w A c xs) (hv : val xs < Ba * Ba) :
    Calls Try.prog 90 #[.slice A xs.length c] w fun e w' => e = .returned (.tuple #[.int .u64 (val xs : Nat), .bool true]) ∧ w = w' := by
  go_enter Try.func90, Try.ntmps90
  go_wp2_with fail
  refine (cut_c _ _ _ _ h).mono ?_
  rintro e w' ⟨rfl, rfl⟩
  have h2 := limbs_two.2 hv
  go_wp2_with fail
  refine (word_c _ _ _ _ h.cut h2).mono ?_
  rintro e w' ⟨rfl, rfl⟩
  rw [val_limbs]
  go_wp2_with fail
  go_ret2
  exact ⟨rfl, rfl⟩

set_option maxHeartbeats 400000 in
theorem Uint64_no (A : Option Addr) (xs : List Nat) (c : Nat) (w : World) (h : Lim w A c xs) (hv : Ba * Ba ≤ val xs) :
    Calls Try.prog 90 #[.slice A xs.length c] w fun e w' => e = .returned (.tuple #[.int .u64 0, .bool false]) ∧ w = w' := by
  go_enter Try.func90, Try.ntmps90
  go_wp2_with fail
  refine (cut_c _ _ _ _ h).mono ?_
  rintro e w' ⟨rfl, rfl⟩
  have h2 : (2 : Int) < ((limbs (val xs)).length : Int) := by
    have : ¬ (limbs (val xs)).length ≤ 2 := fun h => by have := limbs_two.1 h; omega
    omega
  go_wp2_with fail
  go_ret2
  exact ⟨rfl, rfl⟩

set_option maxHeartbeats 400000 in
theorem Trim_c (A : Option Addr) (xs : List Nat) (c : Nat) (w : World) (h : Lim w A c xs) (hs : xs.length ≤ 70368744177664) :
    Calls Try.prog 93 #[.slice A xs.length c] w (RetNat w (val xs)) := by
  have la := limbs_length_le h.lb
  have hmk := mk_run (↑(limbs (val xs)).length) (limbs (val xs)).length rfl (by omega)
  have hb1 : Below w.heap.size w (w.alloc (.cells (cellsOf (zeros (limbs (val xs)).length)) 40)) := (Below.refl _ _).alloc (Nat.le_refl _) _
  obtain ⟨w2, hcp, hrow, hbel⟩ := copy_run (dLen := (limbs (val xs)).length) (dCap := (limbs (val xs)).length) (off := 0) (c := c) (Row.new w (zeros (limbs (val xs)).length)) (h.cut.below hb1) (Nat.le_refl _) (by rw [zeros_length]; omega) hb1 (Nat.le_refl _)
  have e1 : (zeros (limbs (val xs)).length).take 0 ++ (limbs (val xs) ++ (zeros (limbs (val xs)).length).drop (0 + (limbs (val xs)).length)) = limbs (val xs) := by
    rw [List.drop_of_length_le (by rw [zeros_length]; omega)]; simp
  rw [e1] at hrow
  clear e1 hb1
  go_enter Try.func93, Try.ntmps93
  go_wp2_with fail
  refine (cut_c _ _ _ _ h).mono ?_
  rintro e w' ⟨rfl, rfl⟩
  go_wp2_with fail
  go_ret
  exact ⟨_, _, rfl, hrow.own (Lb_limbs _) (Nat.le_refl _) (by omega), hbel⟩


/- Contracts of package natural: division of small numbers. -/

/-- what the division returns -/
def RetDiv (w : World) (q r : Nat) (e : Ending) (w' : World) : Prop :=
  ∃ A c B d, e = .returned (.tuple #[.slice A (limbs q).length c, .slice B (limbs r).length d, .bool true]) ∧ Own w.heap.size w' A c (limbs q) ∧ Own w.heap.size w' B d (limbs r) ∧ Below w.heap.size w w'

set_option maxHeartbeats 1000000 in
theorem DivMod_small (A B : Option Addr) (xs ys : List Nat) (c d : Nat) (w : World) (ha : Lim w A c xs) (hb : Lim w B d ys)
    (h0 : val ys ≠ 0) (hge : val ys ≤ val xs) (hsm : val xs < Ba * Ba) :
    Calls Try.prog 95 #[.slice A xs.length c, .slice B ys.length d] w (RetDiv w (val xs / val ys) (val xs % val ys)) := by
  have hc := ha.cap
  have hm := ha.max
  have hd := hb.cap
  have hn := hb.max
  go_enter Try.func95, Try.ntmps95
  go_wp2_with fail
  refine (cut_c _ _ _ _ ha).mono ?_
  rintro e w' ⟨rfl, rfl⟩
  go_wp2_with fail
  refine (cut_c _ _ _ _ hb).mono ?_
  rintro e w' ⟨rfl, rfl⟩
  have la := limbs_length_le ha.lb
  have lb := limbs_length_le hb.lb
  have l2 := limbs_two.2 hsm
  have l3 := limbs_mono hge
  have lne : (((limbs (val ys)).length : Int) == 0) = false := by
    have : (limbs (val ys)).length ≠ 0 := fun h => h0 (limbs_eq_nil.1 (List.eq_nil_of_length_eq_zero h))
    simp; intro h; exact h0 (limbs_eq_nil.1 h)
  have ec : 0 ≤ cmpN (val (limbs (val xs))) (val (limbs (val ys))) := by
    rw [val_limbs, val_limbs]
    rcases Nat.lt_or_eq_of_le hge with h | h
    · rw [cmpN_gt h]; omega
    · rw [cmpN_eq h.symm]; omega
  go_wp2_with fail
  refine (Compare_c _ _ _ _ _ _ _ ha.cut hb.cut).mono ?_
  rintro e w' ⟨rfl, n, rfl⟩
  generalize cmpN (val (limbs (val xs))) (val (limbs (val ys))) = z at *
  have ec' : ¬ z < 0 := by omega
  go_wp2_with fail
  refine (word_c _ _ _ (w.drewN n) (ha.cut.drewN n) l2).mono ?_
  rintro e w' ⟨rfl, rfl⟩
  go_wp2_with fail
  refine (word_c _ _ _ (w.drewN n) (hb.cut.drewN n) (by omega)).mono ?_
  rintro e w' ⟨rfl, rfl⟩
  rw [val_limbs, val_limbs]
  have hB : Ba * Ba = 18446744073709551616 := by decide
  rw [hB] at hsm
  clear hB
  have hne : ((val ys : Int) == 0) = false := by simp; omega
  have hpos : (0 : Int) < (val ys : Int) := by omega
  have hql : val xs / val ys < Ba * Ba := Nat.lt_of_le_of_lt (Nat.div_le_self _ _) (by have hB : Ba * Ba = 18446744073709551616 := by decide
                                                                                       omega)
  have hrl : val xs % val ys < Ba * Ba := Nat.lt_of_le_of_lt (Nat.mod_le _ _) (by have hB : Ba * Ba = 18446744073709551616 := by decide
                                                                                  omega)
  obtain ⟨q, eq⟩ : ∃ q, val xs / val ys = q := ⟨_, rfl⟩
  obtain ⟨r, er⟩ : ∃ r, val xs % val ys = r := ⟨_, rfl⟩
  rw [eq] at hql
  rw [er] at hrl
  have e1 : IntKind.u64.wrap ((val xs : Int) / (val ys : Int)) = ((q : Nat) : Int) := by
    rw [IntKind.wrap_u64, ← Int.natCast_ediv, eq]
    have hB : Ba * Ba = 18446744073709551616 := by decide
    omega
  have e2 : ((val xs : Int)).tmod (val ys : Int) = ((r : Nat) : Int) := by
    rw [Int.tmod_eq_emod_of_nonneg (by omega), ← er]; rfl
  have EQ := Lib.hid eq
  have ER := Lib.hid er
  clear eq er
  go_wp2_with fail
  go_region_with (first
    | (go_at_call_of 91 ((q : Nat) : Int); refine (FromUint64_c q _ hql).mono ?_; rintro e w1 ⟨A1, c1, rfl, p3, p4⟩)
    | (go_at_call_of 91 ((r : Nat) : Int); refine (FromUint64_c r _ hrl).mono ?_; rintro e w2 ⟨A2, c2, rfl, q3, q4⟩))
  go_wp2
  go_ret3
  rw [EQ.out, ER.out]
  exact ⟨A1, c1, A2, c2, rfl, p3.below q4, q3.mono p4.size, ((below_drewN (Below.refl _ w) (n + 1)).trans p4).trans (q4.mono p4.size)⟩

/- Contracts of package natural: products. -/

set_option maxHeartbeats 400000 in
theorem Mul_zero (A B : Option Addr) (xs ys : List Nat) (c d : Nat) (w : World) (ha : Lim w A c xs) (hb : Lim w B d ys) (h0 : val xs = 0 ∨ val ys = 0) :
    Calls Try.prog 64 #[.slice A xs.length c, .slice B ys.length d] w (RetNat w (val xs * val ys)) := by
  have hv : val xs * val ys = 0 := by rcases h0 with h | h <;> rw [h] <;> simp
  rw [hv]
  clear hv
  have hret : RetNat w 0 (.returned (.slice none 0 0)) w := ⟨none, 0, by rw [limbs_zero]; rfl, by rw [limbs_zero]; exact Own.nil _ _ _, Below.refl _ _⟩
  have HR := Lib.hid hret
  clear hret
  go_enter Try.func64, Try.ntmps64
  go_wp2_with fail
  refine (cut_c _ _ _ _ ha).mono ?_
  rintro e w' ⟨rfl, rfl⟩
  go_wp2_with fail
  refine (cut_c _ _ _ _ hb).mono ?_
  rintro e w' ⟨rfl, rfl⟩
  by_cases hx : val xs = 0
  · have e1 : (limbs (val xs)).length = 0 := by rw [hx, limbs_zero]; rfl
    rw [e1]
    clear e1 h0 hx
    go_wp2
    go_ret
    exact HR.out
  · have hy : val ys = 0 := by omega
    have e1 : (limbs (val ys)).length = 0 := by rw [hy, limbs_zero]; rfl
    have e2 : (((limbs (val xs)).length : Int) == 0) = false := by
      have : (limbs (val xs)).length ≠ 0 := fun e => hx (limbs_eq_nil.1 (List.eq_nil_of_length_eq_zero e))
      simp; intro h; exact hx (limbs_eq_nil.1 h)
    rw [e1]
    generalize (limbs (val xs)).length = n at *
    clear e1 h0 hx hy
    go_wp2
    go_ret
    exact HR.out

set_option maxHeartbeats 1000000 in
theorem Mul_pos (A B : Option Addr) (xs ys : List Nat) (c d : Nat) (w : World) (ha : Lim w A c xs) (hb : Lim w B d ys) (hx0 : val xs ≠ 0) (hy0 : val ys ≠ 0) (hs : (limbs (val xs)).length + (limbs (val ys)).length ≤ 70368744177664) :
    Calls Try.prog 64 #[.slice A xs.length c, .slice B ys.length d] w (RetNat w (val xs * val ys)) := by
  go_enter Try.func64, Try.ntmps64
  go_wp2_with fail
  refine (cut_c _ _ _ _ ha).mono ?_
  rintro e w' ⟨rfl, rfl⟩
  go_wp2_with fail
  refine (cut_c _ _ _ _ hb).mono ?_
  rintro e w' ⟨rfl, rfl⟩
  have la := limbs_length_le ha.lb
  have lb := limbs_length_le hb.lb
  have pa : 0 < (limbs (val xs)).length := List.length_pos_iff.2 (fun e => hx0 (limbs_eq_nil.1 e))
  have pb : 0 < (limbs (val ys)).length := List.length_pos_iff.2 (fun e => hy0 (limbs_eq_nil.1 e))
  replace ha := ha.cut
  replace hb := hb.cut
  have EA := Lib.hid (val_limbs (val xs))
  have EB := Lib.hid (val_limbs (val ys))
  generalize limbs (val xs) = us at *
  generalize limbs (val ys) = vs at *
  have e1 : ((us.length : Int) == 0) = false := by simp; intro h; rw [h] at pa; simp at pa
  have e2 : ((vs.length : Int) == 0) = false := by simp; intro h; rw [h] at pb; simp at pb
  have hmk := mk_run (↑us.length + ↑vs.length) (us.length + vs.length) (by omega) (by omega)
  clear hx0 hy0
  go_wp2_with fail
  go_loopw [31] (fun i wr => ∃ (k : Nat) (ps : List Nat), k ≤ us.length ∧ i = .int .i64 k ∧ ps.length = us.length + vs.length ∧ Lb ps ∧ Row wr w.heap.size ps ∧ Below w.heap.size w wr ∧ (∀ j, k + vs.length ≤ j → ps[j]?.getD 0 = 0) ∧ val ps = val (us.take k) * val vs) (fun i _ => us.length - (intOf i).toNat)
  case atStart => exact ⟨0, zeros (us.length + vs.length), Nat.zero_le _, rfl, zeros_length _, zeros_lb _, Row.new _ _, (Below.refl _ _).alloc (Nat.le_refl _) _, fun j _ => zeros_get _ _, by simp [zeros_val, val]⟩
  case round =>
    obtain ⟨k, ps, hk, rfl, hl, hz, hrow, hbel, h0, hv⟩ := hrel
    have HV := Lib.hid hv
    have H0 := Lib.hid h0
    have HL := Lib.hid hl
    clear hv h0 hl hmk
    by_cases hlt : k < us.length
    · obtain ⟨b1, o1, rfl, hb1, hc1⟩ := ha.at_ (by omega)
      have hx := (hbel.cell (p := ⟨b1, o1 + k, none⟩) hb1).trans (hc1 k hlt)
      have bx : us[k]?.getD 0 < 4294967296 := ha.lb.get k
      have hts := val_take_succ (xs := us) hlt
      obtain ⟨x, ex⟩ : ∃ x, us[k]?.getD 0 = x := ⟨_, rfl⟩
      rw [ex] at hx bx hts
      have HTS := Lib.hid hts
      clear ex hc1 hts
      by_cases hx0 : x = 0
      · subst hx0
        go_wp2
        go_roundw
        case rel => exact ⟨k + 1, ps, by omega, by go_num, HL.out, hz, hrow, hbel, fun j hj => H0.out j (by omega), by rw [HTS.out, HV.out]; simp⟩
        case measure => simp [intOf]; omega
      · have hxb : ((x : Int) == 0) = false := by simp; omega
        obtain ⟨wo, rfl⟩ : ∃ wo : World, wo = wr := ⟨_, rfl⟩
        go_wp2
        go_loopw [8, 40] (fun t i wi => ∃ (j q : Nat) (zs : List Nat), j ≤ vs.length ∧ i = .int .i64 j ∧ t = .int .u64 q ∧ q < 4294967296 ∧ zs.length = us.length + vs.length ∧ Lb zs ∧ Row wi w.heap.size zs ∧ Below w.heap.size w wi ∧ (∀ n, k + j ≤ n → zs[n]?.getD 0 = ps[n]?.getD 0) ∧ val zs + Ba ^ (k + j) * q = val ps + x * Ba ^ k * val (vs.take j)) (fun _ i _ => vs.length - (intOf i).toNat)
        case atStart => exact ⟨0, 0, ps, Nat.zero_le _, rfl, rfl, by omega, HL.out, hz, hrow, hbel, fun n _ => rfl, by simp [val]⟩
        case round =>
          obtain ⟨j, q, zs, hj, rfl, rfl, hq, hl2, hz2, hrow2, hbel2, hsame, hv2⟩ := hrel
          have HV2 := Lib.hid hv2
          have HS2 := Lib.hid hsame
          have HL2 := Lib.hid hl2
          clear hv2 hsame hl2
          by_cases hlt2 : j < vs.length
          · obtain ⟨b2, o2, rfl, hb2, hc2⟩ := hb.at_ (by omega)
            have hy := (hbel2.cell (p := ⟨b2, o2 + j, none⟩) hb2).trans (hc2 j hlt2)
            have bY : vs[j]?.getD 0 < 4294967296 := hb.lb.get j
            have hzc := hrow2.cell (i := k + j) (by rw [HL2.out]; omega)
            have hzf := hrow2.frozen (k + j)
            have bz : zs[k + j]?.getD 0 < 4294967296 := hz2.get (k + j)
            have hstep := mul_step (ys := vs) (zs := zs) (i := k) (j := j) (c := q) (x := x) (T := val ps) (by rw [HL2.out]; omega) HV2.out
            obtain ⟨y, ey⟩ : ∃ y, vs[j]?.getD 0 = y := ⟨_, rfl⟩
            obtain ⟨z, ez⟩ : ∃ z, zs[k + j]?.getD 0 = z := ⟨_, rfl⟩
            rw [ey] at hy bY hstep
            rw [ez] at hzc bz hstep
            have hpb := Nat.mul_le_mul (Nat.le_pred_of_lt bx) (Nat.le_pred_of_lt bY)
            have hpe : (x : Int) * (y : Int) = ((x * y : Nat) : Int) := (Int.natCast_mul x y).symm
            obtain ⟨p, ep⟩ : ∃ p, x * y = p := ⟨_, rfl⟩
            rw [ep] at hpe hpb hstep
            have hpb' : p ≤ 18446744065119617025 := hpb
            have EPQ : Hid (q + p + z = q + (p + z)) := Nat.add_assoc q p z
            rw [EPQ.out] at hstep
            have HST := Lib.hid hstep
            have hr := hrow2.put (k + j) ((q + (p + z)) % Ba) (z := ((q : Int) + (p + z)) % 4294967296) (by simp only [Ba_eq]; omega)
            have HPE := Lib.hid hpe
            clear ey ez ep hc2 hpb hstep hpe
            have hpe : (x : Int) * (y : Int) = (p : Int) := HPE.out
            go_wp2
            go_roundw
            case rel => exact ⟨j + 1, (q + (p + z)) / Ba, zs.set (k + j) ((q + (p + z)) % Ba), by omega, by go_num, by simp only [Ba_eq]; go_num, by simp only [Ba_eq]; omega, by rw [List.length_set]; exact HL2.out, hz2.set _ _ (Nat.mod_lt _ Ba_pos), hr, hbel2.setCell (Nat.le_refl _) _, fun n hn => by rw [get_set_ne _ (by omega)]; exact HS2.out n (by omega), HST.out⟩
            case measure => simp [intOf]; omega
          · obtain rfl : j = vs.length := by omega
            have hs1 := hrow2.cell (i := k + vs.length) (by rw [HL2.out]; omega)
            have hs2 := hrow2.frozen (k + vs.length)
            have ez : zs[k + vs.length]?.getD 0 = 0 := by rw [HS2.out _ (Nat.le_refl _)]; exact H0.out _ (Nat.le_refl _)
            rw [ez] at hs1
            have hr := hrow2.put (k + vs.length) q (z := (q : Int)) rfl
            have e3 := val_set (zs := zs) (k := k + vs.length) q (by rw [HL2.out]; omega)
            rw [ez] at e3
            have hval : val (zs.set (k + vs.length) q) = val (us.take (k + 1)) * val vs := by
              have h1 := HV2.out
              rw [List.take_of_length_le (Nat.le_refl _), HV.out] at h1
              rw [HTS.out]
              grind
            have HVAL := Lib.hid hval
            clear ez e3 hval
            go_wp2
            go_roundw
            case rel => exact ⟨k + 1, zs.set (k + vs.length) q, by omega, by go_num, by rw [List.length_set]; exact HL2.out, hz2.set _ _ (by have := Ba_eq; omega), hr, hbel2.setCell (Nat.le_refl _) _, fun n hn => by rw [get_set_ne _ (by omega), HS2.out n (by omega)]; exact H0.out n (by omega), HVAL.out⟩
            case measure => simp [intOf]; omega
    · obtain rfl : k = us.length := by omega
      have hval : val ps = val xs * val ys := by
        rw [HV.out, List.take_of_length_le (Nat.le_refl _), EA.out, EB.out]
      have HVAL := Lib.hid hval
      clear hval
      go_wp2_with fail
      refine (cut_own hrow hz (Nat.le_refl _) HL.out (by omega) HVAL.out hbel).mono ?_
      rintro e w' ⟨A', c', rfl, r3, r4⟩
      go_wp2
      go_ret
      exact ⟨A', c', rfl, r3, r4⟩

/-- the product, by the lengths without zero limbs at the end -/
theorem Mul_w (A B : Option Addr) (xs ys : List Nat) (c d : Nat) (w : World) (ha : Lim w A c xs) (hb : Lim w B d ys) (hs : (limbs (val xs)).length + (limbs (val ys)).length ≤ 70368744177664) :
    Calls Try.prog 64 #[.slice A xs.length c, .slice B ys.length d] w (RetNat w (val xs * val ys)) := by
  by_cases hx : val xs = 0
  · exact Mul_zero A B xs ys c d w ha hb (.inl hx)
  · by_cases hy : val ys = 0
    · exact Mul_zero A B xs ys c d w ha hb (.inr hy)
    · exact Mul_pos A B xs ys c d w ha hb hx hy hs
/-- the product -/
theorem Mul_c (A B : Option Addr) (xs ys : List Nat) (c d : Nat) (w : World) (ha : Lim w A c xs) (hb : Lim w B d ys) (hs : xs.length + ys.length ≤ 70368744177664) :
    Calls Try.prog 64 #[.slice A xs.length c, .slice B ys.length d] w (RetNat w (val xs * val ys)) :=
  Mul_w A B xs ys c d w ha hb (by have := limbs_length_le ha.lb; have := limbs_length_le hb.lb; omega)


/- Contracts of package natural: division by one limb. -/

/-- a round of the division by one limb -/
theorem limb_step {us zs : List Nat} {m d rest : Nat} (hu : m < us.length) (hz : m < zs.length) (hv : val (us.drop (m + 1)) = d * val (zs.drop (m + 1)) + rest) :
    val (us.drop m) = d * val ((zs.set m ((us[m]?.getD 0 + 4294967296 * rest) / d)).drop m) + (us[m]?.getD 0 + 4294967296 * rest) % d := by
  have e : (zs.set m ((us[m]?.getD 0 + 4294967296 * rest) / d)).drop m = ((us[m]?.getD 0 + 4294967296 * rest) / d) :: zs.drop (m + 1) := by
    rw [List.drop_eq_getElem_cons (by simpa using hz)]
    simp [List.drop_set_of_lt]
  rw [e, val, val_drop hu, hv, Ba_eq]
  have h1 := Nat.div_add_mod (us[m]?.getD 0 + 4294967296 * rest) d
  generalize us[m]?.getD 0 = x at *
  generalize val (zs.drop (m + 1)) = Z at *
  generalize (x + 4294967296 * rest) / d = q at *
  generalize (x + 4294967296 * rest) % d = t at *
  grind
theorem limb_q {x rest d : Nat} (hx : x < 4294967296) (hr : rest < d) : (x + 4294967296 * rest) / d < 4294967296 := by
  apply Nat.div_lt_of_lt_mul
  have : 4294967296 * (rest + 1) ≤ 4294967296 * d := Nat.mul_le_mul_left _ hr
  rw [Nat.mul_comm d]
  omega

/-- what the division by one limb returns -/
def RetTwo (w : World) (q r : Nat) (e : Ending) (w' : World) : Prop :=
  ∃ A c B d, e = .returned (.tuple #[.slice A (limbs q).length c, .slice B (limbs r).length d]) ∧
    Own w.heap.size w' A c (limbs q) ∧ Own w.heap.size w' B d (limbs r) ∧ Below w.heap.size w w'

set_option maxHeartbeats 1000000 in
theorem divideByLimb_c (A : Option Addr) (us : List Nat) (c d : Nat) (w : World) (ha : Lim w A c us) (hs : us.length ≤ 70368744177664) (hd : 0 < d) (hd2 : d < 4294967296) :
    Calls Try.prog 112 #[.slice A us.length c, .int .u32 (d : Int)] w (RetTwo w (val us / d) (val us % d)) := by
  have hmk := mk_run (↑us.length) us.length rfl hs
  go_enter Try.func112, Try.ntmps112
  go_wp2_with fail
  go_loopw [6, 7] (fun t i wr => ∃ (k r : Nat) (zs : List Nat), k ≤ us.length ∧ i = .int .i64 ((k : Int) - 1) ∧ t = .int .u64 r ∧ r < d ∧ zs.length = us.length ∧ Lb zs ∧ Row wr w.heap.size zs ∧ Below w.heap.size w wr ∧ val (us.drop k) = d * val (zs.drop k) + r) (fun _ i _ => (intOf i + 1).toNat)
  case atStart => exact ⟨us.length, 0, zeros us.length, Nat.le_refl _, rfl, rfl, hd, zeros_length _, zeros_lb _, Row.new _ _, (Below.refl _ _).alloc (Nat.le_refl _) _, by rw [List.drop_length, List.drop_of_length_le (by rw [zeros_length]; exact Nat.le_refl _)]; simp [val]⟩
  case round =>
    obtain ⟨k, r, zs, hk, ht, rfl, hr, hl, hz, hrow, hbel, hv⟩ := hrel
    have HV := Lib.hid hv
    have HL := Lib.hid hl
    clear hv hl hmk
    rcases Nat.eq_zero_or_pos k with rfl | hp
    · subst ht
      have hq : val zs = val us / d ∧ r = val us % d := by
        have h1 := HV.out
        rw [List.drop_zero, List.drop_zero] at h1
        have h2 := (Nat.div_mod_unique (a := val us) (c := r) (d := val zs) hd).2 ⟨by rw [h1, Nat.add_comm], hr⟩
        exact ⟨h2.1.symm, h2.2.symm⟩
      have HQ := Lib.hid hq.1
      have HR := Lib.hid hq.2
      clear hq
      go_wp2_with fail
      refine (cut_own hrow hz (Nat.le_refl _) HL.out hs HQ.out hbel).mono ?_
      rintro e w1 ⟨A1, c1, rfl, r1, b1⟩
      go_wp2_with fail
      refine (FromUint64_c r _ (Nat.lt_trans hr (Nat.lt_trans hd2 (by decide)))).mono ?_
      rintro e w2 ⟨A2, c2, rfl, r2, b2⟩
      go_wp2
      go_ret2
      rw [← HR.out]
      exact ⟨A1, c1, A2, c2, rfl, r1.below b2, r2.mono b1.size, b1.trans (b2.mono b1.size)⟩
    · obtain ⟨m, rfl⟩ : ∃ m, k = m + 1 := ⟨k - 1, by omega⟩
      obtain rfl := ht.trans (show Value.int .i64 (((m + 1 : Nat) : Int) - 1) = .int .i64 (m : Int) by congr 1; omega)
      obtain ⟨b1, o1, rfl, hb1, hc1⟩ := ha.at_ (by omega)
      have hx := (hbel.cell (p := ⟨b1, o1 + m, none⟩) hb1).trans (hc1 m (by omega))
      have bx : us[m]?.getD 0 < 4294967296 := ha.lb.get m
      have hs1 := hrow.cell (i := m) (by rw [HL.out]; omega)
      have hs2 := hrow.frozen m
      have hstep := limb_step (us := us) (zs := zs) (m := m) (d := d) (rest := r) (by omega) (by rw [HL.out]; omega) HV.out
      obtain ⟨x, ex⟩ : ∃ x, us[m]?.getD 0 = x := ⟨_, rfl⟩
      rw [ex] at hx bx hstep
      clear ex hc1
      have hor := or_hi' x r bx (by omega)
      have hq := limb_q (x := x) (rest := r) (d := d) bx hr
      have ht2 := Nat.mod_lt (x + 4294967296 * r) hd
      obtain ⟨R, eR⟩ : ∃ R, x + 4294967296 * r = R := ⟨_, rfl⟩
      rw [eR] at hor hq ht2 hstep
      have hRb : R < 18446744073709551616 := by omega
      have e1 : (R : Int) / (d : Int) = ((R / d : Nat) : Int) := (Int.natCast_ediv R d).symm
      have e2 : (R : Int) % (d : Int) = ((R % d : Nat) : Int) := (Int.natCast_emod R d).symm
      obtain ⟨Q, eQ⟩ : ∃ Q, R / d = Q := ⟨_, rfl⟩
      obtain ⟨T, eT⟩ : ∃ T, R % d = T := ⟨_, rfl⟩
      rw [eQ] at hq e1 hstep
      rw [eT] at ht2 e2 hstep
      have e3 : (R : Int).tmod (d : Int) = (T : Int) := by rw [Int.tmod_eq_emod_of_nonneg (by omega)]; exact e2
      have e4 : (R : Int).tdiv (d : Int) = (Q : Int) := by rw [Int.tdiv_eq_ediv_of_nonneg (by omega)]; exact e1
      have hr2 := hrow.put m Q (z := (Q : Int)) rfl
      have HST := Lib.hid hstep
      have hne : ((d : Int) == 0) = false := by rw [beq_eq_false_iff_ne]; omega
      clear eR eQ eT hstep
      go_wp2
      go_roundw
      case rel => exact ⟨m, T, zs.set m Q, by omega, by go_num, rfl, ht2, by rw [List.length_set]; exact HL.out, hz.set _ _ hq, hr2, hbel.setCell (Nat.le_refl _) _, HST.out⟩
      case measure => simp [intOf]; try omega
/-- what the division by 0 returns -/
def RetDivNo (w : World) (e : Ending) (w' : World) : Prop := e = .returned (.tuple #[.slice none 0 0, .slice none 0 0, .bool false]) ∧ w = w'

set_option maxHeartbeats 400000 in
theorem DivMod_zero (A B : Option Addr) (xs ys : List Nat) (c d : Nat) (w : World) (ha : Lim w A c xs) (hb : Lim w B d ys) (h0 : val ys = 0) : Calls Try.prog 95 #[.slice A xs.length c, .slice B ys.length d] w (RetDivNo w) := by
  have hl : (limbs (val ys)).length = 0 := by rw [h0, limbs_zero]; rfl
  have HL := Lib.hid hl
  clear hl h0
  go_enter Try.func95, Try.ntmps95
  go_wp2_with fail
  refine (cut_c _ _ _ _ ha).mono ?_
  rintro e w' ⟨rfl, rfl⟩
  go_wp2_with fail
  refine (cut_c _ _ _ _ hb).mono ?_
  rintro e w' ⟨rfl, rfl⟩
  rw [HL.out]
  go_wp2
  go_ret3
  exact ⟨rfl, rfl⟩

set_option maxHeartbeats 400000 in
theorem DivMod_lt (A B : Option Addr) (xs ys : List Nat) (c d : Nat) (w : World) (ha : Lim w A c xs) (hb : Lim w B d ys) (hs : xs.length ≤ 70368744177664) (hlt : val xs < val ys) : Calls Try.prog 95 #[.slice A xs.length c, .slice B ys.length d] w (RetDiv w (val xs / val ys) (val xs % val ys)) := by
  have HQ := Lib.hid (Nat.div_eq_of_lt hlt)
  have HR := Lib.hid (Nat.mod_eq_of_lt hlt)
  have la := limbs_length_le ha.lb
  have lne : (((limbs (val ys)).length : Int) == 0) = false := by
    rw [beq_eq_false_iff_ne]
    intro e
    have := limbs_eq_nil.1 (List.eq_nil_of_length_eq_zero (show (limbs (val ys)).length = 0 by omega))
    omega
  have EC := Lib.hid (show cmpN (val (limbs (val xs))) (val (limbs (val ys))) = -1 by rw [val_limbs, val_limbs]; exact cmpN_lt hlt)
  clear hlt
  go_enter Try.func95, Try.ntmps95
  go_wp2_with fail
  refine (cut_c _ _ _ _ ha).mono ?_
  rintro e w' ⟨rfl, rfl⟩
  go_wp2_with fail
  refine (cut_c _ _ _ _ hb).mono ?_
  rintro e w' ⟨rfl, rfl⟩
  go_wp2_with fail
  refine (Compare_c _ _ _ _ _ _ _ ha.cut hb.cut).mono ?_
  rintro e w' ⟨rfl, n, rfl⟩
  rw [EC.out]
  go_wp2_with fail
  refine (Trim_c _ _ _ _ (ha.cut.drewN n) (by omega)).mono ?_
  rintro e w1 ⟨A1, c1, rfl, r1, b1⟩
  rw [val_limbs] at r1 ⊢
  go_wp2
  go_ret3
  rw [HQ.out, HR.out]
  exact ⟨none, 0, A1, c1, by rw [limbs_zero]; rfl, by rw [limbs_zero]; exact Own.nil _ _ _, r1, (below_drewN (Below.refl _ w) n).trans b1⟩

set_option maxHeartbeats 400000 in
theorem DivMod_limb (A B : Option Addr) (xs ys : List Nat) (c d : Nat) (w : World) (ha : Lim w A c xs) (hb : Lim w B d ys) (hs : xs.length ≤ 70368744177664) (hge : val ys ≤ val xs) (hbig : Ba * Ba ≤ val xs) (h1 : (limbs (val ys)).length = 1) : Calls Try.prog 95 #[.slice A xs.length c, .slice B ys.length d] w (RetDiv w (val xs / val ys) (val xs % val ys)) := by
  have la := limbs_length_le ha.lb
  have l2 : (2 : Int) < ((limbs (val xs)).length : Int) := by
    have : ¬ (limbs (val xs)).length ≤ 2 := fun h => by have := limbs_two.1 h; omega
    omega
  have ec : 0 ≤ cmpN (val (limbs (val xs))) (val (limbs (val ys))) := by
    rw [val_limbs, val_limbs]
    rcases Nat.lt_or_eq_of_le hge with h | h
    · rw [cmpN_gt h]; omega
    · rw [cmpN_eq h.symm]; omega
  obtain ⟨y, ey⟩ : ∃ y, limbs (val ys) = [y] := by
    obtain ⟨y, hy⟩ := List.length_eq_one_iff.1 h1
    exact ⟨y, hy⟩
  have evy : val ys = y := by rw [← val_limbs (val ys), ey]; simp [val]
  have hyb : y < 4294967296 := by
    have h : (limbs (val ys))[0]?.getD 0 < 4294967296 := (Lb_limbs (val ys)).get 0
    rw [ey] at h
    simpa using h
  have hy0 : 0 < y := by
    rcases Nat.eq_zero_or_pos y with h | h
    · exfalso
      rw [← evy] at h
      rw [h, limbs_zero] at ey
      cases ey
    · exact h
  have hlimb := hb.cut
  rw [ey] at hlimb
  obtain ⟨b1, o1, hB, hb1, hc1⟩ := hlimb.at_ (by simp)
  have hcell := hc1 0 (by simp)
  have hcell' : w.cell? ⟨b1, o1, none⟩ = some (.int .u32 (y : Int)) := by simpa using hcell
  have lne : (((limbs (val ys)).length : Int) == 0) = false := by rw [h1]; rfl
  have H1 := Lib.hid h1
  have EVY := Lib.hid evy
  clear hc1 hcell hlimb h1 evy ey hge hbig
  subst hB
  go_enter Try.func95, Try.ntmps95
  go_wp2_with fail
  refine (cut_c _ _ _ _ ha).mono ?_
  rintro e w' ⟨rfl, rfl⟩
  go_wp2_with fail
  refine (cut_c _ _ _ _ hb).mono ?_
  rintro e w' ⟨rfl, rfl⟩
  go_wp2_with fail
  refine (Compare_c _ _ _ _ _ _ _ ha.cut hb.cut).mono ?_
  rintro e w' ⟨rfl, n, rfl⟩
  generalize cmpN (val (limbs (val xs))) (val (limbs (val ys))) = z at *
  have ec' : ¬ z < 0 := by omega
  clear lne
  rw [H1.out]
  have l2' : ¬ (((limbs (val xs)).length : Int) ≤ 2) := by omega
  go_wp2_with fail
  refine (divideByLimb_c _ _ _ y _ (ha.cut.drewN n) (by omega) hy0 hyb).mono ?_
  rintro e w1 ⟨A1, c1, A2, c2, rfl, r1, r2, b1'⟩
  rw [val_limbs] at r1 r2 ⊢
  go_wp2
  go_ret3
  rw [EVY.out]
  exact ⟨A1, c1, A2, c2, rfl, r1, r2, (below_drewN (Below.refl _ w) n).trans b1'⟩


/- Contracts of package natural: the greatest common divisor of small numbers. -/

set_option maxHeartbeats 1000000 in
theorem GCD_small_ge (A B : Option Addr) (xs ys : List Nat) (c d : Nat) (w : World) (ha : Lim w A c xs) (hb : Lim w B d ys) (hge : val ys ≤ val xs) (h0 : val ys ≠ 0) (hsm : val xs < Ba * Ba) :
    Calls Try.prog 94 #[.slice A xs.length c, .slice B ys.length d] w (RetNat w (Nat.gcd (val xs) (val ys))) := by
  have l2 := limbs_two.2 hsm
  have l3 := limbs_mono hge
  have lp : 0 < (limbs (val ys)).length := List.length_pos_iff.2 (fun e => h0 (limbs_eq_nil.1 e))
  have ec : 0 ≤ cmpN (val (limbs (val xs))) (val (limbs (val ys))) := by
    rw [val_limbs, val_limbs]
    rcases Nat.lt_or_eq_of_le hge with h | h
    · rw [cmpN_gt h]; omega
    · rw [cmpN_eq h.symm]; omega
  go_enter Try.func94, Try.ntmps94
  go_wp2_with fail
  refine (cut_c _ _ _ _ ha).mono ?_
  rintro e w' ⟨rfl, rfl⟩
  go_wp2_with fail
  refine (cut_c _ _ _ _ hb).mono ?_
  rintro e w' ⟨rfl, rfl⟩
  go_wp2_with fail
  refine (Compare_c _ _ _ _ _ _ _ ha.cut hb.cut).mono ?_
  rintro e w' ⟨rfl, n, rfl⟩
  generalize cmpN (val (limbs (val xs))) (val (limbs (val ys))) = z at *
  have ec' : ¬ z < 0 := by omega
  go_wp2_with fail
  refine wp_loop_rounds 1 ?_
  rw [rounds_succ]
  go_wp2_with fail
  refine (word_c _ _ _ (w.drewN n) (ha.cut.drewN n) l2).mono ?_
  rintro e w' ⟨rfl, rfl⟩
  go_wp2_with fail
  refine (word_c _ _ _ (w.drewN n) (hb.cut.drewN n) (by omega)).mono ?_
  rintro e w' ⟨rfl, rfl⟩
  rw [val_limbs, val_limbs]
  have hB : Ba * Ba = 18446744073709551616 := by decide
  rw [hB] at hsm
  clear hB
  go_wp2_with fail
  go_loopw [5, 6] (fun s t wi => ∃ (x y k : Nat), s = .int .u64 x ∧ t = .int .u64 y ∧ x < 18446744073709551616 ∧ y < 18446744073709551616 ∧ Nat.gcd x y = Nat.gcd (val xs) (val ys) ∧ wi = w.drewN k) (fun _ t _ => (intOf t).toNat)
  case atStart => exact ⟨val xs, val ys, n, rfl, rfl, hsm, by omega, rfl, rfl⟩
  case round =>
    obtain ⟨x, y, k, rfl, rfl, hx, hy, hg, rfl⟩ := hrel
    have HG := Lib.hid hg
    clear hg
    rcases Nat.eq_zero_or_pos y with rfl | hp
    · have hg2 : Nat.gcd (val xs) (val ys) = x := by rw [← HG.out, Nat.gcd_zero_right]
      have HG2 := Lib.hid hg2
      clear hg2
      go_wp2_with fail
      refine (FromUint64_c x _ (by have hB : Ba * Ba = 18446744073709551616 := by decide
                                   omega)).mono ?_
      rintro e w1 ⟨A1, c1, rfl, r1, b1⟩
      go_wp2
      go_ret
      rw [HG2.out]
      exact ⟨A1, c1, rfl, r1, (below_drewN (Below.refl _ w) k).trans b1⟩
    · have hne : ((y : Int) != 0) = true := by rw [bne_iff_ne]; omega
      have hne2 : ((y : Int) == 0) = false := by rw [beq_eq_false_iff_ne]; omega
      have e3 : (x : Int).tmod (y : Int) = ((x % y : Nat) : Int) := by rw [Int.tmod_eq_emod_of_nonneg (by omega)]; rfl
      have hm := Nat.mod_lt x hp
      obtain ⟨T, eT⟩ : ∃ T, x % y = T := ⟨_, rfl⟩
      rw [eT] at e3 hm
      have ET := Lib.hid eT
      clear eT
      go_wp2
      go_quiet (fail)
      go_wp2
      go_roundw
      case rel => exact ⟨y, T, _, rfl, rfl, hy, by omega, by rw [← HG.out, ← ET.out, Nat.gcd_comm x y, Nat.gcd_rec y x, Nat.gcd_comm], World.drewN_drewN _ _ _⟩
      case measure => simp [intOf]; try omega

set_option maxHeartbeats 1000000 in
theorem GCD_small_lt (A B : Option Addr) (xs ys : List Nat) (c d : Nat) (w : World) (ha : Lim w A c xs) (hb : Lim w B d ys) (hlt : val xs < val ys) (h0 : val xs ≠ 0) (hsm : val ys < Ba * Ba) :
    Calls Try.prog 94 #[.slice A xs.length c, .slice B ys.length d] w (RetNat w (Nat.gcd (val xs) (val ys))) := by
  have l2 := limbs_two.2 hsm
  have l3 := limbs_mono (Nat.le_of_lt hlt)
  have lp : 0 < (limbs (val xs)).length := List.length_pos_iff.2 (fun e => h0 (limbs_eq_nil.1 e))
  have ec : cmpN (val (limbs (val xs))) (val (limbs (val ys))) = -1 := by
    rw [val_limbs, val_limbs]; exact cmpN_lt hlt
  have EC := Lib.hid ec
  clear ec
  go_enter Try.func94, Try.ntmps94
  go_wp2_with fail
  refine (cut_c _ _ _ _ ha).mono ?_
  rintro e w' ⟨rfl, rfl⟩
  go_wp2_with fail
  refine (cut_c _ _ _ _ hb).mono ?_
  rintro e w' ⟨rfl, rfl⟩
  go_wp2_with fail
  refine (Compare_c _ _ _ _ _ _ _ ha.cut hb.cut).mono ?_
  rintro e w' ⟨rfl, n, rfl⟩
  rw [EC.out]
  go_wp2_with fail
  refine wp_loop_rounds 1 ?_
  rw [rounds_succ]
  go_wp2_with fail
  refine (word_c _ _ _ (w.drewN n) (hb.cut.drewN n) l2).mono ?_
  rintro e w' ⟨rfl, rfl⟩
  go_wp2_with fail
  refine (word_c _ _ _ (w.drewN n) (ha.cut.drewN n) (by omega)).mono ?_
  rintro e w' ⟨rfl, rfl⟩
  rw [val_limbs, val_limbs]
  have hB : Ba * Ba = 18446744073709551616 := by decide
  rw [hB] at hsm
  clear hB
  go_wp2_with fail
  go_loopw [5, 6] (fun s t wi => ∃ (x y k : Nat), s = .int .u64 x ∧ t = .int .u64 y ∧ x < 18446744073709551616 ∧ y < 18446744073709551616 ∧ Nat.gcd x y = Nat.gcd (val xs) (val ys) ∧ wi = w.drewN k) (fun _ t _ => (intOf t).toNat)
  case atStart => exact ⟨val ys, val xs, n, rfl, rfl, hsm, by omega, Nat.gcd_comm _ _, rfl⟩
  case round =>
    obtain ⟨x, y, k, rfl, rfl, hx, hy, hg, rfl⟩ := hrel
    have HG := Lib.hid hg
    clear hg
    rcases Nat.eq_zero_or_pos y with rfl | hp
    · have hg2 : Nat.gcd (val xs) (val ys) = x := by rw [← HG.out, Nat.gcd_zero_right]
      have HG2 := Lib.hid hg2
      clear hg2
      go_wp2_with fail
      refine (FromUint64_c x _ (by have hB : Ba * Ba = 18446744073709551616 := by decide
                                   omega)).mono ?_
      rintro e w1 ⟨A1, c1, rfl, r1, b1⟩
      go_wp2
      go_ret
      rw [HG2.out]
      exact ⟨A1, c1, rfl, r1, (below_drewN (Below.refl _ w) k).trans b1⟩
    · have hne : ((y : Int) != 0) = true := by rw [bne_iff_ne]; omega
      have hne2 : ((y : Int) == 0) = false := by rw [beq_eq_false_iff_ne]; omega
      have e3 : (x : Int).tmod (y : Int) = ((x % y : Nat) : Int) := by rw [Int.tmod_eq_emod_of_nonneg (by omega)]; rfl
      have hm := Nat.mod_lt x hp
      obtain ⟨T, eT⟩ : ∃ T, x % y = T := ⟨_, rfl⟩
      rw [eT] at e3 hm
      have ET := Lib.hid eT
      clear eT
      go_wp2
      go_quiet (fail)
      go_wp2
      go_roundw
      case rel => exact ⟨y, T, _, rfl, rfl, hy, by omega, by rw [← HG.out, ← ET.out, Nat.gcd_comm x y, Nat.gcd_rec y x, Nat.gcd_comm], World.drewN_drewN _ _ _⟩
      case measure => simp [intOf]; try omega

end Go.Proofs.Ytaeidephegnkdaa
