/- Regions, loops, functions: the executor is sound. -/
import Derived.Test.YtnjannpoemdbaaaGreatVB
namespace Go.Vx
open Go Go.RowKit Go.Proofs.YtnjannpoemdbaaaGreat Gm
section
variable {P : Program} {own0 ext : Nat → Prop} {w0 w : World} {s : St} {E : Env} {a : Act} {o : Oper} {C : Ctx}
/-- a value, and the value that a guard's split leaves -/
def GRel (g : Bool) (v v' : Av) : Prop := match g with
  | false => v' = v
  | true => (∃ c, v = .val (.bool c) ∧ v' = .kb c) ∨ (∃ c, v = .kb c ∧ v' = .kb c)
theorem GRel.ok {g : Bool} {v v' : Av} (h : GRel g v v') {own : Nat → Prop} {vs : List Value} (hv : Ok E own w v vs) : Ok E own w v' vs := by
  cases g with
  | false => simp only [GRel] at h; rw [h]; exact hv
  | true =>
    rcases h with ⟨c, rfl, rfl⟩ | ⟨c, rfl, rfl⟩
    · exact hv
    · exact hv
theorem Con.guard {g : Bool} {v v' : Av} (hg : GRel g v v') {dst : Option Nat} (h : Con own0 ext w0 (s.put' dst v) E a w) : Con own0 ext w0 (s.put' dst v') E a w := by
  cases dst with
  | none => exact h
  | some d =>
    obtain ⟨tm, ob⟩ := s
    refine ⟨h.dfs, by have := h.len; simpa [St.put'] using this, by have := h.olen; simpa [St.put'] using this, fun t ht => ?_, h.objs, h.apart, h.new, h.frame, h.out, h.pin⟩
    have h1 := h.slots t (by simpa [St.put'] using ht)
    simp only [St.put'] at h1 ⊢
    rw [slot_set] at h1 ⊢
    by_cases hd : d = t ∧ d < tm.length
    · rw [if_pos hd] at h1 ⊢; exact hg.ok h1
    · rw [if_neg hd] at h1 ⊢; exact h1
theorem Res.guard {g : Bool} {v v' : Av} (hg : GRel g v v') {u : List (Nat × Ob)} (h : Res P own0 ext w0 s a w o v u) : Res P own0 ext w0 s a w o v' u := by
  intro K Q hK
  refine h K Q fun E' a' w' hc => hK E' a' w' ?_
  rw [after_put] at hc ⊢
  exact hc.guard hg
/-- what a step of the executor says -/
structure StepInfo (s : St) (al g : Bool) (dst : Option Nat) (m af : Nat) (out : Out) (v : Av) (r : Rec) : Prop where
  nw : out.new = true → ∃ d, dst = some d ∧ s.FreeO al d ∧ d < s.tm.length
  vc : vcT out.vc
  gr : GRel g out.dst v
  rd : r.rd = m
  af : r.af = af
  wr : ∀ i, r.wr.testBit i = ((wrDst dst).testBit i || out.objs.any (fun p => 2 * p.1 + 1 == i))
  ids : ∀ i, r.ids.testBit i = (v.names i || out.objs.any (·.2.names i))
  new : ∀ i, r.new.testBit i = true ↔ out.new = true ∧ dst = some i
theorem inRange_lt {α : Type} : ∀ {l : List α} {d : Nat}, inRange l d = true → d < l.length := by
  intro l
  induction l with
  | nil => intro d h; cases h
  | cons x l ih =>
    intro d h
    cases d with
    | zero => simp
    | succ d => simpa using ih h
theorem newM_iff (nw : Bool) (dst : Option Nat) (i : Nat) : (newM nw dst).testBit i = true ↔ nw = true ∧ dst = some i := by
  cases nw with
  | false => simp [newM]
  | true =>
    cases dst with
    | none => simp [newM]
    | some d => simp [newM, bit_tb]
theorem stepK_ok {al g : Bool} {dst : Option Nat} {m af : Nat} {k : Rec → St → Prop} {out : Out} (h : stepK s al g dst m af k out) : ∃ v r, StepInfo s al g dst m af out v r ∧ k r (s.after' dst v out.objs) := by
  obtain ⟨v, u, nw, vc⟩ := out
  simp only [stepK] at h
  have h1 : (nw = true → ∃ d, dst = some d ∧ s.FreeO al d ∧ d < s.tm.length) ∧ wrObjs (fun wr => vcAnd vc (guardK g v fun v => v.ids (idObjs (fun ids => s.after dst v u (k ⟨m, wr, ids, newM nw dst, af⟩)) u) 0)) u (wrDst dst) := by
    cases nw with
    | false => exact ⟨(by intro h; cases h), by simpa only [freeIf] using h⟩
    | true =>
      cases dst with
      | none => exact h.elim
      | some d =>
        simp only [freeIf] at h
        cases hr : inRange s.tm d with
        | false => rw [hr] at h; exact h.elim
        | true =>
          rw [hr] at h
          cases al with
          | true =>
            obtain ⟨hf, h⟩ := freeW_iff s d _ h
            exact ⟨fun _ => ⟨d, rfl, hf, inRange_lt hr⟩, h⟩
          | false =>
            obtain ⟨hf, h⟩ := free_iff s d _ h
            exact ⟨fun _ => ⟨d, rfl, hf.o false, inRange_lt hr⟩, h⟩
  obtain ⟨hnw, h⟩ := h1
  obtain ⟨wr, e1, t1⟩ := wrObjs_k u (fun wr => vcAnd vc (guardK g v fun v => v.ids (idObjs (fun ids => s.after dst v u (k ⟨m, wr, ids, newM nw dst, af⟩)) u) 0)) (wrDst dst)
  rw [e1] at h
  have h2 : vcT vc ∧ guardK g v fun v => v.ids (idObjs (fun ids => s.after dst v u (k ⟨m, wr, ids, newM nw dst, af⟩)) u) 0 := by
    cases vc with
    | none => exact ⟨trivial, h⟩
    | some p => exact h
  obtain ⟨hvc, h⟩ := h2
  have h3 : ∃ v', GRel g v v' ∧ v'.ids (idObjs (fun ids => s.after dst v' u (k ⟨m, wr, ids, newM nw dst, af⟩)) u) 0 := by
    cases g with
    | false => exact ⟨v, rfl, h⟩
    | true =>
      cases v with
      | kb c => exact ⟨.kb c, .inr ⟨c, rfl, rfl⟩, h⟩
      | val x =>
        cases x with
        | bool c =>
          obtain ⟨ha, hb⟩ := h
          cases c with
          | true => exact ⟨.kb true, .inl ⟨true, rfl, rfl⟩, ha rfl⟩
          | false => exact ⟨.kb false, .inl ⟨false, rfl, rfl⟩, hb rfl⟩
        | _ => exact h.elim
      | _ => exact h.elim
  obtain ⟨v', hg, h⟩ := h3
  obtain ⟨m1, e2, t2⟩ := ids_k v' (idObjs (fun ids => s.after dst v' u (k ⟨m, wr, ids, newM nw dst, af⟩)) u) 0
  rw [e2] at h
  obtain ⟨m2, e3, t3⟩ := idObjs_k u (fun ids => s.after dst v' u (k ⟨m, wr, ids, newM nw dst, af⟩)) m1
  rw [e3, after_eq] at h
  exact ⟨v', _, ⟨hnw, hvc, hg, rfl, rfl, t1, fun i => by rw [t3, t2]; simp, newM_iff nw dst⟩, h⟩
/-- the guard's value: the operation is not wanted -/
def NotW (want : Bool) (v : Av) : Prop := (∃ b, v = .kb b ∧ b ≠ want) ∨ v = .tup .nil
/-- one operation: what is said of it, whatever the order -/
inductive StepOf (C : Ctx) (all : List Oper) (i : Nat) (s : St) (dst : Option Nat) (op : Op) (g : Option (Nat × Bool)) (af : Nat) : Av → List (Nat × Ob) → Rec → Prop where
  | skip {j : Nat} {want : Bool} {p : Oper} {d : Nat} (hg : g = some (j, want)) (hj : all[j]? = some p) (hp : p.dst = some d) (hs : NotW want (s.slot d)) : StepOf C all i s dst op g af (.tup .nil) [] ⟨bit (2 * d), wrDst dst, 0, 0, af⟩
  | run {m : Nat} {out : OutG} {o : Out} {v : Av} {r : Rec} (hw : (g = none ∧ m = 0) ∨ ∃ j want p d, g = some (j, want) ∧ all[j]? = some p ∧ p.dst = some d ∧ s.slot d = .kb want ∧ m = bit (2 * d))
      (he : (aop C (dstN dst) op).eval s = some out) (ho : out = .mk o ∨ ∃ G u p r x, out = .gh G u p r ∧ o = ⟨r x, u, false, some (p x)⟩) (hi : StepInfo s (isAlloc op) (isGuard i all) dst ((aop C (dstN dst) op).reads s m) af o v r) : StepOf C all i s dst op g af v o.objs r
theorem awpR_step {all : List Oper} {draw : Bool} {base : Nat} {k : St → Prop} {dst : Option Nat} {op : Op} {ty : TypeId} {pos : String} {af : List Edge} {g : Option (Nat × Bool)} {os : List Oper} {i : Nat} {rs : List Rec}
    (h : awpR C all draw base k (⟨dst, op, ty, pos, ⟨af⟩, g⟩ :: os) i rs s) : ∃ v u r, StepOf C all i s dst op g (afters af 0) v u r ∧ awpR C all draw base k os (i + 1) (r :: rs) (s.after' dst v u) := by
  simp only [awpR] at h
  have hyes : ∀ m, ((g = none ∧ m = 0) ∨ ∃ j want p d, g = some (j, want) ∧ all[j]? = some p ∧ p.dst = some d ∧ s.slot d = .kb want ∧ m = bit (2 * d)) →
      runR s (fun out m => match out with
        | .mk o => stepK s (isAlloc op) (isGuard i all) dst m (afters af 0) (fun r => awpR C all draw base k os (i + 1) (r :: rs)) o
        | .gh G u p r => ∃ x : G, stepK s (isAlloc op) (isGuard i all) dst m (afters af 0) (fun r => awpR C all draw base k os (i + 1) (r :: rs)) ⟨r x, u, false, some (p x)⟩) (aop C (dstN dst) op) m →
      ∃ v u r, StepOf C all i s dst op g (afters af 0) v u r ∧ awpR C all draw base k os (i + 1) (r :: rs) (s.after' dst v u) := by
    intro m hm hr
    obtain ⟨out, he, h2⟩ := runR_iff s _ _ _ hr
    cases out with
    | mk o =>
      obtain ⟨v, r, hi, hk⟩ := stepK_ok h2
      exact ⟨v, o.objs, r, .run hm he (.inl rfl) hi, hk⟩
    | gh G u p r =>
      obtain ⟨x, h2⟩ := h2
      obtain ⟨v, r', hi, hk⟩ := stepK_ok h2
      exact ⟨v, u, r', .run hm he (.inr ⟨G, u, p, r, x, rfl, rfl⟩) hi, hk⟩
  unfold wantK at h
  cases g with
  | none => exact hyes 0 (.inl ⟨rfl, rfl⟩) h
  | some jw =>
    obtain ⟨j, want⟩ := jw
    simp only at h
    rw [nth_eq] at h
    cases hj : all[j]? with
    | none => rw [hj] at h; exact h.elim
    | some p =>
      obtain ⟨pd, p2, p3, p4, p5, p6⟩ := p
      rw [hj] at h
      cases pd with
      | none => exact h.elim
      | some d =>
        simp only at h
        rw [getK_eq] at h
        have hsl : s.tm.getD d .any = s.slot d := rfl
        rw [hsl] at h
        cases hs : s.slot d with
        | kb b =>
          rw [hs] at h
          have hskip : b ≠ want → s.put dst (.tup .nil) (awpR C all draw base k os (i + 1) (⟨bit (2 * d), wrDst dst, 0, 0, afters af 0⟩ :: rs)) → ∃ v u r, StepOf C all i s dst op (some (j, want)) (afters af 0) v u r ∧ awpR C all draw base k os (i + 1) (r :: rs) (s.after' dst v u) := by
            intro hb h
            rw [put_eq] at h
            exact ⟨.tup .nil, [], _, .skip rfl hj rfl (.inl ⟨b, hs, hb⟩), h⟩
          cases b with
          | true =>
            cases want with
            | true => exact hyes _ (.inr ⟨j, true, _, d, rfl, hj, rfl, hs, rfl⟩) h
            | false => exact hskip (by simp) h
          | false =>
            cases want with
            | true => exact hskip (by simp) h
            | false => exact hyes _ (.inr ⟨j, false, _, d, rfl, hj, rfl, hs, rfl⟩) h
        | tup cs =>
          rw [hs] at h
          cases cs with
          | nil =>
            have h : s.put dst (.tup .nil) (awpR C all draw base k os (i + 1) (⟨bit (2 * d), wrDst dst, 0, 0, afters af 0⟩ :: rs)) := h
            rw [put_eq] at h
            exact ⟨.tup .nil, [], _, .skip rfl hj rfl (.inr hs), h⟩
          | _ => exact h.elim
        | _ => rw [hs] at h; exact h.elim
/-- what the step says, done: in any state that agrees with the text's one where it reads -/
theorem StepOf.wp {all : List Oper} {i : Nat} {af : Nat} {v : Av} {u : List (Nat × Ob)} {r : Rec} {s2 : St} (hC : CtxOk P C) (ho : all[i]? = some o) (hz : ∀ c, ext c → o.dst ≠ some 0) (h : StepOf C all i s o.dst o.op o.guard af v u r) (hag : Agr r.rd s s2) (hnew : ∀ d, r.new.testBit d = true → s2.FreeO (isAlloc o.op) d ∧ d < s2.tm.length) (hc : Con own0 ext w0 s2 E a w)
    {K : Act → World → Prop} {Q : Exit → Act → World → Prop} (hK : ∀ E' a' w', Con own0 ext w0 (s2.after' o.dst v u) E' a' w' → K a' w') : wpOp P ⟨all⟩ Q i K a w := by
  have hoi : (⟨all⟩ : Array Oper)[i]? = some o := by simpa using ho
  unfold wpOp
  rw [hoi]
  simp only
  have hy : ∀ j want p d b, o.guard = some (j, want) → all[j]? = some p → p.dst = some d → s2.slot d = .kb b → Region.wanted o (yielded ⟨all⟩ a.tmps) = (b == want) := by
    intro j want p d b hg hj hp hs
    have hlt : d < s2.tm.length := by
      rcases Nat.lt_or_ge d s2.tm.length with h | h
      · exact h
      · have : s2.slot d = .any := by simp [St.slot, List.getD_eq_getElem?_getD, List.getElem?_eq_none_iff.2 h]
        rw [this] at hs; cases hs
    have hd : a.tmps[d]? = some (.bool b) := by
      have := hc.slots d hlt
      rw [hs] at this
      have h2 := kb_of this
      have h3 : d < a.tmps.size := by rw [hc.len]; exact hlt
      rw [Array.getD_eq_getD_getElem?, Array.getElem?_eq_getElem h3] at h2
      rw [Array.getElem?_eq_getElem h3]
      exact congrArg some h2
    have hjj : (⟨all⟩ : Array Oper)[j]? = some p := by simpa using hj
    simp only [Region.wanted, hg, yielded, hjj, hp, Option.bind_some, hd]
    cases b <;> cases want <;> rfl
  cases h with
  | @skip j want p d hg hj hp hs =>
    have hs2 : NotW want (s2.slot d) := by
      have e : s2.slot d = s.slot d := hag.1 d (by rw [bit_tb]; simp)
      rw [e]; exact hs
    have hno : Region.wanted o (yielded ⟨all⟩ a.tmps) = false := by
      rcases hs2 with ⟨b, hb1, hb2⟩ | hu
      · rw [hy _ _ _ _ _ hg hj hp hb1]; exact beq_eq_false_iff_ne.2 hb2
      · have hlt : d < s2.tm.length := by
          rcases Nat.lt_or_ge d s2.tm.length with h | h
          · exact h
          · have : s2.slot d = .any := by simp [St.slot, List.getD_eq_getElem?_getD, List.getElem?_eq_none_iff.2 h]
            rw [this] at hu; cases hu
        have hd : a.tmps[d]? = some (.tuple #[]) := by
          have := hc.slots d hlt
          rw [hu] at this
          obtain ⟨us, e1, e2⟩ := this
          simp only [Ok] at e2
          subst e2
          simp at e1
          have h3 : d < a.tmps.size := by rw [hc.len]; exact hlt
          rw [Array.getElem?_eq_getElem h3] at e1
          rw [Array.getElem?_eq_getElem h3]
          exact congrArg some e1
        have hjj : (⟨all⟩ : Array Oper)[j]? = some p := by simpa using hj
        simp only [Region.wanted, hg, yielded, hjj, hp, Option.bind_some, hd]
        cases want <;> rfl
    rw [hno]
    simp only [Bool.false_eq_true, if_false]
    exact hK E _ _ (hc.put o.dst ⟨[], rfl, rfl⟩)
  | @run m out oo _ _ hw he hoo hi =>
    have hrd := hi.rd
    rw [hrd] at hag
    have hwant : Region.wanted o (yielded ⟨all⟩ a.tmps) = true := by
      rcases hw with ⟨hg, _⟩ | ⟨j, want, p, d, hg, hj, hp, hs, hm⟩
      · simp [Region.wanted, hg]
      · have hs2 : s2.slot d = .kb want := (hag.1 d (reads_mono _ _ _ _ (by rw [hm, bit_tb]; simp))).trans hs
        rw [hy _ _ _ _ _ hg hj hp hs2]; simp
    rw [hwant]
    simp only [if_true]
    refine .inl ?_
    have he2 : (aop C (dstN o.dst) o.op).eval s2 = some out := (eval_frame s s2 _ m hag).trans he
    have hres := aop_ok hC hc he2
    have hnw : oo.new = true → ∃ d, o.dst = some d ∧ s2.FreeO (isAlloc o.op) d ∧ d < s2.tm.length ∧ ∀ c, ext c → d ≠ 0 := by
      intro hn
      obtain ⟨d, hd, _⟩ := hi.nw hn
      have h3 := hnew d ((hi.new d).2 ⟨hn, hd⟩)
      exact ⟨d, hd, h3.1, h3.2, fun c hc e => hz c hc (by rw [hd, e])⟩
    rcases hoo with rfl | ⟨G, u', p, r', x, rfl, rfl⟩
    · obtain ⟨v0, u0, nw, vc⟩ := oo
      exact (Res.guard hi.gr (hres hi.vc hnw)) K Q hK
    · exact (Res.guard hi.gr (hres x hi.vc)) K Q hK
theorem StepOf.new {all : List Oper} {i : Nat} {dst : Option Nat} {op : Op} {g : Option (Nat × Bool)} {af : Nat} {v : Av} {u : List (Nat × Ob)} {r : Rec} (h : StepOf C all i s dst op g af v u r) : ∀ d, r.new.testBit d = true → dst = some d ∧ s.FreeO (isAlloc op) d ∧ d < s.tm.length := by
  intro d hd
  cases h with
  | skip => simp at hd
  | run hw he hoo hi =>
    obtain ⟨h1, h2⟩ := (hi.new d).1 hd
    obtain ⟨d', h3, h4⟩ := hi.nw h1
    rw [h2] at h3
    cases h3
    exact ⟨h2, h4⟩
/-- a region in the order of its text -/
theorem awpR_seq (hC : CtxOk P C) {all : List Oper} (hz : ∀ c, ext c → ∀ o ∈ all, o.dst ≠ some 0) {base : Nat} {k : St → Prop} {Q : Exit → Act → World → Prop} (hk : ∀ s' E' a' w', k s' → Con own0 ext w0 s' E' a' w' → Q .normal a' w') : ∀ (os : List Oper) (i : Nat) (rs : List Rec) (s : St) (E : Env) (a : Act) (w : World), (∀ j, os[j]? = all[i + j]?) → awpR C all false base k os i rs s → Con own0 ext w0 s E a w → wpOps P ⟨all⟩ Q (List.range' i os.length) a w := by
  intro os
  induction os with
  | nil =>
    intro i rs s E a w _ h hc
    exact hk s E a w h hc
  | cons o os ih =>
    intro i rs s E a w hos h hc
    obtain ⟨dst, op, ty, pos, ⟨af⟩, g⟩ := o
    obtain ⟨v, u, r, hst, h⟩ := awpR_step h
    have ho : all[i]? = some ⟨dst, op, ty, pos, ⟨af⟩, g⟩ := by have := hos 0; simpa using this.symm
    rw [List.length_cons, List.range'_succ, wpOps_cons]
    refine StepOf.wp (o := ⟨dst, op, ty, pos, ⟨af⟩, g⟩) hC ho (fun c hc => hz c hc _ (List.mem_of_getElem? ho)) hst ⟨fun _ _ => rfl, fun _ _ => rfl⟩ (fun d hd => (hst.new d hd).2) hc fun E' a' w' hc' => ?_
    exact ih (i + 1) _ _ E' a' w' (fun j => by have := hos (j + 1); simpa [Nat.add_assoc, Nat.add_comm 1] using this) h hc'
end

/-- the last value that was written ahead of n -/
def lastW {α : Type} (W : Nat → Option α) (L : Nat → Bool) (d : α) : Nat → α
  | 0 => d
  | n + 1 => match L n, W n with
    | true, some v => v
    | _, _ => lastW W L d n
theorem lastW_congr {α : Type} {W : Nat → Option α} {L L' : Nat → Bool} {d : α} : ∀ {n : Nat}, (∀ j, j < n → W j ≠ none → L j = L' j) → lastW W L d n = lastW W L' d n := by
  intro n
  induction n with
  | zero => intro _; rfl
  | succ n ih =>
    intro h
    have hi := ih fun j hj => h j (by omega)
    simp only [lastW]
    cases hw : W n with
    | none => cases L n <;> cases L' n <;> exact hi
    | some v =>
      rw [h n (by omega) (by rw [hw]; simp)]
      cases L' n
      · exact hi
      · rfl
theorem lastW_at {α : Type} {W : Nat → Option α} {L : Nat → Bool} {d v : α} {i : Nat} (hi : L i = true) (hw : W i = some v) : ∀ {n : Nat}, i < n → (∀ j, i < j → j < n → W j ≠ none → L j = false) → lastW W L d n = v := by
  intro n
  induction n with
  | zero => intro h; omega
  | succ n ih =>
    intro hlt h
    simp only [lastW]
    by_cases e : i = n
    · subst e; rw [hi, hw]
    · have hr := ih (by omega) fun j h1 h2 => h j h1 (by omega)
      cases hwn : W n with
      | none => cases L n <;> exact hr
      | some v' =>
        rw [h n (by omega) (by omega) (by rw [hwn]; simp)]
        exact hr
theorem lastW_pre {α : Type} {W : Nat → Option α} {d : α} {i : Nat} : ∀ {n : Nat}, i ≤ n → lastW W (fun j => decide (j < i)) d n = lastW W (fun _ => true) d i := by
  intro n
  induction n with
  | zero => intro h; have : i = 0 := by omega
            subst this; rfl
  | succ n ih =>
    intro h
    by_cases e : i = n + 1
    · subst e
      exact lastW_congr fun j hj _ => by simpa using hj
    · simp only [lastW]
      have : decide (n < i) = false := by simp; omega
      rw [this]
      exact ih (by omega)
/-- the last entry of a block -/
def ulast : List (Nat × Ob) → Nat → Option Ob
  | [], _ => none
  | (i, o) :: l, k => match ulast l k with
    | some o' => some o'
    | none => if i = k then some o else none
theorem puts_last : ∀ (u : List (Nat × Ob)) (s : St) (k : Nat), k < s.ob.length → (s.puts' u).obj k = (ulast u k).getD (s.obj k) := by
  intro u
  induction u with
  | nil => intro s k _; rfl
  | cons p u ih =>
    obtain ⟨i, o⟩ := p
    intro s k hk
    have h1 := ih ⟨s.tm, s.ob.set i o⟩ k (by simpa using hk)
    simp only [St.puts']
    rw [h1, obj_set]
    simp only [ulast]
    cases hu : ulast u k with
    | some o' => rfl
    | none =>
      by_cases e : i = k
      · subst e; simp [hk]
      · simp [e]
theorem ulast_none {u : List (Nat × Ob)} {k : Nat} (h : u.any (fun p => 2 * p.1 + 1 == 2 * k + 1) = false) : ulast u k = none := by
  induction u with
  | nil => rfl
  | cons p u ih =>
    obtain ⟨i, o⟩ := p
    simp only [List.any_cons, Bool.or_eq_false_iff] at h
    simp only [ulast, ih h.2]
    have : i ≠ k := by intro e; subst e; simp at h
    rw [if_neg this]
/-- a step of the text -/
structure Stp where
  o : Oper
  v : Av
  u : List (Nat × Ob)
  r : Rec
def stAt (s0 : St) (ts : List Stp) : Nat → St
  | 0 => s0
  | i + 1 => match ts[i]? with
    | some t => (stAt s0 ts i).after' t.o.dst t.v t.u
    | none => stAt s0 ts i
def afE (o : Oper) : Nat := afters o.after.toList 0
def Good (C : Ctx) (all : List Oper) (s0 : St) (ts : List Stp) (i : Nat) (t : Stp) : Prop :=
  all[i]? = some t.o ∧ StepOf C all i (stAt s0 ts i) t.o.dst t.o.op t.o.guard (afE t.o) t.v t.u t.r
theorem stAt_app (s0 : St) (ts : List Stp) (t : Stp) : ∀ (i : Nat), i ≤ ts.length → stAt s0 (ts ++ [t]) i = stAt s0 ts i := by
  intro i
  induction i with
  | zero => intro _; rfl
  | succ i ih =>
    intro h
    simp only [stAt]
    rw [ih (by omega), List.getElem?_append_left (by omega)]
section
variable {P : Program} {own0 ext : Nat → Prop} {w0 : World} {C : Ctx}
theorem awpR_trace {all : List Oper} {base : Nat} {k : St → Prop} {s0 : St} : ∀ (os : List Oper) (i : Nat) (ts : List Stp), (∀ j, os[j]? = all[i + j]?) → ts.length = i → (∀ j t, ts[j]? = some t → Good C all s0 ts j t) → awpR C all true base k os i (ts.map (·.r)).reverse (stAt s0 ts i) →
    ∃ ts' : List Stp, ts'.length = i + os.length ∧ (∀ j t, ts'[j]? = some t → Good C all s0 ts' j t) ∧ okAll base (ts'.map (·.r)) [] [] 0 = true ∧ k (stAt s0 ts' ts'.length) := by
  intro os
  induction os with
  | nil =>
    intro i ts _ hl hg h
    simp only [awpR, List.reverse_reverse] at h
    exact ⟨ts, by simpa using hl, hg, h.1, by rw [hl]; exact h.2⟩
  | cons o os ih =>
    intro i ts hos hl hg h
    obtain ⟨dst, op, ty, pos, ⟨af⟩, g⟩ := o
    obtain ⟨v, u, r, hst, h⟩ := awpR_step h
    have ho : all[i]? = some ⟨dst, op, ty, pos, ⟨af⟩, g⟩ := by have := hos 0; simpa using this.symm
    have hlast : stAt s0 (ts ++ [⟨⟨dst, op, ty, pos, ⟨af⟩, g⟩, v, u, r⟩]) (i + 1) = (stAt s0 ts i).after' dst v u := by
      simp only [stAt]
      rw [stAt_app s0 ts _ i (by omega), List.getElem?_append_right (by omega), hl]
      simp
    obtain ⟨ts', h1, h2⟩ := ih (i + 1) (ts ++ [⟨⟨dst, op, ty, pos, ⟨af⟩, g⟩, v, u, r⟩]) (fun j => by have := hos (j + 1); simpa [Nat.add_assoc, Nat.add_comm 1] using this) (by simp [hl]) (by
      intro j t hj
      by_cases hlt : j < ts.length
      · rw [List.getElem?_append_left hlt] at hj
        have := hg j t hj
        unfold Good at this ⊢
        rw [stAt_app s0 ts _ j (by omega)]
        exact this
      · have hje : j = ts.length := by
          rcases Nat.lt_or_ge j (ts.length + 1) with h | h
          · omega
          · rw [List.getElem?_eq_none_iff.2 (by simp; omega)] at hj; cases hj
        subst hje
        rw [List.getElem?_append_right (Nat.le_refl _), Nat.sub_self] at hj
        simp at hj
        subst hj
        unfold Good
        rw [stAt_app s0 ts _ _ (Nat.le_refl _), hl]
        exact ⟨ho, hst⟩) (by rw [hlast]; simpa using h)
    exact ⟨ts', by simp only [List.length_cons]; omega, h2⟩
/-- what is written by step j -/
def wSlot (ts : List Stp) (t : Nat) (j : Nat) : Option Av := match ts[j]? with
  | some st => if st.o.dst = some t then some st.v else none
  | none => none
def wObj (ts : List Stp) (k : Nat) (j : Nat) : Option Ob := match ts[j]? with
  | some st => ulast st.u k
  | none => none
/-- the state when the steps L are done -/
def stL (s0 : St) (ts : List Stp) (L : Nat → Bool) : St :=
  ⟨(List.range s0.tm.length).map (fun t => lastW (wSlot ts t) L (s0.slot t) ts.length), (List.range s0.ob.length).map (fun k => lastW (wObj ts k) L (s0.obj k) ts.length)⟩
theorem stL_slot (s0 : St) (ts : List Stp) (L : Nat → Bool) (t : Nat) : (stL s0 ts L).slot t = if t < s0.tm.length then lastW (wSlot ts t) L (s0.slot t) ts.length else .any := by
  unfold St.slot stL
  by_cases h : t < s0.tm.length
  · rw [if_pos h]; simp only [List.getD_eq_getElem?_getD, List.getElem?_map, List.getElem?_range h]; rfl
  · rw [if_neg h]; simp [List.getD_eq_getElem?_getD, h]
theorem stL_obj (s0 : St) (ts : List Stp) (L : Nat → Bool) (t : Nat) : (stL s0 ts L).obj t = if t < s0.ob.length then lastW (wObj ts t) L (s0.obj t) ts.length else .none := by
  unfold St.obj stL
  by_cases h : t < s0.ob.length
  · rw [if_pos h]; simp only [List.getD_eq_getElem?_getD, List.getElem?_map, List.getElem?_range h]; rfl
  · rw [if_neg h]; simp [List.getD_eq_getElem?_getD, h]
theorem slot_out {s : St} {t : Nat} (h : ¬ t < s.tm.length) : s.slot t = .any := by simp [St.slot, List.getD_eq_getElem?_getD, List.getElem?_eq_none_iff.2 (Nat.le_of_not_lt h)]
theorem obj_out {s : St} {t : Nat} (h : ¬ t < s.ob.length) : s.obj t = .none := by simp [St.obj, List.getD_eq_getElem?_getD, List.getElem?_eq_none_iff.2 (Nat.le_of_not_lt h)]
theorem after_lens (s : St) (dst : Option Nat) (v : Av) (u : List (Nat × Ob)) : (s.after' dst v u).tm.length = s.tm.length ∧ (s.after' dst v u).ob.length = s.ob.length := by
  rw [after_put]
  cases dst with
  | none => exact ⟨by simp [St.put', puts_tm], by simp [St.put', puts_len]⟩
  | some d => exact ⟨by simp [St.put', puts_tm], by simp [St.put', puts_len]⟩
theorem after_slot (s : St) (dst : Option Nat) (v : Av) (u : List (Nat × Ob)) (t : Nat) (ht : t < s.tm.length) : (s.after' dst v u).slot t = if dst = some t then v else s.slot t := by
  have e : ∀ t, (s.puts' u).slot t = s.slot t := fun t => by unfold St.slot; rw [puts_tm]
  rw [after_put]
  cases dst with
  | none => simp only [St.put']; rw [e]; simp
  | some d =>
    simp only [St.put']
    rw [slot_set, puts_tm]
    by_cases h : d = t
    · subst h; rw [if_pos ⟨rfl, ht⟩, if_pos rfl]
    · rw [if_neg fun e => h e.1, if_neg (by simpa using h)]; rfl
theorem after_obj (s : St) (dst : Option Nat) (v : Av) (u : List (Nat × Ob)) (k : Nat) (hk : k < s.ob.length) : (s.after' dst v u).obj k = (ulast u k).getD (s.obj k) := by
  rw [after_put]
  have : ((s.puts' u).put' dst v).obj k = (s.puts' u).obj k := by cases dst <;> rfl
  rw [this, puts_last u s k hk]
theorem st_ext {s s' : St} (h1 : s.tm.length = s'.tm.length) (h2 : s.ob.length = s'.ob.length) (h3 : ∀ t, t < s.tm.length → s.slot t = s'.slot t) (h4 : ∀ k, k < s.ob.length → s.obj k = s'.obj k) : s = s' := by
  obtain ⟨tm, ob⟩ := s
  obtain ⟨tm', ob'⟩ := s'
  congr 1
  · apply List.ext_getElem h1
    intro i hi hi'
    have := h3 i hi
    simpa [St.slot, List.getD_eq_getElem?_getD, hi, hi'] using this
  · apply List.ext_getElem h2
    intro i hi hi'
    have := h4 i hi
    simpa [St.obj, List.getD_eq_getElem?_getD, hi, hi'] using this
theorem stAt_lens (s0 : St) (ts : List Stp) : ∀ i, (stAt s0 ts i).tm.length = s0.tm.length ∧ (stAt s0 ts i).ob.length = s0.ob.length := by
  intro i
  induction i with
  | zero => exact ⟨rfl, rfl⟩
  | succ i ih =>
    simp only [stAt]
    cases ts[i]? with
    | none => exact ih
    | some t => simp only; rw [(after_lens _ _ _ _).1, (after_lens _ _ _ _).2]; exact ih
theorem stAt_slot (s0 : St) (ts : List Stp) (t : Nat) (ht : t < s0.tm.length) : ∀ i, (stAt s0 ts i).slot t = lastW (wSlot ts t) (fun _ => true) (s0.slot t) i := by
  intro i
  induction i with
  | zero => rfl
  | succ i ih =>
    simp only [stAt, lastW, wSlot]
    cases hts : ts[i]? with
    | none => exact ih
    | some st =>
      simp only
      rw [after_slot _ _ _ _ _ (by rw [(stAt_lens s0 ts i).1]; exact ht)]
      by_cases hd : st.o.dst = some t
      · rw [if_pos hd, if_pos hd]
      · rw [if_neg hd, if_neg hd]; exact ih
theorem stAt_obj (s0 : St) (ts : List Stp) (k : Nat) (hk : k < s0.ob.length) : ∀ i, (stAt s0 ts i).obj k = lastW (wObj ts k) (fun _ => true) (s0.obj k) i := by
  intro i
  induction i with
  | zero => rfl
  | succ i ih =>
    simp only [stAt, lastW, wObj]
    cases hts : ts[i]? with
    | none => exact ih
    | some st =>
      simp only
      rw [after_obj _ _ _ _ _ (by rw [(stAt_lens s0 ts i).2]; exact hk)]
      cases hu : ulast st.u k with
      | none => exact ih
      | some o => rfl
theorem StepOf.wrb {all : List Oper} {i : Nat} {s : St} {dst : Option Nat} {op : Op} {g : Option (Nat × Bool)} {af : Nat} {v : Av} {u : List (Nat × Ob)} {r : Rec} (h : StepOf C all i s dst op g af v u r) : ∀ j, r.wr.testBit j = ((wrDst dst).testBit j || u.any (fun p => 2 * p.1 + 1 == j)) := by
  cases h with
  | skip => intro j; simp
  | run _ _ _ hi => exact hi.wr
theorem StepOf.idsb {all : List Oper} {i : Nat} {s : St} {dst : Option Nat} {op : Op} {g : Option (Nat × Bool)} {af : Nat} {v : Av} {u : List (Nat × Ob)} {r : Rec} (h : StepOf C all i s dst op g af v u r) : ∀ j, r.ids.testBit j = (v.names j || u.any (·.2.names j)) := by
  cases h with
  | skip => intro j; simp [Av.names]
  | run _ _ _ hi => exact hi.ids
theorem StepOf.afb {all : List Oper} {i : Nat} {s : St} {dst : Option Nat} {op : Op} {g : Option (Nat × Bool)} {af : Nat} {v : Av} {u : List (Nat × Ob)} {r : Rec} (h : StepOf C all i s dst op g af v u r) : r.af = af := by
  cases h with
  | skip => rfl
  | run _ _ _ hi => exact hi.af
theorem wr_slot {all : List Oper} {s0 : St} {ts : List Stp} {j t : Nat} {st : Stp} (hts : ts[j]? = some st) (hg : Good C all s0 ts j st) (h : wSlot ts t j ≠ none) : st.r.wr.testBit (2 * t) = true := by
  simp only [wSlot, hts] at h
  by_cases hd : st.o.dst = some t
  · rw [hg.2.wrb, hd]; simp only [wrDst]; rw [bit_tb]; simp
  · rw [if_neg hd] at h; exact absurd rfl h
theorem wr_obj {all : List Oper} {s0 : St} {ts : List Stp} {j k : Nat} {st : Stp} (hts : ts[j]? = some st) (hg : Good C all s0 ts j st) (h : wObj ts k j ≠ none) : st.r.wr.testBit (2 * k + 1) = true := by
  simp only [wObj, hts] at h
  have hany : st.u.any (fun p => 2 * p.1 + 1 == 2 * k + 1) = true := by
    cases hb : st.u.any (fun p => 2 * p.1 + 1 == 2 * k + 1) with
    | true => rfl
    | false => exact absurd (ulast_none hb) h
  rw [hg.2.wrb, hany]; simp
end

structure Disj (p r : Rec) : Prop where
  wr : ∀ x, p.wr.testBit x = true → r.rd.testBit x = false ∧ r.wr.testBit x = false
  rw : ∀ x, r.wr.testBit x = true → p.rd.testBit x = false
  ids : ∀ x, r.ids.testBit x = true → p.new.testBit x = false
theorem disj_test {a b : Nat} (h : disj a b = true) (x : Nat) (hx : a.testBit x = true) : b.testBit x = false := by
  have h0 : Nat.land a b = 0 := Nat.eq_of_beq_eq_true h
  have h1 : (Nat.land a b).testBit x = (a.testBit x && b.testBit x) := Nat.testBit_and a b x
  rw [h0, hx] at h1
  simpa using h1.symm
theorem okWith_ok {r : Rec} {an : Nat} : ∀ (ps : List Rec) (i : Nat), okWith r an ps i = true → ∀ j p, ps[j]? = some p → (∀ x, p.ids.testBit x = true → r.new.testBit x = false) ∧ (an.testBit (i + j) = true ∨ Disj p r) := by
  intro ps
  induction ps with
  | nil => intro i _ j p h; simp at h
  | cons q ps ih =>
    intro i h j p hj
    simp only [okWith] at h
    have key : okWith r an ps (i + 1) = true ∧ (∀ x, q.ids.testBit x = true → r.new.testBit x = false) ∧ (an.testBit i = true ∨ Disj q r) := by
      cases h4 : disj q.ids r.new with
      | false => rw [h4] at h; cases h
      | true =>
        rw [h4] at h
        simp only at h
        cases hb : Nat.testBit an i with
        | true => rw [hb] at h; exact ⟨h, fun x hx => disj_test h4 x hx, .inl rfl⟩
        | false =>
          rw [hb] at h
          generalize h1 : disj q.wr (Nat.lor r.rd r.wr) = b1 at h
          generalize h2 : disj r.wr q.rd = b2 at h
          generalize h3 : disj r.ids q.new = b3 at h
          have h5 : b1 = true ∧ b2 = true ∧ b3 = true ∧ okWith r an ps (i + 1) = true := by
            cases b1 <;> cases b2 <;> cases b3 <;> first | exact ⟨rfl, rfl, rfl, h⟩ | cases h
          obtain ⟨rfl, rfl, rfl, h⟩ := h5
          refine ⟨h, fun x hx => disj_test h4 x hx, .inr ⟨fun x hx => ?_, fun x hx => disj_test h2 x hx, fun x hx => disj_test h3 x hx⟩⟩
          have := disj_test h1 x hx
          rw [lor_test] at this
          simpa using this
    cases j with
    | zero => simp at hj; subst hj; simpa using key.2
    | succ j =>
      have := ih (i + 1) key.1 j p (by simpa using hj)
      rw [show i + (j + 1) = i + 1 + j by omega]; exact this
structure OrdOK (base : Nat) (rs : List Rec) (zs : List Nat) : Prop where
  len : zs.length = rs.length
  low : ∀ (j : Nat) (r : Rec), rs[j]? = some r → ∀ x, r.af.testBit x = true → x < j
  anc : ∀ (j : Nat) (r : Rec), rs[j]? = some r → zs[j]? = some (ancOf r.af (zs.take j) 0 r.af)
  dis : ∀ (j : Nat) (r : Rec), rs[j]? = some r → ∀ (a : Nat), zs[j]? = some a → ∀ (i : Nat) (p : Rec), i < j → rs[i]? = some p → (∀ x, p.ids.testBit x = true → r.new.testBit x = false) ∧ (a.testBit i = true ∨ Disj p r)
  bas : ∀ (j : Nat) (r : Rec), rs[j]? = some r → ∀ x, r.new.testBit x = true → base.testBit x = false
theorem okAll_ok {base : Nat} : ∀ (l ps : List Rec) (zs : List Nat) (i : Nat), okAll base l ps zs i = true → ps.length = i → OrdOK base ps zs → ∃ zs', OrdOK base (ps ++ l) zs' := by
  intro l
  induction l with
  | nil => intro ps zs i _ _ h; exact ⟨zs, by simpa using h⟩
  | cons r l ih =>
    intro ps zs i h hl ho
    simp only [okAll] at h
    cases hb : Nat.blt r.af (bit i) with
    | false => rw [hb] at h; cases h
    | true =>
      rw [hb] at h
      cases hba : disj r.new base with
      | false => rw [hba] at h; cases h
      | true =>
      rw [hba] at h
      cases hw : okWith r (ancOf r.af zs 0 r.af) ps 0 with
      | false => rw [hw] at h; cases h
      | true =>
        rw [hw] at h
        have hlt : r.af < 2 ^ i := by
          have : r.af < 1 <<< i := Nat.lt_of_lt_of_eq (Nat.le_of_ble_eq_true hb) rfl
          rwa [Nat.one_shiftLeft] at this
        have hsp : ∀ {α : Type} (x : List α) (y : α) (j : Nat) (b : α), (x ++ [y])[j]? = some b → (j < x.length ∧ x[j]? = some b) ∨ (j = x.length ∧ b = y) := by
          intro α x y j b hj
          by_cases hlt : j < x.length
          · rw [List.getElem?_append_left hlt] at hj; exact .inl ⟨hlt, hj⟩
          · have hje : j = x.length := by
              rcases Nat.lt_or_ge j (x.length + 1) with h | h
              · omega
              · rw [List.getElem?_eq_none_iff.2 (by simp; omega)] at hj; cases hj
            subst hje
            rw [List.getElem?_append_right (Nat.le_refl _), Nat.sub_self] at hj
            simp at hj
            exact .inr ⟨rfl, hj.symm⟩
        have hnew : OrdOK base (ps ++ [r]) (zs ++ [ancOf r.af zs 0 r.af]) := by
          refine ⟨by simp [ho.len], fun j q hj x hx => ?_, fun j q hj => ?_, fun j q hj a ha k p hk hp => ?_, fun j q hj x hx => ?_⟩
          · rcases hsp _ _ _ _ hj with ⟨h1, h2⟩ | ⟨h1, h2⟩
            · exact ho.low j q h2 x hx
            · subst h2
              rw [h1, hl]
              rcases Nat.lt_or_ge x i with h | h
              · exact h
              · rw [Nat.testBit_lt_two_pow (Nat.lt_of_lt_of_le hlt (Nat.pow_le_pow_right (by omega) h))] at hx; cases hx
          · rcases hsp _ _ _ _ hj with ⟨h1, h2⟩ | ⟨h1, h2⟩
            · rw [List.getElem?_append_left (by rw [ho.len]; exact h1), ho.anc j q h2, List.take_append_of_le_length (by rw [ho.len]; omega)]
            · subst h2
              rw [h1, ← ho.len, List.getElem?_append_right (Nat.le_refl _), Nat.sub_self, List.take_left' rfl]
              rfl
          · rcases hsp _ _ _ _ hj with ⟨h1, h2⟩ | ⟨h1, h2⟩
            · rw [List.getElem?_append_left (by rw [ho.len]; exact h1)] at ha
              rw [List.getElem?_append_left (by omega)] at hp
              exact ho.dis j q h2 a ha k p hk hp
            · subst h2
              rw [h1, ← ho.len, List.getElem?_append_right (Nat.le_refl _), Nat.sub_self] at ha
              simp at ha
              subst ha
              rw [List.getElem?_append_left (by omega)] at hp
              have := okWith_ok ps 0 hw k p hp
              simpa using this
          · rcases hsp _ _ _ _ hj with ⟨h1, h2⟩ | ⟨h1, h2⟩
            · exact ho.bas j q h2 x hx
            · subst h2; exact disj_test hba x hx
        obtain ⟨zs', h'⟩ := ih _ _ _ h (by simp [hl]) hnew
        exact ⟨zs', by simpa using h'⟩
theorem ancOf_test {af : Nat} : ∀ (zs : List Nat) (i m x : Nat), (ancOf af zs i m).testBit x = true → m.testBit x = true ∨ ∃ k a, zs[k]? = some a ∧ af.testBit (i + k) = true ∧ a.testBit x = true := by
  intro zs
  induction zs with
  | nil => intro i m x h; exact .inl h
  | cons a zs ih =>
    intro i m x h
    simp only [ancOf] at h
    rcases ih _ _ _ h with h | ⟨k, b, h1, h2, h3⟩
    · cases hb : Nat.testBit af i with
      | false => rw [hb] at h; exact .inl h
      | true =>
        rw [hb] at h
        simp only at h
        rw [lor_test] at h
        rcases (Bool.or_eq_true _ _ ▸ h : m.testBit x = true ∨ a.testBit x = true) with h | h
        · exact .inl h
        · exact .inr ⟨0, a, rfl, by simpa using hb, h⟩
    · exact .inr ⟨k + 1, b, by simpa using h1, by rw [show i + (k + 1) = i + 1 + k by omega]; exact h2, h3⟩
/-- with an operation all that it waits for is done -/
def DownC (rs : List Rec) (L : Nat → Bool) : Prop := ∀ j r, rs[j]? = some r → L j = true → ∀ x, r.af.testBit x = true → L x = true
theorem anc_done {base : Nat} {rs : List Rec} {zs : List Nat} (ho : OrdOK base rs zs) {L : Nat → Bool} (hL : DownC rs L) : ∀ (j : Nat) (r : Rec) (a : Nat), rs[j]? = some r → zs[j]? = some a → (∀ x, r.af.testBit x = true → L x = true) → ∀ x, a.testBit x = true → L x = true := by
  intro j
  induction j using Nat.strongRecOn with
  | _ j ih =>
    intro r a hr ha hd x hx
    have h1 := ho.anc j r hr
    rw [ha] at h1
    simp at h1
    rw [h1] at hx
    rcases ancOf_test _ _ _ _ hx with h | ⟨k, b, h2, h3, h4⟩
    · exact hd x h
    · rw [Nat.zero_add] at h3
      have hkj := ho.low j r hr k h3
      rw [List.getElem?_take, if_pos hkj] at h2
      have hk : k < rs.length := by
        rw [← ho.len]
        rcases Nat.lt_or_ge k zs.length with h | h
        · exact h
        · rw [List.getElem?_eq_none_iff.2 h] at h2; cases h2
      have hrk : rs[k]? = some rs[k] := List.getElem?_eq_getElem hk
      exact ih k hkj rs[k] b hrk h2 (fun y hy => hL k rs[k] hrk (hd k h3) y hy) x h4
/-- operations that meet stand in order -/
theorem meet_order {base : Nat} {rs : List Rec} {zs : List Nat} (ho : OrdOK base rs zs) {L : Nat → Bool} (hL : DownC rs L) {i : Nat} {r : Rec} (hr : rs[i]? = some r) (hi : L i = false) (hd : ∀ x, r.af.testBit x = true → L x = true) {j : Nat} {p : Rec} (hp : rs[j]? = some p) (hne : j ≠ i) (hm : (j < i → ¬ Disj p r) ∧ (i < j → ¬ Disj r p)) : L j = decide (j < i) := by
  have has : ∀ k q, rs[k]? = some q → ∃ a, zs[k]? = some a := fun k q hq => ⟨_, ho.anc k q hq⟩
  rcases Nat.lt_or_gt_of_ne hne with h | h
  · obtain ⟨a, ha⟩ := has i r hr
    rcases (ho.dis i r hr a ha j p h hp).2 with h1 | h1
    · rw [anc_done ho hL i r a hr ha hd j h1]; simp [h]
    · exact absurd h1 (hm.1 h)
  · have : decide (j < i) = false := by simp; omega
    rw [this]
    cases hLj : L j with
    | false => rfl
    | true =>
      obtain ⟨a, ha⟩ := has j p hp
      rcases (ho.dis j p hp a ha i r h hr).2 with h1 | h1
      · have := anc_done ho hL j p a hp ha (fun x hx => hL j p hp hLj x hx) i h1
        rw [hi] at this; cases this
      · exact absurd h1 (hm.2 h)

theorem afters_test : ∀ (l : List Edge) (m x : Nat), (afters l m).testBit x = (m.testBit x || (l.filter (Region.binds .any)).any (·.on == x)) := by
  intro l
  induction l with
  | nil => intro m x; simp [afters]
  | cons e l ih =>
    obtain ⟨on, g⟩ := e
    intro m x
    cases g <;> simp only [afters, ih, lor_test, bit_tb, List.filter_cons, Region.binds] <;> simp [Bool.or_assoc]
theorem deps_af {all : List Oper} {i : Nat} {o : Oper} {d : List Nat} (ho : all[i]? = some o) (hd : (depsOf .any ⟨all⟩)[i]? = some d) (x : Nat) : x ∈ d ↔ (afE o).testBit x = true := by
  have h1 := deps_get (md := .any) (ops := ⟨all⟩) (i := i) (o := o) (by simpa using ho)
  rw [hd] at h1
  simp only [Option.some.injEq] at h1
  subst h1
  rw [afE, afters_test]
  simp only [Nat.zero_testBit, Bool.false_or, List.any_eq_true, List.mem_map, beq_iff_eq]
theorem Steps_of {P : Program} {ops : Array Oper} {Q : Exit → Act → World → Prop} {I : (Nat → Bool) → Act → World → Prop} : ∀ (D : List (List Nat)) (k : Nat), (∀ i d, D[i]? = some d → ∀ L a w, I L a w → L (k + i) = false → (∀ j ∈ d, L j = true) → wpOp P ops Q (k + i) (I (upd L (k + i))) a w) → Go.Proofs.YtnjannpoemdbaaaGreat.Steps P ops Q I k D := by
  intro D
  induction D with
  | nil => intro k _; trivial
  | cons d D ih =>
    intro k h
    refine ⟨fun L a w => by simpa using h 0 d rfl L a w, ih (k + 1) fun i d' hd => ?_⟩
    have := h (i + 1) d' (by simpa using hd)
    rw [show k + (i + 1) = k + 1 + i by omega] at this
    exact this
theorem downB_of : ∀ (D : List (List Nat)) (k : Nat), (∀ i d, D[i]? = some d → ∀ j ∈ d, j < k + i) → downB k D = true := by
  intro D
  induction D with
  | nil => intro k _; rfl
  | cons d D ih =>
    intro k h
    simp only [downB, Bool.and_eq_true, List.all_eq_true, decide_eq_true_eq]
    refine ⟨fun j hj => by simpa using h 0 d rfl j hj, ih (k + 1) fun i d' hd j hj => ?_⟩
    have := h (i + 1) d' (by simpa using hd) j hj
    omega
theorem lastW_false {α : Type} (W : Nat → Option α) (d : α) : ∀ n, lastW W (fun _ => false) d n = d := by
  intro n
  induction n with
  | zero => rfl
  | succ n ih => simp only [lastW]; exact ih
theorem lastW_mem {α : Type} {W : Nat → Option α} {L : Nat → Bool} {d : α} : ∀ n, lastW W L d n = d ∨ ∃ j, j < n ∧ L j = true ∧ W j = some (lastW W L d n) := by
  intro n
  induction n with
  | zero => exact .inl rfl
  | succ n ih =>
    have hrec : lastW W L d n = d ∨ ∃ j, j < n + 1 ∧ L j = true ∧ W j = some (lastW W L d n) := by
      rcases ih with h | ⟨j, h1, h2, h3⟩
      · exact .inl h
      · exact .inr ⟨j, by omega, h2, h3⟩
    simp only [lastW]
    cases hL : L n with
    | false => exact hrec
    | true =>
      cases hw : W n with
      | none => exact hrec
      | some v => exact .inr ⟨n, by omega, hL, hw⟩
section
variable {P : Program} {own0 ext : Nat → Prop} {w0 w : World} {s0 : St} {E : Env} {a : Act} {C : Ctx}
theorem awpR_draw (hC : CtxOk P C) (hm : P.follows .mixedOrders = true) {id : Nat} {all : List Oper} (hz : ∀ c, ext c → ∀ o ∈ all, o.dst ≠ some 0) {base : Nat} {k : St → Prop} {Q : Exit → Act → World → Prop} (hk : ∀ s' E' a' w', k s' → Con own0 ext w0 s' E' a' w' → Q .normal a' w')
    (hbase : ∀ i, base.testBit i = (s0.tm.any (·.names i) || s0.ob.any (·.names i))) (h : awpR C all true base k all 0 [] s0) (hc : Con own0 ext w0 s0 E a w) : (Code.region id ⟨all⟩ true).wp P Q a w := by
  obtain ⟨ts, hlen, hgood, hok, hks⟩ := awpR_trace (C := C) (s0 := s0) all 0 [] (fun j => by simp) rfl (by intro j t hj; simp at hj) h
  rw [Nat.zero_add] at hlen
  obtain ⟨zs, ho⟩ := okAll_ok (base := base) (ts.map (·.r)) [] [] 0 hok rfl ⟨rfl, by intro j r h; simp at h, by intro j r h; simp at h, by intro j r h; simp at h, by intro j r h; simp at h⟩
  rw [List.nil_append] at ho
  have hrs : ∀ (j : Nat) (t : Stp), ts[j]? = some t → (ts.map (·.r))[j]? = some t.r := fun j t hj => by simp [hj]
  have hts : ∀ (j : Nat) (r : Rec), (ts.map (·.r))[j]? = some r → ∃ t, ts[j]? = some t ∧ t.r = r := fun j r hj => by
    rw [List.getElem?_map] at hj
    cases ht : ts[j]? with
    | none => rw [ht] at hj; cases hj
    | some t => rw [ht] at hj; simp at hj; exact ⟨t, rfl, hj⟩
  have haf : ∀ (j : Nat) (t : Stp), ts[j]? = some t → ∀ (d : List Nat), (depsOf .any ⟨all⟩)[j]? = some d → ∀ x, x ∈ d ↔ t.r.af.testBit x = true := by
    intro j t ht d hd x
    have hg := hgood j t ht
    rw [hg.2.afb]
    exact deps_af hg.1 hd x
  have hDlen : (depsOf .any ⟨all⟩).length = all.length := by simp [depsOf]
  have hget : ∀ j, j < all.length → ∃ t, ts[j]? = some t := fun j hj => ⟨ts[j]'(by omega), List.getElem?_eq_getElem _⟩
  refine wp_region_inv hm (depsOf .any ⟨all⟩) rfl (downB_of _ 0 fun i d hd j hj => ?_) (fun fa L a' w' => fa = a → DownC (ts.map (·.r)) L ∧ ∃ E', Con own0 ext w0 (stL s0 ts L) E' a' w') (fun fa hfa => ?_) (fun L a' w' hL hI => ?_) ?_
  · have hi : i < all.length := by
      rcases Nat.lt_or_ge i all.length with h | h
      · exact h
      · rw [List.getElem?_eq_none_iff.2 (by rw [hDlen]; exact h)] at hd; cases hd
    obtain ⟨t, ht⟩ := hget i hi
    have := ho.low i t.r (hrs i t ht) j ((haf i t ht d hd j).1 hj)
    omega
  · subst hfa
    refine ⟨fun j r _ hL => by simp at hL, E, ?_⟩
    have : stL s0 ts (fun _ => false) = s0 := by
      apply st_ext
      · simp [stL]
      · simp [stL]
      · intro t ht
        have ht' : t < s0.tm.length := by simpa [stL] using ht
        rw [stL_slot, if_pos ht', lastW_false]
      · intro t ht
        have ht' : t < s0.ob.length := by simpa [stL] using ht
        rw [stL_obj, if_pos ht', lastW_false]
    rw [this]
    exact hc.drew
  · obtain ⟨_, E', hcon⟩ := hI rfl
    rw [hDlen] at hL
    have : stL s0 ts L = stAt s0 ts ts.length := by
      apply st_ext
      · simp [stL, (stAt_lens s0 ts ts.length).1]
      · simp [stL, (stAt_lens s0 ts ts.length).2]
      · intro t ht
        have ht' : t < s0.tm.length := by simpa [stL] using ht
        rw [stL_slot, if_pos ht', stAt_slot s0 ts t ht']
        exact lastW_congr fun j hj _ => hL j (by omega)
      · intro t ht
        have ht' : t < s0.ob.length := by simpa [stL] using ht
        rw [stL_obj, if_pos ht', stAt_obj s0 ts t ht']
        exact lastW_congr fun j hj _ => hL j (by omega)
    rw [this] at hcon
    exact hk _ E' a' w' hks hcon
  · refine Steps_of _ 0 fun i d hd L a' w' hI hLi hdeps => ?_
    rw [Nat.zero_add] at hLi ⊢
    obtain ⟨hD, E', hcon⟩ := hI rfl
    have hi : i < all.length := by
      rcases Nat.lt_or_ge i all.length with h | h
      · exact h
      · rw [List.getElem?_eq_none_iff.2 (by rw [hDlen]; exact h)] at hd; cases hd
    obtain ⟨t, ht⟩ := hget i hi
    have hg := hgood i t ht
    have hdeps' : ∀ x, t.r.af.testBit x = true → L x = true := fun x hx => hdeps x ((haf i t ht d hd x).2 hx)
    have hri := hrs i t ht
    -- operations that meet
    have meet : ∀ (j : Nat) (st : Stp), ts[j]? = some st → j ≠ i → ((j < i → ¬ Disj st.r t.r) ∧ (i < j → ¬ Disj t.r st.r)) → L j = decide (j < i) := fun j st hj hne hmm => meet_order ho hD hri hLi hdeps' (hrs j st hj) hne hmm
    have hjlt : ∀ j, j < ts.length → ∃ st, ts[j]? = some st := fun j hj => ⟨ts[j], List.getElem?_eq_getElem hj⟩
    have hself : ∀ j, j = i → L j = decide (j < i) := fun j hj => by subst hj; rw [hLi]; simp
    have hrd : Agr t.r.rd (stAt s0 ts i) (stL s0 ts L) := by
      refine ⟨fun x hx => ?_, fun x hx => ?_⟩
      · by_cases hxl : x < s0.tm.length
        · rw [stL_slot, if_pos hxl, stAt_slot s0 ts x hxl, ← lastW_pre (n := ts.length) (by omega)]
          refine lastW_congr fun j hj hw => ?_
          obtain ⟨st, hst⟩ := hjlt j hj
          by_cases hji : j = i
          · exact hself j hji
          · have hwr := wr_slot hst (hgood j st hst) hw
            refine meet j st hst hji ⟨fun _ hdj => ?_, fun _ hdj => ?_⟩
            · have := (hdj.wr _ hwr).1; rw [hx] at this; cases this
            · have := hdj.rw _ hwr; rw [hx] at this; cases this
        · rw [slot_out (by simpa [stL] using hxl), slot_out (by rw [(stAt_lens s0 ts i).1]; exact hxl)]
      · by_cases hxl : x < s0.ob.length
        · rw [stL_obj, if_pos hxl, stAt_obj s0 ts x hxl, ← lastW_pre (n := ts.length) (by omega)]
          refine lastW_congr fun j hj hw => ?_
          obtain ⟨st, hst⟩ := hjlt j hj
          by_cases hji : j = i
          · exact hself j hji
          · have hwr := wr_obj hst (hgood j st hst) hw
            refine meet j st hst hji ⟨fun _ hdj => ?_, fun _ hdj => ?_⟩
            · have := (hdj.wr _ hwr).1; rw [hx] at this; cases this
            · have := hdj.rw _ hwr; rw [hx] at this; cases this
        · rw [obj_out (by simpa [stL] using hxl), obj_out (by rw [(stAt_lens s0 ts i).2]; exact hxl)]
    have hlater : ∀ (j : Nat) (st : Stp), ts[j]? = some st → i < j → (∃ x, t.r.wr.testBit x = true ∧ st.r.wr.testBit x = true) → L j = false := by
      rintro j st hst hij ⟨x, hx1, hx2⟩
      have := meet j st hst (by omega) ⟨fun h => by omega, fun _ hdj => by have := (hdj.wr x hx1).2; rw [hx2] at this; cases this⟩
      rw [this]; simp; omega
    have hnames : ∀ dd, t.r.new.testBit dd = true → ∀ (j : Nat) (st : Stp), ts[j]? = some st → L j = true → st.r.ids.testBit dd = false := by
      intro dd hdd j st hst hLj
      cases hid : st.r.ids.testBit dd with
      | false => rfl
      | true =>
        rcases Nat.lt_trichotomy j i with h | h | h
        · obtain ⟨aa, haa⟩ : ∃ aa, zs[i]? = some aa := ⟨_, ho.anc i t.r hri⟩
          have := (ho.dis i t.r hri aa haa j st.r h (hrs j st hst)).1 dd hid
          rw [hdd] at this; cases this
        · subst h; rw [hLi] at hLj; cases hLj
        · have := meet j st hst (by omega) ⟨fun h => by omega, fun _ hdj => by have := hdj.ids dd hid; rw [hdd] at this; cases this⟩
          rw [hLj] at this
          simp at this
          omega
    refine StepOf.wp (o := t.o) hC hg.1 (fun c hc => hz c hc _ (List.mem_of_getElem? hg.1)) hg.2 hrd (fun dd hdd => ⟨⟨fun x => .inr ?_, fun x => ?_⟩, ?_⟩) hcon fun E2 a2 w2 hc2 => ?_
    · rw [stL_slot]
      by_cases hxl : x < s0.tm.length
      · rw [if_pos hxl]
        have hb := ho.bas i t.r hri dd hdd
        rw [hbase, Bool.or_eq_false_iff] at hb
        rcases lastW_mem (W := wSlot ts x) (L := L) (d := s0.slot x) ts.length with e | ⟨j, hj, hLj, hw⟩
        · rw [e]; exact any_getD _ _ rfl _ hb.1 x
        · obtain ⟨st, hst⟩ := hjlt j hj
          have h1 := hnames dd hdd j st hst hLj
          rw [(hgood j st hst).2.idsb, Bool.or_eq_false_iff] at h1
          simp only [wSlot, hst] at hw
          by_cases hdst : st.o.dst = some x
          · rw [if_pos hdst] at hw
            simp only [Option.some.injEq] at hw
            have e2 : lastW (wSlot ts x) L (s0.slot x) ts.length = st.v := hw.symm
            rw [e2]; exact h1.1
          · rw [if_neg hdst] at hw; cases hw
      · rw [if_neg hxl]; rfl
    · rw [stL_obj]
      by_cases hxl : x < s0.ob.length
      · rw [if_pos hxl]
        have hb := ho.bas i t.r hri dd hdd
        rw [hbase, Bool.or_eq_false_iff] at hb
        rcases lastW_mem (W := wObj ts x) (L := L) (d := s0.obj x) ts.length with e | ⟨j, hj, hLj, hw⟩
        · rw [e]; exact any_getD _ _ rfl _ hb.2 x
        · obtain ⟨st, hst⟩ := hjlt j hj
          have h1 := hnames dd hdd j st hst hLj
          rw [(hgood j st hst).2.idsb, Bool.or_eq_false_iff] at h1
          simp only [wObj, hst] at hw
          have hmem : ∀ (u : List (Nat × Ob)) (o : Ob), ulast u x = some o → ∃ p ∈ u, p.2 = o := by
            intro u
            induction u with
            | nil => intro o h; cases h
            | cons p u ih =>
              intro o h
              obtain ⟨pi, po⟩ := p
              simp only [ulast] at h
              cases hu : ulast u x with
              | some o' =>
                rw [hu] at h
                simp only [Option.some.injEq] at h
                subst h
                obtain ⟨p, hp, e⟩ := ih _ hu
                exact ⟨p, List.mem_cons_of_mem _ hp, e⟩
              | none =>
                rw [hu] at h
                by_cases e : pi = x
                · simp [e] at h; subst h; exact ⟨_, List.mem_cons_self, rfl⟩
                · simp [e] at h
          obtain ⟨p, hp, e⟩ := hmem _ _ hw
          rw [← e]
          have := h1.2
          rw [List.any_eq_false] at this
          simpa using this p hp
      · rw [if_neg hxl]; rfl
    · have := (hg.2.new dd hdd).2.2
      rw [(stAt_lens s0 ts i).1] at this
      simpa [stL] using this
    · intro _
      refine ⟨fun j r hj hLj x hx => ?_, E2, ?_⟩
      · obtain ⟨st, hst, rfl⟩ := hts j r hj
        unfold upd at hLj ⊢
        by_cases hxi : x = i
        · rw [if_pos hxi]
        · rw [if_neg hxi]
          by_cases hji : j = i
          · subst hji
            rw [ht] at hst
            simp only [Option.some.injEq] at hst
            subst hst
            exact hdeps' x hx
          · rw [if_neg hji] at hLj
            exact hD j st.r hj hLj x hx
      · have : (stL s0 ts L).after' t.o.dst t.v t.u = stL s0 ts (upd L i) := by
          apply st_ext
          · rw [(after_lens _ _ _ _).1]; simp [stL]
          · rw [(after_lens _ _ _ _).2]; simp [stL]
          · intro x hx
            rw [(after_lens _ _ _ _).1] at hx
            have hxl : x < s0.tm.length := by simpa [stL] using hx
            rw [after_slot _ _ _ _ _ hx, stL_slot, stL_slot, if_pos hxl, if_pos hxl]
            by_cases hdst : t.o.dst = some x
            · rw [if_pos hdst, eq_comm]
              have hwi : wSlot ts x i = some t.v := by simp only [wSlot, ht, if_pos hdst]
              refine lastW_at (i := i) upd_eq hwi (by omega) fun j hij hjl hw => ?_
              obtain ⟨st, hst⟩ := hjlt j hjl
              rw [upd_ne (by omega)]
              exact hlater j st hst hij ⟨2 * x, wr_slot ht hg (by rw [hwi]; simp), wr_slot hst (hgood j st hst) hw⟩
            · rw [if_neg hdst]
              refine lastW_congr fun j hjl hw => ?_
              by_cases hji : j = i
              · subst hji
                exact absurd (by simp only [wSlot, ht, if_neg hdst]) hw
              · rw [upd_ne hji]
          · intro x hx
            rw [(after_lens _ _ _ _).2] at hx
            have hxl : x < s0.ob.length := by simpa [stL] using hx
            rw [after_obj _ _ _ _ _ hx, stL_obj, stL_obj, if_pos hxl, if_pos hxl]
            cases hu : ulast t.u x with
            | some oo =>
              simp only [Option.getD_some]
              rw [eq_comm]
              have hwi : wObj ts x i = some oo := by simp only [wObj, ht, hu]
              refine lastW_at (i := i) upd_eq hwi (by omega) fun j hij hjl hw => ?_
              obtain ⟨st, hst⟩ := hjlt j hjl
              rw [upd_ne (by omega)]
              exact hlater j st hst hij ⟨2 * x + 1, wr_obj ht hg (by rw [hwi]; simp), wr_obj hst (hgood j st hst) hw⟩
            | none =>
              simp only [Option.getD_none]
              refine lastW_congr fun j hjl hw => ?_
              by_cases hji : j = i
              · subst hji
                exact absurd (by simp only [wObj, ht, hu]) hw
              · rw [upd_ne hji]
        rw [← this]; exact hc2
end

theorem nil_hold {w : World} {vs : List Value} (h : Hold w .nil vs) : vs = [] := h
theorem cons_nil {w : World} {a : Av} {vs : List Value} (h : Hold w (.cons a .nil) vs) : Hold w a vs := by
  obtain ⟨x, y, rfl, hx, hy⟩ := h
  rw [nil_hold hy, List.append_nil]; exact hx
theorem lit1_ok {w : World} {sz n m : Nat} {f : Nat → Av} {vs : List Value} (h : lit1 sz n f = some m) (hv : Hold w (.list sz n f) vs) : ∃ A c, vs = [.slice A (limbs m).length c] ∧ Lim w A c (limbs m) ∧ (limbs m).length = 1 := by
  unfold lit1 at h
  split at h
  · rename_i h1 h2
    have e1 := Nat.eq_of_beq_eq_true h1
    have e2 := Nat.eq_of_beq_eq_true h2
    subst e1; subst e2
    split at h
    · rename_i m' hf
      split at h
      · rename_i h3 h4
        cases h
        have h3 : 0 < m := Nat.le_of_ble_eq_true h3
        have h4 : m < 4294967296 := Nat.le_of_ble_eq_true h4
        have hl : limbs m = [m] := limbs_lit' [m] (by simp [h4]; omega) (by simp [val])
        obtain ⟨A, c, rfl, hc, hh⟩ := hv
        obtain ⟨b, off, us, rfl, hb, hlen, hcs, _, hr⟩ := hh (by decide)
        have h0 := hr 0 (by decide)
        rw [hf] at h0
        obtain ⟨x, y, e, hx, hy⟩ := h0
        simp only [Hold] at hx hy
        subst hx; subst hy
        have hus : us = [.int .u32 (Int.ofNat m)] := by
          have : seg us 0 1 = us := by
            unfold seg
            rw [Nat.zero_mul, List.drop_zero]
            exact List.take_of_length_le (by omega)
          rw [← this, e]; rfl
        subst hus
        rw [hl]
        refine ⟨_, c, rfl, ⟨?_, hc.1, hc.2, fun _ => ⟨b, off, rfl, hb, fun k hk => ?_⟩⟩, rfl⟩
        · intro x hx; simp at hx; subst hx; exact h4
        · have : k = 0 := by simp at hk; exact hk
          subst this
          exact hcs 0 _ rfl
      · cases h
    · cases h
  · cases h
theorem asNat1_ok {w : World} {v : Av} {m K : Nat} {vs : List Value} (h : asNat1 v = some (m, K)) (hv : Hold w v vs) : ∃ A xs c, vs = [.slice A xs.length c] ∧ Lim w A c xs ∧ xs.length ≤ K ∧ val xs = m := by
  cases v with
  | nat m' K' => simp only [asNat1, Option.some.injEq, Prod.mk.injEq] at h; obtain ⟨rfl, rfl⟩ := h; exact hv
  | natC m' K' =>
    simp only [asNat1, Option.some.injEq, Prod.mk.injEq] at h
    obtain ⟨rfl, rfl⟩ := h
    obtain ⟨A, c, rfl, h1, h2⟩ := hv
    exact ⟨A, limbs m', c, rfl, h1, h2, val_limbs m'⟩
  | list sz n f =>
    simp only [asNat1] at h
    cases hl : lit1 sz n f with
    | none => rw [hl] at h; cases h
    | some m' =>
      rw [hl] at h
      simp only [Option.some.injEq, Prod.mk.injEq] at h
      obtain ⟨rfl, rfl⟩ := h
      obtain ⟨A, c, e, h1, h2⟩ := lit1_ok hl hv
      exact ⟨A, limbs m', c, e, h1, Nat.le_of_eq h2, val_limbs m'⟩
  | val u =>
    cases u with
    | slice A n c =>
      cases A with
      | some _ => cases h
      | none =>
        cases n with
        | succ _ => cases h
        | zero =>
          cases c with
          | succ _ => cases h
          | zero =>
            simp only [asNat1, Option.some.injEq, Prod.mk.injEq] at h
            obtain ⟨rfl, rfl⟩ := h
            simp only [Hold] at hv
            exact ⟨none, [], 0, hv, Lim.nil _ _, Nat.le_refl _, rfl⟩
    | _ => cases h
  | _ => cases h
theorem asInt_ok {w : World} {v : Av} {n : Int} {K : Nat} {vs : List Value} (h : asInt v = some (n, K)) (hv : Hold w v vs) : ∃ b s, vs = [b, s] ∧ IsInt w b s n K := by
  unfold asInt at h
  split at h
  · simp only [Option.some.injEq, Prod.mk.injEq] at h
    obtain ⟨rfl, rfl⟩ := h
    exact cons_nil hv
  · simp only [Option.some.injEq, Prod.mk.injEq] at h
    obtain ⟨rfl, rfl⟩ := h
    obtain ⟨A, c, rfl, h1, h2⟩ := cons_nil hv
    exact ⟨_, _, rfl, _, A, _, c, rfl, rfl, h1, h2, iv_canon _⟩
  · rename_i p d
    obtain ⟨x, y, rfl, hx, hy⟩ := hv
    cases hd : asNat1 d with
    | none => rw [hd] at h; cases h
    | some q =>
      obtain ⟨dd, KK⟩ := q
      rw [hd] at h
      obtain ⟨A, xs, c, e, h1, h2, h3⟩ := asNat1_ok hd (cons_nil hy)
      subst e
      have key : ∀ b : Bool, x = [.bool b] → n = iv b xs → K = KK → ∃ b s, x ++ [.slice A xs.length c] = [b, s] ∧ IsInt w b s n K := by
        intro b e1 e2 e3
        subst e1; subst e2; subst e3
        exact ⟨_, _, rfl, b, A, xs, c, rfl, rfl, h1, h2, rfl⟩
      cases p with
      | kb b =>
        simp only [Hold] at hx
        cases b with
        | true =>
          simp only [Option.some.injEq, Prod.mk.injEq] at h
          exact key true hx (by rw [← h.1]; simp [iv, h3]) h.2.symm
        | false =>
          simp only [Option.some.injEq, Prod.mk.injEq] at h
          exact key false hx (by rw [← h.1]; simp [iv, h3]) h.2.symm
      | val u =>
        cases u with
        | bool b =>
          simp only [Option.some.injEq, Prod.mk.injEq] at h
          simp only [Hold] at hx
          exact key b hx (by rw [← h.1]; simp [iv, h3]) h.2.symm
        | _ => cases h
      | _ => cases h
  · cases h
theorem isRat_mk {w : World} {b s t : Value} {n : Int} {d K L : Nat} (h : IsInt w b s n K) {A : Option Addr} {xs : List Nat} {c : Nat} (ht : t = .slice A xs.length c) (h1 : Lim w A c xs) (h2 : xs.length ≤ L) (h3 : val xs = d) : IsRat w b s t (mkRat n d) (max (max K L) 1) := by
  obtain ⟨p, B, ys, e, rfl, rfl, g1, g2, g3⟩ := h
  refine ⟨p, B, ys, e, A, xs, c, rfl, rfl, ht, g1, h1, by omega, by omega, by omega, ?_⟩
  unfold rv
  rw [g3, h3]
theorem asRat_ok {w : World} {v : Av} {q : Rat} {K : Nat} {vs : List Value} (h : asRat v = some (q, K)) (hv : Hold w v vs) : ∃ b s t, vs = [b, s, t] ∧ IsRat w b s t q K := by
  unfold asRat at h
  split at h
  · simp only [Option.some.injEq, Prod.mk.injEq] at h
    obtain ⟨rfl, rfl⟩ := h
    exact cons_nil hv
  · simp only [Option.some.injEq, Prod.mk.injEq] at h
    obtain ⟨rfl, rfl⟩ := h
    obtain ⟨A, c, B, d, rfl, h1, h2, h3⟩ := cons_nil hv
    exact ⟨_, _, _, rfl, _, A, _, c, B, _, d, rfl, rfl, rfl, h1, h2, h3.1, h3.2, h3.one, rv_canon _⟩
  · rename_i a d
    obtain ⟨x, y, rfl, hx, hy⟩ := hv
    cases ha : asInt (.cons a .nil) with
    | none => rw [ha] at h; cases h
    | some p =>
      cases hd : asNat1 d with
      | none => rw [ha, hd] at h; cases h
      | some r =>
        obtain ⟨n, KK⟩ := p
        obtain ⟨m, LL⟩ := r
        rw [ha, hd] at h
        simp only [Option.some.injEq, Prod.mk.injEq] at h
        obtain ⟨rfl, rfl⟩ := h
        obtain ⟨b, s, rfl, hi⟩ := asInt_ok ha (vs := x) ⟨x, [], (List.append_nil _).symm, hx, rfl⟩
        obtain ⟨A, xs, c, e, h1, h2, h3⟩ := asNat1_ok hd (cons_nil hy)
        subst e
        exact ⟨b, s, _, rfl, isRat_mk hi rfl h1 h2 h3⟩
  · rename_i a b d
    obtain ⟨x, y, rfl, hx, hy⟩ := hv
    obtain ⟨y1, y2, rfl, hy1, hy2⟩ := hy
    cases ha : asInt (.cons a (.cons b .nil)) with
    | none => rw [ha] at h; cases h
    | some p =>
      cases hd : asNat1 d with
      | none => rw [ha, hd] at h; cases h
      | some r =>
        obtain ⟨n, KK⟩ := p
        obtain ⟨m, LL⟩ := r
        rw [ha, hd] at h
        simp only [Option.some.injEq, Prod.mk.injEq] at h
        obtain ⟨rfl, rfl⟩ := h
        obtain ⟨b, s, e1, hi⟩ := asInt_ok ha (vs := x ++ y1) ⟨x, y1, rfl, hx, y1, [], (List.append_nil _).symm, hy1, rfl⟩
        obtain ⟨A, xs, c, e, h1, h2, h3⟩ := asNat1_ok hd (cons_nil hy2)
        subst e
        refine ⟨b, s, _, ?_, isRat_mk hi rfl h1 h2 h3⟩
        rw [← List.append_assoc, e1]; rfl
  · cases h
/-- what fits is so -/
theorem fitC_ok : ∀ (want have' : Av), fitC want have' → ∀ (w : World) (vs : List Value), Hold w have' vs → Hold w want vs := by
  intro want
  induction want with
  | any =>
    intro x h w vs hv
    simp only [fitC] at h
    split at h
    · rename_i y
      rw [hasSz_eq] at h
      by_cases hs : (Av.cons y .nil).size = 1
      · have := hv.len
        rw [hs] at this
        exact List.length_eq_one_iff.1 this
      · rw [if_neg hs] at h; exact h.elim
    · exact h.elim
  | rat q K =>
    intro x h w vs hv
    simp only [fitC] at h
    split at h
    · obtain ⟨rfl, hk⟩ := h
      obtain ⟨A, c, B, d, rfl, h1, h2, h3⟩ := cons_nil hv
      have h4 : Sz _ K := hk.elim h3.mono id
      exact ⟨_, _, _, rfl, _, A, _, c, B, _, d, rfl, rfl, rfl, h1, h2, h4.1, h4.2, h4.one, rv_canon _⟩
    · cases ha : asRat x with
      | none => rw [ha] at h; exact h.elim
      | some p =>
        obtain ⟨q', K'⟩ := p
        rw [ha] at h
        obtain ⟨rfl, hk⟩ := h
        obtain ⟨b, s, t, e, hr⟩ := asRat_ok ha hv
        exact ⟨b, s, t, e, hr.mono hk⟩
  | int q K =>
    intro x h w vs hv
    simp only [fitC] at h
    split at h
    · obtain ⟨rfl, hk⟩ := h
      obtain ⟨A, c, rfl, h1, h2⟩ := cons_nil hv
      exact ⟨_, _, rfl, _, A, _, c, rfl, rfl, h1, hk.elim (Nat.le_trans h2) id, iv_canon _⟩
    · cases ha : asInt x with
      | none => rw [ha] at h; exact h.elim
      | some p =>
        obtain ⟨q', K'⟩ := p
        rw [ha] at h
        obtain ⟨rfl, hk⟩ := h
        obtain ⟨b, s, e, hr⟩ := asInt_ok ha hv
        exact ⟨b, s, e, hr.mono hk⟩
  | nat q K =>
    intro x h w vs hv
    simp only [fitC] at h
    split at h
    · rename_i y
      cases ha : asNat1 y with
      | none => rw [ha] at h; exact h.elim
      | some p =>
        obtain ⟨q', K'⟩ := p
        rw [ha] at h
        obtain ⟨rfl, hk⟩ := h
        obtain ⟨A, xs, c, e, h1, h2, h3⟩ := asNat1_ok ha (cons_nil hv)
        exact ⟨A, xs, c, e, h1, Nat.le_trans h2 hk, h3⟩
    · exact h.elim
  | ratC q K =>
    intro x h w vs hv
    simp only [fitC] at h
    split at h
    · obtain ⟨rfl, hk⟩ := h
      obtain ⟨A, c, B, d, e, h1, h2, h3⟩ := cons_nil hv
      exact ⟨A, c, B, d, e, h1, h2, hk.elim h3.mono id⟩
    · obtain ⟨rfl, rfl, hk⟩ := h
      obtain ⟨x, y, rfl, ⟨A, c, rfl, h1, h2⟩, hy⟩ := hv
      obtain ⟨B, d, rfl, h3, h4⟩ := cons_nil hy
      exact ⟨A, c, B, d, rfl, h1, h3, hk.elim (fun hk => ⟨Nat.le_trans h2 hk.1, Nat.le_trans h4 hk.2⟩) id⟩
    · rename_i n K' sz m f
      cases hl : lit1 sz m f with
      | none => rw [hl] at h; exact h.elim
      | some d =>
        rw [hl] at h
        obtain ⟨rfl, rfl, hk⟩ := h
        obtain ⟨x, y, rfl, ⟨A, c, rfl, h1, h2⟩, hy⟩ := hv
        obtain ⟨B, d', rfl, h3, h4⟩ := lit1_ok hl (cons_nil hy)
        exact ⟨A, c, B, d', rfl, h1, h3, hk.elim (fun hk => ⟨Nat.le_trans h2 hk.1, by rw [h4]; exact hk.2⟩) id⟩
    · exact h.elim
  | intC q K =>
    intro x h w vs hv
    simp only [fitC] at h
    split at h
    · obtain ⟨rfl, hk⟩ := h
      obtain ⟨A, c, e, h1, h2⟩ := cons_nil hv
      exact ⟨A, c, e, h1, hk.elim (Nat.le_trans h2) id⟩
    · rename_i d L
      obtain ⟨rfl, hl⟩ := h
      obtain ⟨x, y, rfl, hx, hy⟩ := hv
      obtain ⟨A, c, rfl, h1, h2⟩ := cons_nil hy
      simp only [Hold] at hx
      subst hx
      refine ⟨A, c, ?_, by rw [Int.natAbs_natCast]; exact h1, ?_⟩
      · rw [Int.natAbs_natCast, decide_eq_false (by omega)]; rfl
      · refine hl.elim (fun hl => ?_) id
        unfold SzI; rw [Int.natAbs_natCast]; exact Nat.le_trans h2 hl
    · exact h.elim
  | natC q K =>
    intro x h w vs hv
    simp only [fitC] at h
    split at h
    · obtain ⟨rfl, hk⟩ := h
      obtain ⟨A, c, e, h1, h2⟩ := cons_nil hv
      exact ⟨A, c, e, h1, hk.elim (Nat.le_trans h2) id⟩
    · rename_i sz n f
      cases hl : lit1 sz n f with
      | none => rw [hl] at h; exact h.elim
      | some d =>
        rw [hl] at h
        obtain ⟨rfl, h1K⟩ := h
        obtain ⟨A, c, e, h1, h2⟩ := lit1_ok hl (cons_nil hv)
        exact ⟨A, c, e, h1, by rw [h2]; exact h1K⟩
    · exact h.elim
  | kb b =>
    intro x h w vs hv
    simp only [fitC] at h
    split at h
    · subst h; exact cons_nil hv
    · subst h; exact cons_nil hv
    · exact h.elim
  | val v =>
    intro x h w vs hv
    simp only [fitC] at h
    split at h
    · subst h; exact cons_nil hv
    · subst h; exact cons_nil hv
    · exact h.elim
  | list sz n f ih =>
    intro x h w vs hv
    unfold fitC at h
    split at h
    · obtain ⟨rfl, rfl, hf⟩ := h
      obtain ⟨A, c, e, h1, h2⟩ := cons_nil hv
      refine ⟨A, c, e, h1, fun h0 => ?_⟩
      obtain ⟨b, off, us, e2, g1, g2, g3, g4, g5⟩ := h2 h0
      exact ⟨b, off, us, e2, g1, g2, g3, g4, fun i hi => ih i _ (hf i hi) w _ (g5 i hi)⟩
    · subst h
      have := cons_nil hv
      simp only [Hold] at this
      exact ⟨none, 0, this, ⟨Nat.le_refl _, by decide⟩, fun h0 => by omega⟩
    · exact h.elim
  | agg c ih =>
    intro x h w vs hv
    simp only [fitC] at h
    split at h
    · obtain ⟨us, e, hu⟩ := cons_nil hv
      exact ⟨us, e, ih _ h w us hu⟩
    · exact h.elim
  | tup c ih =>
    intro x h w vs hv
    simp only [fitC] at h
    split at h
    · obtain ⟨us, e, hu⟩ := cons_nil hv
      exact ⟨us, e, ih _ h w us hu⟩
    · exact h.elim
  | nil =>
    intro x h w vs hv
    simp only [fitC] at h
    split at h
    · exact hv
    · exact h.elim
  | cons a b iha ihb =>
    intro x h w vs hv
    simp only [fitC] at h
    rw [szK_eq] at h
    obtain ⟨p, q, hs, h1, h2⟩ := split_ok (fun r : Prop => r) (by simp) _ _ _ _ h
    obtain ⟨u1, u2, e, _, g1, g2⟩ := hs.hold w vs hv
    exact ⟨u1, u2, e, iha _ h1 w u1 g1, ihb _ h2 w u2 g2⟩
  | pp => intro x h; simp only [fitC] at h
  | ptr => intro x h; simp only [fitC] at h
  | rptr => intro x h; simp only [fitC] at h
  | row => intro x h; simp only [fitC] at h
theorem fitC_rob {own : Nat → Prop} {w : World} {want have' : Av} (h : fitC want have') {vs : List Value} (hv : Rob own w have' vs) : Rob own w want vs := fun w' hg => fitC_ok want have' h w' vs (hv w' hg)

theorem asNat1_pers {v : Av} {p : Nat × Nat} (h : asNat1 v = some p) : v.pers = true := by
  cases v <;> first | rfl | cases h
theorem asInt_pers {v : Av} {p : Int × Nat} (h : asInt v = some p) : v.pers = true := by
  unfold asInt at h
  split at h
  · rfl
  · rfl
  · rename_i p d
    cases hd : asNat1 d with
    | none => rw [hd] at h; cases h
    | some q =>
      rw [hd] at h
      simp only [Av.pers, asNat1_pers hd]
      cases p <;> first | rfl | cases h
  · cases h
theorem asRat_pers {v : Av} {p : Rat × Nat} (h : asRat v = some p) : v.pers = true := by
  unfold asRat at h
  split at h
  · rfl
  · rfl
  · rename_i a d
    cases ha : asInt (.cons a .nil) with
    | none => rw [ha] at h; cases h
    | some p =>
      cases hd : asNat1 d with
      | none => rw [ha, hd] at h; cases h
      | some r =>
        have h1 := asInt_pers ha
        simp only [Av.pers, Bool.and_true] at h1
        simp only [Av.pers, asNat1_pers hd, h1]; rfl
  · rename_i a b d
    cases ha : asInt (.cons a (.cons b .nil)) with
    | none => rw [ha] at h; cases h
    | some p =>
      cases hd : asNat1 d with
      | none => rw [ha, hd] at h; cases h
      | some r =>
        have h1 := asInt_pers ha
        simp only [Av.pers, Bool.and_true] at h1
        simp only [Av.pers, asNat1_pers hd, Bool.and_true, h1]
  · cases h
theorem fitC_ok2 : ∀ (want have' : Av), fitC want have' → ∀ (E : Env) (own : Nat → Prop) (w : World) (vs : List Value), Ok E own w have' vs → Rob own w want vs := by
  intro want
  induction want with
  | any =>
    intro x h E own w vs hv w' _
    simp only [fitC] at h
    split at h
    · rename_i y
      rw [hasSz_eq] at h
      by_cases hs : (Av.cons y .nil).size = 1
      · have := hv.len
        rw [hs] at this
        exact List.length_eq_one_iff.1 this
      · rw [if_neg hs] at h; exact h.elim
    · exact h.elim
  | rat q K =>
    intro x h E own w vs hv
    have hp : x.pers = true := by
      simp only [fitC] at h
      split at h
      · rfl
      · cases ha : asRat x with
        | none => rw [ha] at h; exact h.elim
        | some p => exact asRat_pers ha
    exact fitC_rob h (Ok.rob hp hv)
  | int q K =>
    intro x h E own w vs hv
    have hp : x.pers = true := by
      simp only [fitC] at h
      split at h
      · rfl
      · cases ha : asInt x with
        | none => rw [ha] at h; exact h.elim
        | some p => exact asInt_pers ha
    exact fitC_rob h (Ok.rob hp hv)
  | nat q K =>
    intro x h E own w vs hv
    have hp : x.pers = true := by
      simp only [fitC] at h
      split at h
      · rename_i y
        cases ha : asNat1 y with
        | none => rw [ha] at h; exact h.elim
        | some p => simp only [Av.pers, asNat1_pers ha]; rfl
      · exact h.elim
    exact fitC_rob h (Ok.rob hp hv)
  | ratC q K =>
    intro x h E own w vs hv
    have hp : x.pers = true := by
      simp only [fitC] at h
      split at h
      · rfl
      · rfl
      · rfl
      · exact h.elim
    exact fitC_rob h (Ok.rob hp hv)
  | intC q K =>
    intro x h E own w vs hv
    have hp : x.pers = true := by
      simp only [fitC] at h
      split at h
      · rfl
      · rfl
      · exact h.elim
    exact fitC_rob h (Ok.rob hp hv)
  | natC q K =>
    intro x h E own w vs hv
    have hp : x.pers = true := by
      simp only [fitC] at h
      split at h
      · rfl
      · rfl
      · exact h.elim
    exact fitC_rob h (Ok.rob hp hv)
  | kb b =>
    intro x h E own w vs hv
    have hp : x.pers = true := by
      simp only [fitC] at h
      split at h
      · rfl
      · rfl
      · exact h.elim
    exact fitC_rob h (Ok.rob hp hv)
  | val v =>
    intro x h E own w vs hv
    have hp : x.pers = true := by
      simp only [fitC] at h
      split at h
      · rfl
      · rfl
      · exact h.elim
    exact fitC_rob h (Ok.rob hp hv)
  | list sz n f _ =>
    intro x h E own w vs hv
    have hp : x.pers = true := by
      unfold fitC at h
      split at h
      · rfl
      · rfl
      · exact h.elim
    exact fitC_rob h (Ok.rob hp hv)
  | agg c ih =>
    intro x h E own w vs hv
    simp only [fitC] at h
    split at h
    · obtain ⟨x, y, rfl, ⟨us, rfl, hu⟩, hy⟩ := hv
      simp only [Ok] at hy
      subst hy
      exact fun w' hg => ⟨us, rfl, ih _ h E own w us hu w' hg⟩
    · exact h.elim
  | tup c ih =>
    intro x h E own w vs hv
    simp only [fitC] at h
    split at h
    · obtain ⟨x, y, rfl, ⟨us, rfl, hu⟩, hy⟩ := hv
      simp only [Ok] at hy
      subst hy
      exact fun w' hg => ⟨us, rfl, ih _ h E own w us hu w' hg⟩
    · exact h.elim
  | nil =>
    intro x h E own w vs hv
    simp only [fitC] at h
    split at h
    · exact fun _ _ => hv
    · exact h.elim
  | cons a b iha ihb =>
    intro x h E own w vs hv
    simp only [fitC] at h
    rw [szK_eq] at h
    obtain ⟨p, q, hs, h1, h2⟩ := split_ok (fun r : Prop => r) (by simp) _ _ _ _ h
    obtain ⟨u1, u2, e, _, g1, g2⟩ := hs.ok E own w vs hv
    exact fun w' hg => ⟨u1, u2, e, iha _ h1 E own w u1 g1 w' hg, ihb _ h2 E own w u2 g2 w' hg⟩
  | pp => intro x h; simp only [fitC] at h
  | ptr => intro x h; simp only [fitC] at h
  | rptr => intro x h; simp only [fitC] at h
  | row => intro x h; simp only [fitC] at h
/-- the environments fit by the names m -/
structure EFit (E E' : Env) (m : List (Nat × Option Nat)) : Prop where
  β : ∀ i, E'.β i = E.β i
  some : ∀ t i, (t, some i) ∈ m → E'.σ t = E.σ i
  none : ∀ t, (t, none) ∈ m → E'.σ t = .slice none 0 0
theorem EFit.left {E E' : Env} {m m' : List (Nat × Option Nat)} (h : EFit E E' (m ++ m')) : EFit E E' m := ⟨h.β, fun t i hm => h.some t i (List.mem_append_left _ hm), fun t hm => h.none t (List.mem_append_left _ hm)⟩
theorem EFit.right {E E' : Env} {m m' : List (Nat × Option Nat)} (h : EFit E E' (m ++ m')) : EFit E E' m' := ⟨h.β, fun t i hm => h.some t i (List.mem_append_right _ hm), fun t hm => h.none t (List.mem_append_right _ hm)⟩
theorem fitO_ok : ∀ (want : Av) (k : List (Nat × Option Nat) → Prop) (have' : Av) (m0 : List (Nat × Option Nat)), fitO k want have' m0 → ∃ m1, k (m1 ++ m0) ∧ ∀ (E E' : Env) (own own' : Nat → Prop) (w : World), EFit E E' m1 → (∀ b, b < w.heap.size → own' b → own b) → ∀ vs, Ok E own w have' vs → Ok E' own' w want vs := by
  have plain : ∀ (want : Av) (k : List (Nat × Option Nat) → Prop) (have' : Av) (m0 : List (Nat × Option Nat)), fitC want have' ∧ k m0 → ∃ m1, k (m1 ++ m0) ∧ ∀ (E E' : Env) (own own' : Nat → Prop) (w : World), EFit E E' m1 → (∀ b, b < w.heap.size → own' b → own b) → ∀ vs, Ok E own w have' vs → Ok E' own' w want vs := by
    intro want k have' m0 h
    exact ⟨[], h.2, fun E E' own own' w _ hs vs hv => Rob.ok ((fitC_ok2 _ _ h.1 E own w vs hv).own hs)⟩
  intro want
  induction want with
  | row t =>
    intro k x m0 h
    simp only [fitO] at h
    split at h
    · rename_i i
      refine ⟨[(t, some i)], h, fun E E' own own' w he _ vs hv => ?_⟩
      obtain ⟨x, y, rfl, ⟨rfl, h1⟩, hy⟩ := hv
      simp only [Ok] at hy
      subst hy
      have e := he.some t i (by simp)
      exact ⟨by rw [e]; rfl, by rw [e]; exact h1⟩
    · refine ⟨[(t, none)], h, fun E E' own own' w he _ vs hv => ?_⟩
      obtain ⟨x, y, rfl, hx, hy⟩ := hv
      simp only [Ok] at hy
      subst hy
      have hx' := Rob.here hx
      simp only [Hold] at hx'
      subst hx'
      have e := he.none t (by simp)
      exact ⟨by rw [e]; rfl, by rw [e]; rfl⟩
    · exact h.elim
  | ptr i o =>
    intro k x m0 h
    simp only [fitO] at h
    split at h
    · rename_i i' o'
      cases h1 : Nat.beq i i' with
      | false => rw [h1] at h; exact h.elim
      | true =>
        cases h2 : Nat.beq o o' with
        | false => rw [h1, h2] at h; exact h.elim
        | true =>
          rw [h1, h2] at h
          have := Nat.beq_ok h1
          subst this
          have := Nat.beq_ok h2
          subst this
          refine ⟨[], h, fun E E' own own' w he _ vs hv => ?_⟩
          obtain ⟨x, y, rfl, hx, hy⟩ := hv
          simp only [Ok] at hy hx
          subst hy; subst hx
          simp only [Ok, List.append_nil, he.β]
    · exact h.elim
  | agg c ih =>
    intro k x m0 h
    simp only [fitO] at h
    split at h
    · obtain ⟨m1, h1, h2⟩ := ih k _ m0 h
      refine ⟨m1, h1, fun E E' own own' w he hs vs hv => ?_⟩
      obtain ⟨x, y, rfl, ⟨us, rfl, hu⟩, hy⟩ := hv
      simp only [Ok] at hy
      subst hy
      exact ⟨us, rfl, h2 E E' own own' w he hs us hu⟩
    · exact h.elim
  | nil =>
    intro k x m0 h
    simp only [fitO] at h
    split at h
    · exact ⟨[], h, fun E E' own own' w _ _ vs hv => hv⟩
    · exact h.elim
  | cons a b iha ihb =>
    intro k x m0 h
    simp only [fitO] at h
    rw [szK_eq] at h
    obtain ⟨p, q, hs, h⟩ := split_ok (fun r : Prop => r) (by simp) _ _ _ _ h
    obtain ⟨m1, h, h1⟩ := iha _ _ _ h
    obtain ⟨m2, h, h2⟩ := ihb _ _ _ h
    refine ⟨m2 ++ m1, by rw [List.append_assoc]; exact h, fun E E' own own' w he hso vs hv => ?_⟩
    obtain ⟨u1, u2, e, _, g1, g2⟩ := hs.ok E own w vs hv
    exact ⟨u1, u2, e, h1 E E' own own' w he.right hso u1 g1, h2 E E' own own' w he.left hso u2 g2⟩
  | _ => intro k x m0 h; simp only [fitO] at h; exact plain _ k x m0 h

def killSV (m : Nat) : List Av → Nat → List Av
  | [], _ => []
  | v :: l, i => (if m.testBit i then .any else v) :: killSV m l (i + 1)
def killOV (m : Nat) : List Ob → Nat → List Ob
  | [], _ => []
  | v :: l, i => (if m.testBit i then .none else v) :: killOV m l (i + 1)
theorem killS_eq (m : Nat) : ∀ (l : List Av) (i : Nat) (k : List Av → Prop), killS m l i k = k (killSV m l i) := by
  intro l
  induction l with
  | nil => intro i k; rfl
  | cons v l ih =>
    intro i k
    simp only [killS, killSV]
    cases Nat.testBit m i with
    | true => simp only [ih]; rfl
    | false => simp only [ih]; rfl
theorem killO_eq (m : Nat) : ∀ (l : List Ob) (i : Nat) (k : List Ob → Prop), killO m l i k = k (killOV m l i) := by
  intro l
  induction l with
  | nil => intro i k; rfl
  | cons v l ih =>
    intro i k
    simp only [killO, killOV]
    cases Nat.testBit m i with
    | true => simp only [ih]; rfl
    | false => simp only [ih]; rfl
theorem killSV_len (m : Nat) : ∀ (l : List Av) (i : Nat), (killSV m l i).length = l.length := by
  intro l
  induction l with
  | nil => intro i; rfl
  | cons v l ih => intro i; simp only [killSV, List.length_cons, ih]
theorem killOV_len (m : Nat) : ∀ (l : List Ob) (i : Nat), (killOV m l i).length = l.length := by
  intro l
  induction l with
  | nil => intro i; rfl
  | cons v l ih => intro i; simp only [killOV, List.length_cons, ih]
theorem killSV_get (m : Nat) : ∀ (l : List Av) (i t : Nat), (killSV m l i).getD t .any = if m.testBit (i + t) then .any else l.getD t .any := by
  intro l
  induction l with
  | nil => intro i t; simp [killSV]
  | cons v l ih =>
    intro i t
    cases t with
    | zero => simp [killSV]
    | succ t =>
      have := ih (i + 1) t
      rw [show i + 1 + t = i + (t + 1) by omega] at this
      simpa [killSV] using this
theorem killOV_get (m : Nat) : ∀ (l : List Ob) (i t : Nat), (killOV m l i).getD t .none = if m.testBit (i + t) then .none else l.getD t .none := by
  intro l
  induction l with
  | nil => intro i t; simp [killOV]
  | cons v l ih =>
    intro i t
    cases t with
    | zero => simp [killOV]
    | succ t =>
      have := ih (i + 1) t
      rw [show i + 1 + t = i + (t + 1) by omega] at this
      simpa [killOV] using this
def baseV (ks ko : Nat) (s : St) : St := ⟨killSV ks s.tm 0, killOV ko s.ob 0⟩
theorem baseK_eq (ks ko : Nat) (s : St) (k : St → Prop) : baseK ks ko s k = k (baseV ks ko s) := by
  obtain ⟨tm, ob⟩ := s
  simp only [baseK, killS_eq, killO_eq]; rfl
theorem base_slot (ks ko : Nat) (s : St) (t : Nat) : (baseV ks ko s).slot t = if ks.testBit t then .any else s.slot t := by
  have := killSV_get ks s.tm 0 t
  rw [Nat.zero_add] at this
  exact this
theorem base_obj (ks ko : Nat) (s : St) (t : Nat) : (baseV ks ko s).obj t = if ko.testBit t then .none else s.obj t := by
  have := killOV_get ko s.ob 0 t
  rw [Nat.zero_add] at this
  exact this
def headV : List It → St → St
  | [], s => s
  | .slot t v :: l, s => headV l ⟨s.tm.set t v, s.ob⟩
  | .obj i cs :: l, s => headV l ⟨s.tm, s.ob.set i (.var cs)⟩
  | .mod i T sz n f :: l, s => headV l ⟨s.tm, s.ob.set i (.row T sz n f)⟩
  | .own i T sz n f :: l, s => headV l ⟨s.tm, s.ob.set i (.row T sz n f)⟩
theorem headK_eq (k : St → Prop) : ∀ (l : List It) (s : St), headK k l s = k (headV l s) := by
  intro l
  induction l with
  | nil => intro s; rfl
  | cons i l ih =>
    intro s
    obtain ⟨tm, ob⟩ := s
    cases i <;> simp only [headK, headV, setK_eq, ih]
theorem headV_lens : ∀ (l : List It) (s : St), (headV l s).tm.length = s.tm.length ∧ (headV l s).ob.length = s.ob.length := by
  intro l
  induction l with
  | nil => intro s; exact ⟨rfl, rfl⟩
  | cons i l ih =>
    intro s
    cases i <;> (simp only [headV]; refine ⟨(ih _).1.trans ?_, (ih _).2.trans ?_⟩ <;> simp)
theorem headV_slot : ∀ (l : List It) (s : St) (t : Nat), (headV l s).slot t = s.slot t ∨ ∃ v, It.slot t v ∈ l ∧ (headV l s).slot t = v := by
  intro l
  induction l with
  | nil => intro s t; exact .inl rfl
  | cons i l ih =>
    intro s t
    have lift : ∀ s', (headV l s').slot t = s'.slot t ∨ (∃ v, It.slot t v ∈ l ∧ (headV l s').slot t = v) → s'.slot t = s.slot t → (headV l s').slot t = s.slot t ∨ ∃ v, It.slot t v ∈ i :: l ∧ (headV l s').slot t = v := by
      rintro s' (h | ⟨v, h1, h2⟩) e
      · exact .inl (h.trans e)
      · exact .inr ⟨v, List.mem_cons_of_mem _ h1, h2⟩
    cases i with
    | slot t' v =>
      simp only [headV]
      by_cases e : t' = t ∧ t' < s.tm.length
      · rcases ih ⟨s.tm.set t' v, s.ob⟩ t with h | ⟨v', h1, h2⟩
        · rw [slot_set, if_pos e] at h
          exact .inr ⟨v, by rw [e.1]; exact List.mem_cons_self, h⟩
        · exact .inr ⟨v', List.mem_cons_of_mem _ h1, h2⟩
      · exact lift _ (ih _ t) (by rw [slot_set, if_neg e])
    | obj => exact lift _ (ih _ t) rfl
    | mod => exact lift _ (ih _ t) rfl
    | own => exact lift _ (ih _ t) rfl
def itOb : It → Option (Nat × Ob)
  | .slot _ _ => none
  | .obj k cs => some (k, .var cs)
  | .mod k T sz n f => some (k, .row T sz n f)
  | .own k T sz n f => some (k, .row T sz n f)
theorem headV_obj : ∀ (l : List It) (s : St) (k : Nat), (headV l s).obj k = s.obj k ∨ ∃ i ∈ l, itOb i = some (k, (headV l s).obj k) := by
  intro l
  induction l with
  | nil => intro s k; exact .inl rfl
  | cons i l ih =>
    intro s k
    have key : ∀ (j : Nat) (o : Ob), itOb i = some (j, o) → headV (i :: l) s = headV l ⟨s.tm, s.ob.set j o⟩ → (headV (i :: l) s).obj k = s.obj k ∨ ∃ x ∈ i :: l, itOb x = some (k, (headV (i :: l) s).obj k) := by
      intro j o hi he
      rw [he]
      rcases ih ⟨s.tm, s.ob.set j o⟩ k with h | ⟨x, h1, h2⟩
      · rw [obj_set] at h
        by_cases e : j = k ∧ j < s.ob.length
        · rw [if_pos e] at h
          exact .inr ⟨i, List.mem_cons_self, by rw [hi, h, e.1]⟩
        · rw [if_neg e] at h; exact .inl h
      · exact .inr ⟨x, List.mem_cons_of_mem _ h1, h2⟩
    cases i with
    | slot t v =>
      rcases ih ⟨s.tm.set t v, s.ob⟩ k with h | ⟨x, h1, h2⟩
      · exact .inl h
      · exact .inr ⟨x, List.mem_cons_of_mem _ h1, h2⟩
    | obj j cs => exact key j _ rfl rfl
    | mod j T sz n f => exact key j _ rfl rfl
    | own j T sz n f => exact key j _ rfl rfl
/-- what an item says of the state -/
def ItOk (s : St) (m : List (Nat × Option Nat)) : It → Prop
  | .slot t v => ∀ (E E' : Env) (own own' : Nat → Prop) (w : World), EFit E E' m → (∀ b, b < w.heap.size → own' b → own b) → ∀ vs, Ok E own w (s.slot t) vs → Ok E' own' w v vs
  | .obj k cs => ∃ h, s.obj k = .var h ∧ ∀ (E E' : Env) (own own' : Nat → Prop) (w : World), EFit E E' m → (∀ b, b < w.heap.size → own' b → own b) → ∀ vs, Ok E own w h vs → Ok E' own' w cs vs
  | .mod k T sz n f => rowFit T sz n f (s.obj k) ∧ (k, some k) ∈ m
  | .own _ _ _ _ _ => True
theorem ItOk.app {s : St} {m : List (Nat × Option Nat)} (m' : List (Nat × Option Nat)) {i : It} (h : ItOk s m i) : ItOk s (m' ++ m) i := by
  cases i with
  | slot t v => exact fun E E' own own' w he => h E E' own own' w he.right
  | obj k cs => obtain ⟨x, h1, h2⟩ := h; exact ⟨x, h1, fun E E' own own' w he => h2 E E' own own' w he.right⟩
  | mod k T sz n f => exact ⟨h.1, List.mem_append_right _ h.2⟩
  | own => trivial
theorem itsFit_ok {s : St} {c : List (Nat × Option Nat) → Prop} : ∀ (l : List It) (m0 : List (Nat × Option Nat)), itsFit s c l m0 → ∃ m1, c (m1 ++ m0) ∧ ∀ i ∈ l, ItOk s (m1 ++ m0) i := by
  intro l
  induction l with
  | nil => intro m0 h; exact ⟨[], h, by intro i hi; cases hi⟩
  | cons i l ih =>
    intro m0 h
    cases i with
    | slot t v =>
      simp only [itsFit] at h
      rw [getK_eq] at h
      obtain ⟨m1, h, h1⟩ := fitO_ok _ _ _ _ h
      obtain ⟨m2, h, h2⟩ := ih _ h
      refine ⟨m2 ++ m1, by rw [List.append_assoc]; exact h, fun i hi => ?_⟩
      rcases List.mem_cons.1 hi with rfl | hi
      · rw [List.append_assoc]
        refine ItOk.app m2 (m := m1 ++ m0) ?_
        intro E E' own own' w he hs vs hv
        exact h1 E E' own own' w he.left hs vs ⟨vs, [], (List.append_nil _).symm, hv, rfl⟩
      · rw [List.append_assoc]; exact h2 i hi
    | obj k cs =>
      simp only [itsFit] at h
      rw [getK_eq] at h
      have hk : s.ob.getD k .none = s.obj k := rfl
      rw [hk] at h
      cases hob : s.obj k with
      | var x =>
        rw [hob] at h
        obtain ⟨m1, h, h1⟩ := fitO_ok _ _ _ _ h
        obtain ⟨m2, h, h2⟩ := ih _ h
        refine ⟨m2 ++ m1, by rw [List.append_assoc]; exact h, fun i hi => ?_⟩
        rcases List.mem_cons.1 hi with rfl | hi
        · rw [List.append_assoc]
          exact ItOk.app m2 (m := m1 ++ m0) ⟨x, hob, fun E E' own own' w he hs vs hv => h1 E E' own own' w he.left hs vs hv⟩
        · rw [List.append_assoc]; exact h2 i hi
      | none => rw [hob] at h; exact h.elim
      | row => rw [hob] at h; exact h.elim
      | froz => rw [hob] at h; exact h.elim
    | mod k T sz n f =>
      simp only [itsFit] at h
      rw [getK_eq] at h
      obtain ⟨m2, h', h2⟩ := ih _ h.2
      refine ⟨m2 ++ [(k, some k)], by simpa using h', fun i hi => ?_⟩
      rcases List.mem_cons.1 hi with rfl | hi
      · exact ⟨h.1, by simp⟩
      · have := h2 i hi; simpa using this
    | own =>
      simp only [itsFit] at h
      obtain ⟨m2, h', h2⟩ := ih _ h
      refine ⟨m2, h', fun i hi => ?_⟩
      rcases List.mem_cons.1 hi with rfl | hi
      · trivial
      · exact h2 i hi
theorem ownsFit_ok {s : St} {ko : Nat} {m : List (Nat × Option Nat)} : ∀ (l : List It), ownsFit s ko m l → ∀ t T sz n f, It.own t T sz n f ∈ l → ko.testBit t = true ∧ ((∃ k, look m t = some (some k) ∧ ko.testBit k = true ∧ rowFit T sz n f (s.obj k)) ∨ (look m t = some none ∧ n = 0)) := by
  intro l
  induction l with
  | nil => intro _ t T sz n f h; cases h
  | cons i l ih =>
    intro h t T sz n f hm
    cases i with
    | own t' T' sz' n' f' =>
      simp only [ownsFit] at h
      rcases List.mem_cons.1 hm with e | hm
      · cases e
        have h1 := h.1
        cases hbt : Nat.testBit ko t with
        | false => rw [hbt] at h1; exact h1.elim
        | true =>
        refine ⟨rfl, ?_⟩
        rw [hbt] at h1
        simp only at h1
        cases hl : look m t with
        | none => rw [hl] at h1; exact h1.elim
        | some o =>
          rw [hl] at h1
          cases o with
          | none => exact .inr ⟨rfl, h1⟩
          | some k =>
            simp only at h1
            cases hb : Nat.testBit ko k with
            | false => rw [hb] at h1; exact h1.elim
            | true =>
              rw [hb] at h1
              simp only [getK_eq] at h1
              exact .inl ⟨k, rfl, hb, h1⟩
      · exact ih h.2 t T sz n f hm
    | slot => exact ih h t T sz n f ((List.mem_cons.1 hm).resolve_left (by intro e; cases e))
    | obj => exact ih h t T sz n f ((List.mem_cons.1 hm).resolve_left (by intro e; cases e))
    | mod => exact ih h t T sz n f ((List.mem_cons.1 hm).resolve_left (by intro e; cases e))
theorem nodupM_ok : ∀ (l : List (Nat × Option Nat)) (a b : Nat), nodupM l a b = true → (∀ p ∈ l, a.testBit p.1 = false ∧ ∀ k, p.2 = some k → b.testBit k = false) ∧ (∀ p ∈ l, ∀ q ∈ l, p.1 = q.1 → p = q) ∧ (∀ p ∈ l, ∀ q ∈ l, ∀ k, p.2 = some k → q.2 = some k → p = q) := by
  intro l
  induction l with
  | nil => intro a b _; exact ⟨by simp, by simp, by simp⟩
  | cons p l ih =>
    obtain ⟨t, o⟩ := p
    intro a b h
    simp only [nodupM] at h
    cases ht : Nat.testBit a t with
    | true => rw [ht] at h; cases h
    | false =>
      rw [ht] at h
      cases o with
      | none =>
        obtain ⟨h1, h2, h3⟩ := ih _ _ h
        refine ⟨fun p hp => ?_, fun p hp q hq e => ?_, fun p hp q hq k e1 e2 => ?_⟩
        · rcases List.mem_cons.1 hp with rfl | hp
          · exact ⟨ht, fun k hk => by cases hk⟩
          · have := h1 p hp
            refine ⟨?_, this.2⟩
            have h4 := this.1
            rw [lor_test] at h4
            simpa using (Bool.or_eq_false_iff.1 h4).1
        · rcases List.mem_cons.1 hp with rfl | hp <;> rcases List.mem_cons.1 hq with rfl | hq
          · rfl
          · have := (h1 q hq).1; rw [lor_test, ← e, bit_tb] at this; simp at this
          · have := (h1 p hp).1; rw [lor_test, e, bit_tb] at this; simp at this
          · exact h2 p hp q hq e
        · rcases List.mem_cons.1 hp with rfl | hp
          · cases e1
          · rcases List.mem_cons.1 hq with rfl | hq
            · cases e2
            · exact h3 p hp q hq k e1 e2
      | some i =>
        simp only at h
        cases hi : Nat.testBit b i with
        | true => rw [hi] at h; cases h
        | false =>
          rw [hi] at h
          obtain ⟨h1, h2, h3⟩ := ih _ _ h
          refine ⟨fun p hp => ?_, fun p hp q hq e => ?_, fun p hp q hq k e1 e2 => ?_⟩
          · rcases List.mem_cons.1 hp with rfl | hp
            · exact ⟨ht, fun k hk => by cases hk; exact hi⟩
            · have := h1 p hp
              refine ⟨?_, fun k hk => ?_⟩
              · have h4 := this.1
                rw [lor_test] at h4
                exact (Bool.or_eq_false_iff.1 h4).1
              · have h4 := this.2 k hk
                rw [lor_test] at h4
                exact (Bool.or_eq_false_iff.1 h4).1
          · rcases List.mem_cons.1 hp with rfl | hp <;> rcases List.mem_cons.1 hq with rfl | hq
            · rfl
            · have := (h1 q hq).1; rw [lor_test, ← e, bit_tb] at this; simp at this
            · have := (h1 p hp).1; rw [lor_test, e, bit_tb] at this; simp at this
            · exact h2 p hp q hq e
          · rcases List.mem_cons.1 hp with rfl | hp <;> rcases List.mem_cons.1 hq with rfl | hq
            · rfl
            · cases e1
              have := (h1 q hq).2 _ e2; rw [lor_test, bit_tb] at this; simp at this
            · cases e2
              have := (h1 p hp).2 _ e1; rw [lor_test, bit_tb] at this; simp at this
            · exact h3 p hp q hq k e1 e2
theorem ownBits_k : ∀ (l : List It) (k : Nat → Prop) (m : Nat), ∃ m', ownBits k l m = k m' ∧ ∀ i, m'.testBit i = true ↔ m.testBit i = true ∨ ∃ T sz n f, It.own i T sz n f ∈ l := by
  intro l
  induction l with
  | nil => intro k m; exact ⟨m, rfl, fun i => by simp⟩
  | cons x l ih =>
    intro k m
    cases x with
    | own t T sz n f =>
      obtain ⟨m', e, h⟩ := ih k (Nat.lor m (bit t))
      refine ⟨m', e, fun i => ?_⟩
      rw [h, lor_test, bit_tb]
      constructor
      · rintro (h | ⟨T', sz', n', f', h⟩)
        · rcases (Bool.or_eq_true _ _ ▸ h : m.testBit i = true ∨ (t == i) = true) with h | h
          · exact .inl h
          · have : t = i := by simpa using h
            subst this
            exact .inr ⟨T, sz, n, f, List.mem_cons_self⟩
        · exact .inr ⟨T', sz', n', f', List.mem_cons_of_mem _ h⟩
      · rintro (h | ⟨T', sz', n', f', h⟩)
        · exact .inl (by rw [h]; rfl)
        · rcases List.mem_cons.1 h with e | h
          · cases e; exact .inl (by simp)
          · exact .inr ⟨T', sz', n', f', h⟩
    | slot => obtain ⟨m', e, h⟩ := ih k m; exact ⟨m', e, fun i => by rw [h]; simp⟩
    | obj => obtain ⟨m', e, h⟩ := ih k m; exact ⟨m', e, fun i => by rw [h]; simp⟩
    | mod => obtain ⟨m', e, h⟩ := ih k m; exact ⟨m', e, fun i => by rw [h]; simp⟩
theorem keysOk_ok {ow : Nat} : ∀ {l : List (Nat × Option Nat)}, keysOk ow l = true → ∀ t o, (t, o) ∈ l → ow.testBit t = true ∨ o = some t := by
  intro l
  induction l with
  | nil => intro _ t o h; cases h
  | cons p l ih =>
    obtain ⟨t', o'⟩ := p
    intro h t o hm
    simp only [keysOk] at h
    cases hb : Nat.testBit ow t' with
    | true =>
      rw [hb] at h
      rcases List.mem_cons.1 hm with e | hm
      · cases e; exact .inl hb
      · exact ih h t o hm
    | false =>
      rw [hb] at h
      cases o' with
      | none => cases h
      | some k =>
        simp only at h
        cases hk : Nat.beq t' k with
        | false => rw [hk] at h; cases h
        | true =>
          rw [hk] at h
          have := Nat.beq_ok hk
          subst this
          rcases List.mem_cons.1 hm with e | hm
          · cases e; exact .inr rfl
          · exact ih h t o hm
theorem look_of_mem {m : List (Nat × Option Nat)} (hn : ∀ p ∈ m, ∀ q ∈ m, p.1 = q.1 → p = q) {t : Nat} {o : Option Nat} (h : (t, o) ∈ m) : look m t = some o := by
  induction m with
  | nil => cases h
  | cons p m ih =>
    obtain ⟨t', o'⟩ := p
    simp only [look]
    cases hb : Nat.beq t' t with
    | true =>
      have := Nat.beq_ok hb
      subst this
      have := hn (t', o') List.mem_cons_self (t', o) h rfl
      cases this; rfl
    | false =>
      rcases List.mem_cons.1 h with e | h
      · cases e; rw [Nat.beq_refl] at hb; cases hb
      · exact ih (fun p hp q hq => hn p (List.mem_cons_of_mem _ hp) q (List.mem_cons_of_mem _ hq)) h
theorem ownsFree_ok {s : St} {c : Prop} : ∀ (l : List It), ownsFree s c l → c ∧ ∀ t T sz n f, It.own t T sz n f ∈ l → s.Free t := by
  intro l
  induction l with
  | nil => intro h; exact ⟨h, by intro t T sz n f h; cases h⟩
  | cons i l ih =>
    intro h
    cases i with
    | own t' T' sz' n' f' =>
      simp only [ownsFree] at h
      obtain ⟨hf, h⟩ := free_iff s t' _ h
      obtain ⟨h1, h2⟩ := ih h
      refine ⟨h1, fun t T sz n f hm => ?_⟩
      rcases List.mem_cons.1 hm with e | hm
      · cases e; exact hf
      · exact h2 t T sz n f hm
    | slot => obtain ⟨h1, h2⟩ := ih h; exact ⟨h1, fun t T sz n f hm => h2 t T sz n f ((List.mem_cons.1 hm).resolve_left (by intro e; cases e))⟩
    | obj => obtain ⟨h1, h2⟩ := ih h; exact ⟨h1, fun t T sz n f hm => h2 t T sz n f ((List.mem_cons.1 hm).resolve_left (by intro e; cases e))⟩
    | mod => obtain ⟨h1, h2⟩ := ih h; exact ⟨h1, fun t T sz n f hm => h2 t T sz n f ((List.mem_cons.1 hm).resolve_left (by intro e; cases e))⟩

section
variable {P : Program} {own0 ext : Nat → Prop} {w0 w : World} {s : St} {E : Env} {a : Act} {C : Ctx}
theorem rowFit_ok {T sz n : Nat} {f : Nat → Av} {o : Ob} (h : rowFit T sz n f o) : ∃ f', o = .row T sz n f' ∧ ∀ i, i < n → fitC (f i) (f' i) := by
  cases o with
  | row T' sz' n' f' => obtain ⟨rfl, rfl, rfl, h⟩ := h; exact ⟨f', rfl, h⟩
  | _ => exact h.elim
theorem Con.head (hc : Con own0 ext w0 s E a w) {ks ko : Nat} {its : List It} (hfit : loopFit s ko its) (hfree : ∀ t T sz n f, It.own t T sz n f ∈ its → (baseV ks ko s).Free t) : ∃ E', Con own0 ext w0 (headV its (baseV ks ko s)) E' a w := by
  unfold loopFit at hfit
  obtain ⟨m, ⟨hown, hnd, hkeys⟩, hits⟩ := itsFit_ok its [] hfit
  rw [List.append_nil] at hown hnd hkeys hits
  obtain ⟨ow, e1, how⟩ := ownBits_k its (fun ow => keysOk ow m = true) 0
  rw [e1] at hkeys
  obtain ⟨_, hn1, hn2⟩ := nodupM_ok m 0 0 hnd
  have hkeys' := keysOk_ok hkeys
  have how' : ∀ i, ow.testBit i = true ↔ ∃ T sz n f, It.own i T sz n f ∈ its := fun i => by rw [how]; simp
  generalize hE' : (⟨E.β, fun t => if ow.testBit t then (match look m t with | some (some i) => E.σ i | some none => .slice none 0 0 | none => E.σ t) else E.σ t⟩ : Env) = E'
  have hEn : ∀ t, ow.testBit t = false → E'.β t = E.β t ∧ E'.σ t = E.σ t := by
    intro t ht; rw [← hE']; exact ⟨rfl, by simp [ht]⟩
  have hef : EFit E E' m := by
    refine ⟨fun i => by rw [← hE'], fun t i hm => ?_, fun t hm => ?_⟩
    · cases hb : ow.testBit t with
      | true => rw [← hE']; simp only [hb, if_true, look_of_mem hn1 hm]
      | false =>
        rcases hkeys' t _ hm with h | h
        · rw [hb] at h; cases h
        · cases h; exact (hEn t hb).2
    · cases hb : ow.testBit t with
      | true => rw [← hE']; simp only [hb, if_true, look_of_mem hn1 hm]
      | false =>
        rcases hkeys' t _ hm with h | h
        · rw [hb] at h; cases h
        · cases h
  generalize hH : headV its (baseV ks ko s) = H
  have hnob : ∀ j, ko.testBit j = false → ow.testBit j = false := by
    intro j hk
    cases hb : ow.testBit j with
    | false => rfl
    | true =>
      obtain ⟨T, sz, n, f, hi⟩ := (how' j).1 hb
      rw [(ownsFit_ok its hown j T sz n f hi).1] at hk; cases hk
  have hobj : ∀ j, (H.obj j = .none) ∨ (ko.testBit j = false ∧ H.obj j = s.obj j) ∨ (∃ cs, It.obj j cs ∈ its ∧ H.obj j = .var cs) ∨ (∃ T sz n f, It.mod j T sz n f ∈ its ∧ H.obj j = .row T sz n f) ∨ (∃ T sz n f, It.own j T sz n f ∈ its ∧ H.obj j = .row T sz n f) := by
    intro j
    rcases headV_obj its (baseV ks ko s) j with h | ⟨i, hi, h⟩
    · rw [hH, base_obj] at h
      by_cases hk : ko.testBit j = true
      · rw [if_pos hk] at h; exact .inl h
      · rw [if_neg hk] at h
        exact .inr (.inl ⟨by simpa using hk, h⟩)
    · rw [hH] at h
      cases i with
      | slot => cases h
      | obj k cs => simp only [itOb, Option.some.injEq, Prod.mk.injEq] at h; obtain ⟨rfl, h⟩ := h; exact .inr (.inr (.inl ⟨cs, hi, h.symm⟩))
      | mod k T sz n f => simp only [itOb, Option.some.injEq, Prod.mk.injEq] at h; obtain ⟨rfl, h⟩ := h; exact .inr (.inr (.inr (.inl ⟨T, sz, n, f, hi, h.symm⟩)))
      | own k T sz n f => simp only [itOb, Option.some.injEq, Prod.mk.injEq] at h; obtain ⟨rfl, h⟩ := h; exact .inr (.inr (.inr (.inr ⟨T, sz, n, f, hi, h.symm⟩)))
  -- which object of s stands for an object of the head
  have hsrc : ∀ j b, Own1 E' j b (H.obj j) → ∃ i, Own1 E i b (s.obj i) ∧ ((i = j ∧ (ko.testBit j = false ∨ ∃ cs, s.obj j = .var cs)) ∨ (j, some i) ∈ m) ∧ (ko.testBit i = false → i = j) ∧ ((∃ cs, s.obj i = .var cs) → i = j) := by
    intro j b hj
    rcases hobj j with h | ⟨hk, he⟩ | ⟨cs, hi, h⟩ | ⟨T, sz, n, f, hi, h⟩ | ⟨T, sz, n, f, hi, h⟩
    · rw [h] at hj; exact hj.elim
    · rw [he] at hj
      exact ⟨j, (Own1.env (hEn j (hnob j hk))).1 hj, .inl ⟨rfl, .inl hk⟩, fun _ => rfl, fun _ => rfl⟩
    · obtain ⟨x, hx, _⟩ := hits _ hi
      rw [h] at hj
      refine ⟨j, ?_, .inl ⟨rfl, .inr ⟨x, hx⟩⟩, fun _ => rfl, fun _ => rfl⟩
      rw [hx]
      simp only [Own1] at hj ⊢
      rw [hj]; exact hef.β j
    · obtain ⟨hr, hmem⟩ := hits _ hi
      obtain ⟨f', hr, _⟩ := rowFit_ok hr
      rw [h] at hj
      simp only [Own1, hef.some j j hmem] at hj
      exact ⟨j, by rw [hr]; exact hj, .inr hmem, fun _ => rfl, fun _ => rfl⟩
    · rw [h] at hj
      rcases (ownsFit_ok its hown j T sz n f hi).2 with ⟨k, hl, hkk, hr⟩ | ⟨hl, h0⟩
      · obtain ⟨f', hr, _⟩ := rowFit_ok hr
        simp only [Own1, hef.some j k (look_mem hl)] at hj
        exact ⟨k, by rw [hr]; exact hj, .inr (look_mem hl), (fun h => by rw [hkk] at h; cases h), (fun ⟨cs, h⟩ => by rw [hr] at h; cases h)⟩
      · simp only [Own1, hef.none j (look_mem hl), Value.ownBlock] at hj; cases hj
  have hsub : ∀ b, b < w.heap.size → ownS own0 H E' b → ownS own0 s E b := by
    rintro b _ (h | ⟨j, hj⟩)
    · exact .inl h
    · obtain ⟨i, hi, _⟩ := hsrc j b hj; exact .inr ⟨i, hi⟩
  have hEname : ∀ i, (∀ T sz n f, It.own i T sz n f ∉ its) → E'.β i = E.β i ∧ E'.σ i = E.σ i := by
    intro i hi
    cases hb : ow.testBit i with
    | false => exact hEn i hb
    | true =>
      obtain ⟨T, sz, n, f, hm⟩ := (how' i).1 hb
      exact absurd hm (hi T sz n f)
  have hbl : (baseV ks ko s).tm.length = s.tm.length ∧ (baseV ks ko s).ob.length = s.ob.length := ⟨killSV_len _ _ _, killOV_len _ _ _⟩
  have hHl := headV_lens its (baseV ks ko s)
  rw [hH] at hHl
  have hrow : ∀ (T sz n : Nat) (f : Nat → Av) (j i : Nat), rowFit T sz n f (s.obj i) → E'.σ j = E.σ i → ObOk w0.heap.size E' (ownS own0 H E') w j (.row T sz n f) := by
    intro T sz n f j i hr hσ
    obtain ⟨f', hr, hfit⟩ := rowFit_ok hr
    have hob := hc.objs i
    rw [hr] at hob
    obtain ⟨xs, h1, h2, h3⟩ := hob
    exact ⟨xs, by rw [hσ]; exact h1, h2, fun x hx => (fitC_rob (hfit x hx) (h3 x hx)).own hsub⟩
  refine ⟨E', hc.dfs, by rw [hHl.1, hbl.1]; exact hc.len, by rw [hHl.1, hHl.2, hbl.1, hbl.2]; exact hc.olen, fun t ht => ?_, fun j => ?_, fun j j' b hj hj' => ?_, fun j b hj => ?_, hc.frame, hc.out, fun c hx => (hef.β 0).trans (hc.pin c hx)⟩
  · have ht' : t < s.tm.length := by rw [hHl.1, hbl.1] at ht; exact ht
    rcases headV_slot its (baseV ks ko s) t with h | ⟨v, hi, h⟩
    · rw [hH] at h
      rw [h, base_slot]
      by_cases hk : ks.testBit t = true
      · rw [if_pos hk]; exact fun _ _ => ⟨_, rfl⟩
      · rw [if_neg hk]
        refine ((hc.slots t ht').env fun i hi => hEname i fun T sz n f hm => ?_).own hsub
        have := (hfree i T sz n f hm).1 t
        rw [base_slot, if_neg hk] at this
        rw [this] at hi; cases hi
    · rw [hH] at h
      rw [h]
      exact hits _ hi E E' _ _ w hef hsub _ (hc.slots t ht')
  · rcases hobj j with h | ⟨hk, he⟩ | ⟨cs, hi, h⟩ | ⟨T, sz, n, f, hi, h⟩ | ⟨T, sz, n, f, hi, h⟩
    · rw [h]; trivial
    · rw [he]
      refine (hc.objs j).move (hEn j (hnob j hk)) (fun i hi => hEname i fun T sz n f hm => ?_) hsub (.refl _ _) (fun _ _ => rfl)
      have := (hfree i T sz n f hm).2 j
      rw [base_obj, if_neg (by rw [hk]; simp)] at this
      rw [this] at hi; cases hi
    · rw [h]
      obtain ⟨x, hx, hok⟩ := hits _ hi
      have hob := hc.objs j
      rw [hx] at hob
      obtain ⟨us, T, h1, h2⟩ := hob
      exact ⟨us, T, by rw [hef.β]; exact h1, hok E E' _ _ w hef hsub us h2⟩
    · rw [h]
      obtain ⟨hr, hmem⟩ := hits _ hi
      exact hrow T sz n f j j hr (hef.some j j hmem)
    · rw [h]
      rcases (ownsFit_ok its hown j T sz n f hi).2 with ⟨k, hl, hkk, hr⟩ | ⟨hl, h0⟩
      · exact hrow T sz n f j k hr (hef.some j k (look_mem hl))
      · subst h0
        exact ⟨[], by rw [hef.none j (look_mem hl)]; exact World.ownsRow_nil w _ _ _, by simp, fun i hi => by omega⟩
  · obtain ⟨i, hi, hm1, hk1, hv1⟩ := hsrc j b hj
    obtain ⟨i', hi', hm2, hk2, hv2⟩ := hsrc j' b hj'
    have e := hc.apart i i' b hi hi'
    subst e
    rcases hm1 with ⟨rfl, h1⟩ | h1
    · rcases h1 with h1 | h1
      · exact (hk2 h1)
      · exact (hv2 h1)
    · rcases hm2 with ⟨rfl, h2⟩ | h2
      · rcases h2 with h2 | h2
        · exact (hk1 h2).symm
        · exact (hv1 h2).symm
      · have := hn2 _ h1 _ h2 i rfl rfl
        cases this; rfl
  · obtain ⟨i, hi, _⟩ := hsrc j b hj
    exact hc.new i b hi
end

section
variable {P : Program} {own0 ext : Nat → Prop} {w0 : World} {C : Ctx}
/-- what code comes to, said of frames and worlds -/
def QQ (own0 ext : Nat → Prop) (w0 : World) (Q : Ex → St → Prop) : Exit → Act → World → Prop
  | .normal, a, w => ∃ s E, Q .normal s ∧ Con own0 ext w0 s E a w
  | .ret, a, w => ∃ s E, Q .ret s ∧ Con own0 ext w0 s E a w
  | .exit i, a, w => ∃ s E, Q (.exit i) s ∧ Con own0 ext w0 s E a w
  | _, _, _ => False
theorem itMasks_k : ∀ (l : List It) (c : Nat → Nat → Prop) (ks ko : Nat), itMasks c l ks ko → ∃ ks' ko', c ks' ko' := by
  intro l
  induction l with
  | nil => intro c ks ko h; exact ⟨ks, ko, h⟩
  | cons i l ih => intro c ks ko h; cases i <;> exact ih c _ _ h
theorem nzOps_ok : ∀ {l : List Oper}, nzOps l = true → ∀ o ∈ l, o.dst ≠ some 0 := by
  intro l
  induction l with
  | nil => intro _ o ho; cases ho
  | cons p l ih =>
    intro h o ho
    obtain ⟨d, p2, p3, p4, p5, p6⟩ := p
    have h2 : d ≠ some 0 ∧ nzOps l = true := by
      cases d with
      | none => exact ⟨by simp, h⟩
      | some d => cases d with
        | zero => cases h
        | succ d => exact ⟨by simp, h⟩
    rcases List.mem_cons.1 ho with rfl | ho
    · exact h2.1
    · exact ih h2.2 o ho
theorem nz_two {x y : Bool} (h : (match x with | true => y | false => false) = true) : x = true ∧ y = true := by
  cases x <;> simp_all
theorem dropS_k (m : Nat) : ∀ (l : List Av) (i : Nat) (k : List Av → Prop), dropS m l i k → ∃ l', k l' ∧ l'.length = l.length ∧ ∀ t, l'.getD t .any = l.getD t .any ∨ l'.getD t .any = .any := by
  intro l
  induction l with
  | nil => intro i k h; exact ⟨[], h, rfl, fun _ => .inl rfl⟩
  | cons v l ih =>
    intro i k h
    have keep : ∀ v' : Av, (v' = v ∨ v' = .any) → dropS m l (i + 1) (fun l => k (v' :: l)) → ∃ l', k l' ∧ l'.length = (v :: l).length ∧ ∀ t, l'.getD t .any = (v :: l).getD t .any ∨ l'.getD t .any = .any := by
      intro v' hv' h
      obtain ⟨l', h1, h2, h3⟩ := ih (i + 1) _ h
      refine ⟨v' :: l', h1, by simp [h2], fun t => ?_⟩
      cases t with
      | zero => rcases hv' with e | e <;> simp [e]
      | succ t => simpa using h3 t
    cases v with
    | ptr b o =>
      simp only [dropS] at h
      cases hm : Nat.testBit m b with
      | false => rw [hm] at h; exact keep _ (.inl rfl) h
      | true =>
        rw [hm] at h
        cases hb : Nat.beq b i with
        | true => rw [hb] at h; exact keep _ (.inl rfl) h
        | false => rw [hb] at h; exact keep _ (.inr rfl) h
    | _ => exact keep _ (.inl rfl) h
theorem dropK_ok {s : St} {ops : List Oper} {k : St → Prop} {E : Env} {a : Act} {w : World} (h : dropK ops s k) (hc : Con own0 ext w0 s E a w) : ∃ s', k s' ∧ Con own0 ext w0 s' E a w := by
  unfold dropK at h
  cases hb : Nat.beq (allocM ops 0) 0 with
  | true => rw [hb] at h; exact ⟨s, h, hc⟩
  | false =>
    rw [hb] at h
    obtain ⟨tm, ob⟩ := s
    obtain ⟨l', h1, h2, h3⟩ := dropS_k _ _ _ _ h
    refine ⟨⟨l', ob⟩, h1, ⟨hc.dfs, hc.len.trans h2.symm, hc.olen.trans h2.symm, fun t ht => ?_, hc.objs, hc.apart, hc.new, hc.frame, hc.out, hc.pin⟩⟩
    rcases h3 t with e | e
    · have := hc.slots t (by rw [← h2]; exact ht)
      show Ok E _ w (l'.getD t .any) _
      rw [e]; exact this
    · show Ok E _ w (l'.getD t .any) _
      rw [e]
      exact fun _ _ => ⟨_, rfl⟩
theorem awp_sound (hC : CtxOk P C) (hm : P.follows .mixedOrders = true) : ∀ (c : Code), (∀ x, ext x → nzCode c = true) → ∀ (s : St) (Q : Ex → St → Prop), awp C c s Q → ∀ (E : Env) (a : Act) (w : World), Con own0 ext w0 s E a w → c.wp P (QQ own0 ext w0 Q) a w := by
  intro c
  induction c with
  | skip => intro _ s Q h E a w hc; exact wp_skip ⟨s, E, h, hc⟩
  | region id ops draw =>
    intro hnz s Q h E a w hc
    obtain ⟨ops⟩ := ops
    have hz : ∀ x, ext x → ∀ o ∈ ops, o.dst ≠ some 0 := fun x hx => nzOps_ok (hnz x hx)
    simp only [awp] at h
    obtain ⟨s, h, hc⟩ := dropK_ok h hc
    cases draw with
    | false =>
      have := awpR_seq (own0 := own0) (ext := ext) (w0 := w0) (Q := QQ own0 ext w0 Q) hC hz (fun s' E' a' w' hk hc' => ⟨s', E', hk, hc'⟩) ops 0 [] s E a w (fun j => by simp) h hc
      refine wp_region ?_
      rw [List.range_eq_range']
      exact this
    | true =>
      obtain ⟨m1, e1, t1⟩ := stIds_k s.tm (fun m => obIds (fun m => awpR C ops true m (Q .normal) ops 0 [] s) s.ob m) 0
      rw [e1] at h
      obtain ⟨m2, e2, t2⟩ := obIds_k s.ob (fun m => awpR C ops true m (Q .normal) ops 0 [] s) m1
      rw [e2] at h
      exact awpR_draw (base := m2) hC hm hz (fun s' E' a' w' hk hc' => ⟨s', E', hk, hc'⟩) (fun i => by rw [t2, t1]; simp) h hc
  | seq x y ihx ihy =>
    intro hnz s Q h E a w hc
    have ihx := ihx fun z hz => (nz_two (hnz z hz)).1
    have ihy := ihy fun z hz => (nz_two (hnz z hz)).2
    simp only [awp] at h
    refine wp_seq (wp_mono (ihx s _ h E a w hc) ?_)
    intro e a' w' hq
    cases e with
    | normal => obtain ⟨s', E', hq, hc'⟩ := hq; exact ihy s' Q hq E' a' w' hc'
    | ret => exact hq
    | exit i => exact hq
    | goto => exact hq.elim
    | panic => exact hq.elim
    | outgrown => exact hq.elim
  | cond c x y ihx ihy =>
    intro hnz s Q h E a w hc
    have ihx := ihx fun z hz => (nz_two (hnz z hz)).1
    have ihy := ihy fun z hz => (nz_two (hnz z hz)).2
    simp only [awp] at h
    obtain ⟨v, hv, h⟩ := runR_iff s _ _ _ h
    obtain ⟨v', hv', hv⟩ := rd_eval s c _ hv
    simp only [Rd.eval, Option.some.injEq] at hv
    subst hv
    have k := opAv_ok hc hv'
    cases v' with
    | kb b =>
      have e := kb_of k
      cases b with
      | true => exact wp_cond_true e (ihx s Q h E a w hc)
      | false => exact wp_cond_false e (ihy s Q h E a w hc)
    | val u =>
      cases u with
      | bool b =>
        have e := val_of k
        exact wp_cond_split e (fun hb => ihx s Q (h.1 hb) E a w hc) (fun hb => ihy s Q (h.2 hb) E a w hc)
      | _ => exact h.elim
    | _ => exact h.elim
  | block id x ih =>
    intro hnz s Q h E a w hc
    have ih := ih hnz
    simp only [awp] at h
    refine wp_block (wp_mono (ih s _ h E a w hc) ?_)
    intro e a' w' hq
    cases e with
    | normal => exact hq
    | ret => exact hq
    | exit i =>
      obtain ⟨s', E', hq, hc'⟩ := hq
      simp only [Exit.inBlock]
      simp only at hq
      cases hb : Nat.beq i id with
      | true =>
        rw [hb] at hq
        rw [if_pos (Nat.beq_ok hb)]
        exact ⟨s', E', hq, hc'⟩
      | false =>
        rw [hb] at hq
        rw [if_neg (by intro e; subst e; rw [Nat.beq_refl] at hb; cases hb)]
        exact ⟨s', E', hq, hc'⟩
    | goto => exact hq.elim
    | panic => exact hq.elim
    | outgrown => exact hq.elim
  | exit i => intro _ s Q h E a w hc; exact wp_exit ⟨s, E, h, hc⟩
  | ret => intro _ s Q h E a w hc; exact wp_ret ⟨s, E, h, hc⟩
  | loop b ih =>
    intro hnz s Q h E a w hc
    have ih := ih hnz
    simp only [awp] at h
    obtain ⟨⟨X, ok, hd, mu, kl⟩, x0, hok0, h⟩ := h
    obtain ⟨ks, ko, hfit, h⟩ := itMasks_k _ _ _ _ h
    rw [baseK_eq] at h
    generalize hs0 : baseV ks ko s = s0 at h
    have hfr : ∀ x, ok x → ∀ t T sz n f, It.own t T sz n f ∈ hd x → s0.Free t := fun x hx => (ownsFree_ok (hd x) (h x hx)).2
    have hhd : ∀ x, ok x → awp C b (headV (hd x) s0) fun e s' => match e with
        | .normal => baseK ks ko s' (fun s1 => s1 = s0) ∧ ∃ y, ok y ∧ mu y < mu x ∧ loopFit s' ko (hd y)
        | .ret => Q .ret s'
        | .exit i => Q (.exit i) s' := fun x hx => by
      have := (ownsFree_ok (hd x) (h x hx)).1
      rw [headK_eq] at this
      exact this
    -- the invariant, and the least measure of those that hold
    let I : Act → World → Prop := fun a w => ∃ x E, ok x ∧ Con own0 ext w0 (headV (hd x) s0) E a w
    let R : Act → World → Nat → Prop := fun a w n => ∃ x E, ok x ∧ Con own0 ext w0 (headV (hd x) s0) E a w ∧ mu x = n
    have hmin : ∀ a w, I a w → ∃ n, R a w n ∧ ∀ k, R a w k → n ≤ k := by
      intro a w ⟨x, E, h1, h2⟩
      have key : ∀ n k, k ≤ n → R a w k → ∃ n, R a w n ∧ ∀ k, R a w k → n ≤ k := by
        intro n
        induction n with
        | zero =>
          intro k hk hr
          have : k = 0 := by omega
          subst this
          exact ⟨0, hr, fun _ _ => Nat.zero_le _⟩
        | succ n ih =>
          intro k hk hr
          rcases Classical.em (∃ j, j < k ∧ R a w j) with ⟨j, hj, hrj⟩ | hno
          · exact ih j (by omega) hrj
          · exact ⟨k, hr, fun j hrj => Nat.le_of_not_lt fun hlt => hno ⟨j, hlt, hrj⟩⟩
      exact key (mu x) (mu x) (Nat.le_refl _) ⟨x, E, h1, h2, rfl⟩
    have hμ : ∃ μ : Act → World → Nat, ∀ a w, I a w → R a w (μ a w) ∧ ∀ k, R a w k → μ a w ≤ k := by
      refine ⟨fun a w => @dite _ (I a w) (Classical.propDecidable _) (fun h => Classical.choose (hmin a w h)) (fun _ => 0), fun a w hI => ?_⟩
      simp only [dif_pos hI]
      exact Classical.choose_spec (hmin a w hI)
    obtain ⟨μ, hμ⟩ := hμ
    refine wp_loop I μ ?_ ?_
    · have hfr0 := hfr x0 hok0
      rw [← hs0] at hfr0
      obtain ⟨E', hc'⟩ := hc.head (ks := ks) hfit hfr0
      rw [hs0] at hc'
      exact ⟨x0, E', hok0, hc'⟩
    · intro a1 w1 hI
      obtain ⟨⟨x, E1, hx, hc1, hmu⟩, _⟩ := hμ a1 w1 hI
      refine wp_mono (ih _ _ (hhd x hx) E1 a1 w1 hc1) ?_
      intro e a' w' hq
      cases e with
      | normal =>
        obtain ⟨s', E', ⟨hb, y, hy, hlt, hfy⟩, hc'⟩ := hq
        rw [baseK_eq] at hb
        have hfry := hfr y hy
        rw [← hb] at hfry
        obtain ⟨E2, hc2⟩ := hc'.head (ks := ks) hfy hfry
        rw [hb] at hc2
        have hI' : I a' w' := ⟨y, E2, hy, hc2⟩
        refine ⟨hI', ?_⟩
        have := (hμ a' w' hI').2 (mu y) ⟨y, E2, hy, hc2, rfl⟩
        omega
      | ret => exact hq
      | exit i => exact hq
      | goto => exact hq.elim
      | panic => exact hq.elim
      | outgrown => exact hq.elim
  | rangeFunc => intro _ s Q h; exact h.elim
  | scope => intro _ s Q h; exact h.elim
  | label => intro _ s Q h; exact h.elim
  | goto => intro _ s Q h; exact h.elim
  | refuse => intro _ s Q h; exact h.elim
end

theorem anysK_eq : ∀ (n : Nat) (l : List Av), anysK n l = List.replicate n .any ++ l := by
  intro n
  induction n with
  | zero => intro l; rfl
  | succ n ih => intro l; simp only [anysK, ih]; rw [List.replicate_succ', List.append_assoc]; rfl
theorem padK_eq : ∀ (l : List Av) (n : Nat) (k : List Av → Prop), padK k l n = k (l ++ List.replicate (n - l.length) .any) := by
  intro l
  induction l with
  | nil => intro n k; simp only [padK, anysK_eq]; simp
  | cons v l ih => intro n k; simp only [padK, ih, List.length_cons]; rw [show n - 1 - l.length = n - (l.length + 1) by omega]; rfl
theorem nonesK_eq : ∀ (vs : List Av) (l : List Ob) (k : List Ob → Prop), nonesK k vs l = k (List.replicate vs.length .none ++ l) := by
  intro vs
  induction vs with
  | nil => intro l k; rfl
  | cons v vs ih => intro l k; simp only [nonesK, ih, List.length_cons]; rw [List.replicate_succ', List.append_assoc]; rfl
section
variable {P : Program} {own0 ext : Nat → Prop} {w0 w : World} {s : St} {E : Env} {a : Act} {C : Ctx}
/-- how one result is read -/
def resSem (tmps : Array Value) : ResultVar → Sem Value
  | .tmp t => pure (tmps.getD t undef)
  | .cell a t => do loadVar t (← asAddr (tmps.getD a undef))
theorem resK_ok (hC : CtxOk P C) (h : Con own0 ext w0 s E a w) : ∀ (l : List ResultVar) (k : List Av → Prop), resK C s l k → ∃ vs xs, k vs ∧ All2 (fun v x => Ok E (ownS own0 s E) w v [x]) vs xs ∧ xs.length = l.length ∧ (l.mapM (resSem a.tmps)).run P w = .ok xs w := by
  intro l
  induction l with
  | nil => intro k hk; exact ⟨[], [], hk, .nil, rfl, by simp⟩
  | cons x l ih =>
    intro k hk
    cases x with
    | tmp t =>
      simp only [resK] at hk
      rw [getK_eq] at hk
      obtain ⟨vs, xs, h1, h2, h3, h4⟩ := ih _ hk
      refine ⟨_, a.tmps.getD t undef :: xs, h1, .cons (opAv_ok h (x := .tmp t) rfl) h2, by simp [h3], ?_⟩
      simp only [List.mapM_cons, resSem, Sem.run_bind, Sem.run_pure, Result.andThen_ok, h4]
    | cell t T =>
      simp only [resK] at hk
      cases hl : look C.tt T with
      | none => rw [hl] at hk; exact hk.elim
      | some ti =>
        have hti := hC.tt _ _ (look_mem hl)
        rw [hl] at hk
        obtain ⟨ag, sz, i3, i4, i5, i6, i7⟩ := ti
        cases ag with
        | false => exact hk.elim
        | true =>
          simp only at hk
          rw [getK_eq] at hk
          have hst : s.tm.getD t .any = s.slot t := rfl
          rw [hst] at hk
          cases hs : s.slot t with
          | ptr i off =>
            rw [hs] at hk
            cases off with
            | succ _ => exact hk.elim
            | zero =>
              simp only at hk
              rw [getK_eq] at hk
              have hso : s.ob.getD i .none = s.obj i := rfl
              rw [hso] at hk
              cases ho : s.obj i with
              | var cs =>
                rw [ho] at hk
                simp only [hasSz_eq] at hk
                by_cases hz : cs.size = sz
                · rw [if_pos hz] at hk
                  obtain ⟨vs, xs, h1, h2, h3, h4⟩ := ih _ hk
                  have hp := opAv_ok h (x := .tmp t) rfl
                  rw [hs] at hp
                  simp only [Ok] at hp
                  simp at hp
                  have hob := h.objs i
                  rw [ho] at hob
                  obtain ⟨us, T', hh, hcs⟩ := hob
                  refine ⟨_, .agg us.toArray :: xs, h1, .cons ⟨us, rfl, hcs⟩ h2, by simp [h3], ?_⟩
                  have hlen : us.length = sz := by rw [hcs.len, hz]
                  have hld := run_loadCells_list (P := P) w ⟨E.β i, 0, none⟩ us (fun j v hv => by rw [addr_add]; exact cellsAt_block hh j v hv)
                  rw [hlen] at hld
                  have h5 := hti.isAgg w
                  have h6 := hti.size w
                  simp only at h5 h6
                  have hone : (resSem a.tmps (.cell t T)).run P w = .ok (.agg us.toArray) w := by
                    have hp' : a.tmps.getD t undef = .pointer (some ⟨E.β i, 0, none⟩) := hp
                    simp only [resSem, hp']
                    simp [asAddr, loadVar, h5, h6, hld]
                  simp only [List.mapM_cons, Sem.run_bind, hone, Sem.run_pure, Result.andThen_ok, h4]
                · rw [if_neg hz] at hk; exact hk.elim
              | none => rw [ho] at hk; exact hk.elim
              | row => rw [ho] at hk; exact hk.elim
              | froz => rw [ho] at hk; exact hk.elim
          | _ => rw [hs] at hk; exact hk.elim
def resVal : List Value → Value
  | [x] => x
  | xs => .tuple xs.toArray
theorem results_run (fn : Func) (tmps : Array Value) {l : List ResultVar} {xs : List Value} (hl : fn.results = ⟨l⟩) (h : (l.mapM (resSem tmps)).run P w = .ok xs w) : (results fn tmps).run P w = .ok (resVal xs) w := by
  have e : results fn tmps = (do let vs ← fn.results.mapM (resSem tmps); pure (if h : vs.size = 1 then vs[0] else .tuple vs)) := by
    unfold results
    congr 2
  rw [e, hl, List.mapM_toArray]
  simp only [Sem.run_bind, Sem.run_map, h]
  match xs with
  | [] => simp [resVal]
  | [x] => simp [resVal]
  | x :: y :: l => simp [resVal]
theorem avList_ok {own : Nat → Prop} : ∀ {vs : List Av} {xs : List Value}, All2 (fun v x => Rob own w v [x]) vs xs → Rob own w (avList vs) xs := by
  intro vs xs h
  induction h with
  | nil => exact fun _ _ => rfl
  | cons hx _ ih => exact fun w' hg => ⟨[_], _, rfl, hx w' hg, ih w' hg⟩
theorem resAv_ok {own : Nat → Prop} {vs : List Av} {xs : List Value} (h : All2 (fun v x => Rob own w v [x]) vs xs) : Rob own w (resAv vs) [resVal xs] := by
  have key : ∀ {vs : List Av} {xs : List Value}, All2 (fun v x => Rob own w v [x]) vs xs → Rob own w (.tup (avList vs)) [.tuple xs.toArray] := fun h w' hg => ⟨_, rfl, avList_ok h w' hg⟩
  cases h with
  | nil => exact key .nil
  | cons hx ht =>
    cases ht with
    | nil => exact hx
    | cons hy hz => exact key (.cons hx (.cons hy hz))
theorem var_keep {s : St} {u : List (Nat × Ob)} (hu : FrozU s u) {k : Nat} {h : Av} (hk : s.obj k = .var h) : (s.puts' u).obj k = .var h := by
  rcases puts_ob u s k with e | ⟨o, h1, e⟩
  · rw [e]; exact hk
  · obtain ⟨sz, n, f, _, h2 | h2⟩ := hu _ h1
    · obtain ⟨T, h2⟩ := h2; simp only at h2; rw [hk] at h2; cases h2
    · simp only at h2; rw [hk] at h2; cases h2
theorem retK_ok (hC : CtxOk P C) (h : Con own0 ext w0 s E a w) {fn : Func} {res : List ResultVar} {r : Av} (hl : fn.results = ⟨res⟩) (hk : retK C res r s) : ∃ x, (results fn a.tmps).run P w = .ok x w ∧ ∀ O : Nat → Prop, (∀ c, O c → own0 c ∨ ∃ k cs, s.obj k = .var cs ∧ c = E.β k) → Rob O w r [x] := by
  unfold retK at hk
  obtain ⟨vs, xs, hk, h2, h3, h4⟩ := resK_ok hC h res _ hk
  obtain ⟨v, hv, hk⟩ := runR_iff s _ _ _ hk
  obtain ⟨vs', u, hth, hv⟩ := thawl_ok vs _ hv
  simp only [Rd.eval, Option.some.injEq] at hv
  subst hv
  have hrob := hth.rob u (fun _ hp => hp) hth.fro h xs h2
  refine ⟨resVal xs, results_run fn a.tmps hl h4, fun O hO => ?_⟩
  have h5 := resAv_ok hrob
  have h6 : Rob O w (.cons (resAv vs') .nil) [resVal xs] := fun w' hg => ⟨[_], [], rfl, (h5.own fun b _ hb => by
    rcases hO b hb with h0 | ⟨k, cs, hk', rfl⟩
    · exact .inl h0
    · exact .inr ⟨k, by rw [var_keep hth.fro hk']; rfl⟩) w' hg, rfl⟩
  exact fitC_rob hk h6
theorem con_begin {own : Nat → Prop} {args : List Av} {xs : List Value} {n : Nat} (hown : ∀ b, own b → b < w.heap.size) (ha : All2 (fun v x => Rob own w v [x]) args xs) :
    Con own (fun _ => False) w ⟨args ++ List.replicate (n - args.length) .any, List.replicate (args ++ List.replicate (n - args.length) Av.any).length .none⟩ ⟨fun _ => 0, fun _ => undef⟩ { tmps := xs.toArray ++ Array.replicate (n - xs.length) undef, defers := [] } w := by
  have hal := ha.len
  generalize hs : (⟨args ++ List.replicate (n - args.length) .any, List.replicate (args ++ List.replicate (n - args.length) Av.any).length .none⟩ : St) = s
  have htm : s.tm = args ++ List.replicate (n - args.length) .any := by rw [← hs]
  have hobj : ∀ k, s.obj k = .none := by
    intro k
    rw [← hs]
    simp only [St.obj, List.getD_eq_getElem?_getD, List.getElem?_replicate]
    split <;> rfl
  refine ⟨rfl, ?_, ?_, fun t ht => ?_, fun k => ?_, fun k k' b hk => ?_, fun k b hk => ?_, .refl _ _, hown, fun _ h => h.elim⟩
  · rw [htm]; simp [hal]
  · rw [← hs]; simp
  · have hS : ownS own s ⟨fun _ => 0, fun _ => undef⟩ = own := by
      funext b
      apply propext
      constructor
      · rintro (h | ⟨k, hk⟩)
        · exact h
        · rw [hobj] at hk; exact hk.elim
      · exact .inl
    rw [hS]
    have hget : ∀ (vs : List Av) (ys : List Value), All2 (fun v x => Rob own w v [x]) vs ys → ∀ (m t : Nat), Ok ⟨fun _ => 0, fun _ => undef⟩ own w ((vs ++ List.replicate m Av.any).getD t .any) [(ys ++ List.replicate m undef).getD t undef] := by
      intro vs ys h
      induction h with
      | nil =>
        intro m t
        have : ([] ++ List.replicate m Av.any).getD t .any = .any := by
          simp only [List.nil_append, List.getD_eq_getElem?_getD, List.getElem?_replicate]
          split <;> rfl
        rw [this]
        exact fun _ _ => ⟨_, rfl⟩
      | cons hx _ ih =>
        intro m t
        cases t with
        | zero => exact Rob.ok hx
        | succ t => simpa using ih m t
    have := hget args xs ha (n - args.length) t
    have e1 : s.slot t = (args ++ List.replicate (n - args.length) Av.any).getD t .any := by unfold St.slot; rw [htm]
    have e2 : (xs.toArray ++ Array.replicate (n - xs.length) undef).getD t undef = (xs ++ List.replicate (n - args.length) undef).getD t undef := by
      rw [hal]
      simp only [Array.getD_eq_getD_getElem?, List.getD_eq_getElem?_getD]
      congr 1
      rw [← Array.getElem?_toList]
      simp
    simp only [e1, e2]
    exact this
  · rw [hobj]; trivial
  · rw [hobj] at hk; exact hk.elim
  · rw [hobj] at hk; exact hk.elim
theorem fn_ok (hC : CtxOk P C) (hm : P.follows .mixedOrders = true) {f : FuncId} {fn : Func} (hf : P.funcs[f]? = some fn) {args : List Av} {r : Av} (h : fnOk C fn args r) {own : Nat → Prop} {xs : List Value} (hown : ∀ b, own b → b < w.heap.size) (ha : All2 (fun v x => Rob own w v [x]) args xs) : CallOk own P f xs w r := by
  obtain ⟨a1, a2, a3, a4, a5, a6, n, ⟨res⟩, body, a10, a11, a12, a13, a14, a15, a16⟩ := fn
  simp only [fnOk] at h
  cases body with
  | none => exact h.elim
  | some c =>
    simp only at h
    rw [padK_eq, nonesK_eq] at h
    rw [List.append_nil] at h
    have hcon := con_begin (n := n) hown ha
    have hw := awp_sound hC hm c (fun _ h => h.elim) _ _ h _ _ w hcon
    unfold CallOk
    refine calls_of_wp hf rfl ?_
    simp only [List.size_toArray]
    refine wp_mono hw ?_
    intro e a' w' hq
    have fin : ∀ s' E', retK C res r s' → Con own (fun _ => False) w s' E' a' w' → a'.defers = [] ∧ ∃ v, (results ⟨a1, a2, a3, a4, a5, a6, n, ⟨res⟩, some c, a10, a11, a12, a13, a14, a15, a16⟩ a'.tmps).run P w' = .ok v w' ∧ ∃ v', Ending.returned v = .returned v' ∧ Rob own w' r [v'] ∧ Below w.heap.size w w' := by
      intro s' E' hr hc
      obtain ⟨x, h1, h2⟩ := retK_ok (fn := ⟨a1, a2, a3, a4, a5, a6, n, ⟨res⟩, some c, a10, a11, a12, a13, a14, a15, a16⟩) hC hc rfl hr
      exact ⟨hc.dfs, x, h1, x, rfl, h2 own fun _ h => .inl h, hc.frame.os, hc.frame.tape, hc.frame.output, hc.frame.size, fun b hb => hc.frame.block b hb id⟩
    cases e with
    | normal => obtain ⟨s', E', hq, hc⟩ := hq; exact fin s' E' hq hc
    | ret => obtain ⟨s', E', hq, hc⟩ := hq; exact fin s' E' hq hc
    | exit i => obtain ⟨s', E', hq, hc⟩ := hq; exact hq.elim
    | goto => exact hq.elim
    | panic => exact hq.elim
    | outgrown => exact hq.elim
theorem con_start {own ext : Nat → Prop} {args : List Av} {xs : List Value} {n b T : Nat} {cs : Av} {us : List Value} (hown : ∀ c, own c → c < w.heap.size) (hext : ∀ c, ext c ↔ c = b) (hb : own b) (hh : w.heap[b]? = some (.cells us.toArray T (0, 0))) (hcs : Rob own w cs us) (ha : All2 (fun v x => Rob own w v [x]) args xs) :
    Con (fun c => own c ∧ c ≠ b) ext w ⟨(.ptr 0 0 :: args) ++ List.replicate (n - (args.length + 1)) .any, .var cs :: (List.replicate ((.ptr 0 0 :: args) ++ List.replicate (n - (args.length + 1)) Av.any).length .none).tail⟩ ⟨fun _ => b, fun _ => undef⟩ { tmps := (Value.pointer (some ⟨b, 0, none⟩) :: xs).toArray ++ Array.replicate (n - (xs.length + 1)) undef, defers := [] } w := by
  have hal := ha.len
  generalize hs : (⟨(.ptr 0 0 :: args) ++ List.replicate (n - (args.length + 1)) .any, .var cs :: (List.replicate ((.ptr 0 0 :: args) ++ List.replicate (n - (args.length + 1)) Av.any).length .none).tail⟩ : St) = s
  have htm : s.tm = (.ptr 0 0 :: args) ++ List.replicate (n - (args.length + 1)) .any := by rw [← hs]
  have hobj0 : s.obj 0 = .var cs := by rw [← hs]; rfl
  have hobj : ∀ k, k ≠ 0 → s.obj k = .none := by
    intro k hk
    rw [← hs]
    cases k with
    | zero => exact absurd rfl hk
    | succ k =>
      simp only [St.obj, List.getD_eq_getElem?_getD, List.getElem?_cons_succ, List.tail_replicate, List.getElem?_replicate]
      split <;> rfl
  have hone : ∀ k c, Own1 ⟨fun _ => b, fun _ => undef⟩ k c (s.obj k) → k = 0 ∧ c = b := by
    intro k c hk
    rcases Nat.eq_zero_or_pos k with rfl | hp
    · rw [hobj0] at hk; exact ⟨rfl, hk⟩
    · rw [hobj k (by omega)] at hk; exact hk.elim
  have hS : ownS (fun c => own c ∧ c ≠ b) s ⟨fun _ => b, fun _ => undef⟩ = own := by
    funext c
    apply propext
    constructor
    · rintro (h | ⟨k, hk⟩)
      · exact h.1
      · rw [(hone k c hk).2]; exact hb
    · intro h
      by_cases hc : c = b
      · exact .inr ⟨0, by rw [hobj0]; exact hc⟩
      · exact .inl ⟨h, hc⟩
  refine ⟨rfl, ?_, ?_, fun t ht => ?_, fun k => ?_, fun k k' c hk hk' => ?_, fun k c hk => ?_, .refl _ _, fun c hc => hown c hc.1, fun c hc => ((hext c).1 hc).symm⟩
  · rw [htm]; simp [hal]; omega
  · rw [← hs]; simp
  · rw [hS]
    have hget : ∀ (vs : List Av) (ys : List Value), All2 (fun v x => Rob own w v [x]) vs ys → ∀ (m t : Nat), Ok ⟨fun _ => b, fun _ => undef⟩ own w ((vs ++ List.replicate m Av.any).getD t .any) [(ys ++ List.replicate m undef).getD t undef] := by
      intro vs ys h
      induction h with
      | nil =>
        intro m t
        have : ([] ++ List.replicate m Av.any).getD t .any = .any := by
          simp only [List.nil_append, List.getD_eq_getElem?_getD, List.getElem?_replicate]
          split <;> rfl
        rw [this]
        exact fun _ _ => ⟨_, rfl⟩
      | cons hx _ ih =>
        intro m t
        cases t with
        | zero => exact Rob.ok hx
        | succ t => simpa using ih m t
    have e1 : s.slot t = ((.ptr 0 0 :: args) ++ List.replicate (n - (args.length + 1)) Av.any).getD t .any := by unfold St.slot; rw [htm]
    have e2 : ((Value.pointer (some ⟨b, 0, none⟩) :: xs).toArray ++ Array.replicate (n - (xs.length + 1)) undef).getD t undef = ((Value.pointer (some ⟨b, 0, none⟩) :: xs) ++ List.replicate (n - (args.length + 1)) undef).getD t undef := by
      rw [hal]
      simp only [Array.getD_eq_getD_getElem?, List.getD_eq_getElem?_getD]
      congr 1
      rw [← Array.getElem?_toList]
      simp
    simp only [e1, e2]
    cases t with
    | zero => exact rfl
    | succ t => exact hget args xs ha _ t
  · rw [hS]
    rcases Nat.eq_zero_or_pos k with rfl | hp
    · rw [hobj0]; exact ⟨us, T, hh, Rob.ok hcs⟩
    · rw [hobj k (by omega)]; trivial
  · rw [(hone k c hk).1, (hone k' c hk').1]
  · obtain ⟨_, rfl⟩ := hone k c hk
    exact ⟨.inr ((hext _).2 rfl), hown _ hb, fun h => h.2 rfl⟩
theorem fn_okM (hC : CtxOk P C) (hm : P.follows .mixedOrders = true) {f : FuncId} {fn : Func} (hf : P.funcs[f]? = some fn) {cs : Av} {args : List Av} {r cs' : Av} (h : fnOkM C fn cs args r cs') {own : Nat → Prop} {xs us : List Value} {b T : Nat} (hown : ∀ b, own b → b < w.heap.size) (hb : own b) (hh : w.heap[b]? = some (.cells us.toArray T (0, 0))) (hcs : Rob own w cs us) (ha : All2 (fun v x => Rob own w v [x]) args xs) : CallMut own P f b xs w r cs' := by
  obtain ⟨a1, a2, a3, a4, a5, a6, n, ⟨res⟩, body, a10, a11, a12, a13, a14, a15, a16⟩ := fn
  simp only [fnOkM] at h
  cases body with
  | none => exact h.elim
  | some c =>
    simp only at h
    obtain ⟨hnz, h⟩ := h
    rw [padK_eq, nonesK_eq] at h
    rw [List.append_nil, List.length_cons] at h
    have hcon := con_start (ext := fun c => c = b) (n := n) (T := T) hown (fun _ => Iff.rfl) hb hh hcs ha
    have hshape : List.replicate ((.ptr 0 0 :: args) ++ List.replicate (n - (args.length + 1)) Av.any).length Ob.none = .none :: (List.replicate ((.ptr 0 0 :: args) ++ List.replicate (n - (args.length + 1)) Av.any).length Ob.none).tail := rfl
    rw [hshape] at h
    simp only at h
    have hw := awp_sound hC hm c (fun _ _ => hnz) _ _ h _ _ w hcon
    unfold CallMut
    refine calls_of_wp hf rfl ?_
    simp only [List.size_toArray, List.length_cons]
    refine wp_mono hw ?_
    intro e a' w' hq
    have fin : ∀ s' E', (retK C res r s' ∧ getK .none (fun
          | .var h => fitC cs' h
          | _ => False) s'.ob 0) → Con (fun c => own c ∧ c ≠ b) (fun c => c = b) w s' E' a' w' → a'.defers = [] ∧ ∃ v, (results ⟨a1, a2, a3, a4, a5, a6, n, ⟨res⟩, some c, a10, a11, a12, a13, a14, a15, a16⟩ a'.tmps).run P w' = .ok v w' ∧ ∃ v' us T, Ending.returned v = .returned v' ∧ Rob own w' r [v'] ∧ w'.heap[b]? = some (.cells us.toArray T (0, 0)) ∧ Rob own w' cs' us ∧ But b w w' := by
      intro s' E' hr hc
      obtain ⟨hr, ho⟩ := hr
      obtain ⟨x, h1, h2⟩ := retK_ok (fn := ⟨a1, a2, a3, a4, a5, a6, n, ⟨res⟩, some c, a10, a11, a12, a13, a14, a15, a16⟩) hC hc rfl hr
      rw [getK_eq] at ho
      have hso : s'.ob.getD 0 .none = s'.obj 0 := rfl
      rw [hso] at ho
      cases hob : s'.obj 0 with
      | none => rw [hob] at ho; exact ho.elim
      | row => rw [hob] at ho; exact ho.elim
      | froz => rw [hob] at ho; exact ho.elim
      | var h =>
        rw [hob] at ho
        have hβ : E'.β 0 = b := hc.pin b rfl
        have hO : ∀ c, own c → (own c ∧ c ≠ b) ∨ ∃ k cs, s'.obj k = .var cs ∧ c = E'.β k := by
          intro c hc'
          by_cases e : c = b
          · exact .inr ⟨0, h, hob, by rw [hβ]; exact e⟩
          · exact .inl ⟨hc', e⟩
        have hobj := hc.objs 0
        rw [hob] at hobj
        obtain ⟨us', T', g1, g2⟩ := hobj
        rw [hβ] at g1
        refine ⟨hc.dfs, x, h1, x, us', T', rfl, h2 own hO, g1, (fitC_ok2 _ _ ho E' _ w' us' g2).own (fun c _ hc' => ?_), hc.frame.os, hc.frame.tape, hc.frame.output, hc.frame.size, fun c hl hne => hc.frame.block c hl hne⟩
        rcases hO c hc' with h0 | ⟨k, cs, hk, rfl⟩
        · exact .inl h0
        · exact .inr ⟨k, by rw [hk]; rfl⟩
    cases e with
    | normal => obtain ⟨s', E', hq, hc⟩ := hq; exact fin s' E' hq hc
    | ret => obtain ⟨s', E', hq, hc⟩ := hq; exact fin s' E' hq hc
    | exit i => obtain ⟨s', E', hq, hc⟩ := hq; exact hq.elim
    | goto => exact hq.elim
    | panic => exact hq.elim
    | outgrown => exact hq.elim
theorem fn_okN (hC : CtxOk P C) (hm : P.follows .mixedOrders = true) {f : FuncId} {fn : Func} (hf : P.funcs[f]? = some fn) {args : List Av} {cs : Av} (h : fnOkN C fn args cs) {own : Nat → Prop} {xs : List Value} (hown : ∀ b, own b → b < w.heap.size) (ha : All2 (fun v x => Rob own w v [x]) args xs) : CallNew own P f xs w cs := by
  obtain ⟨a1, a2, a3, a4, a5, a6, n, ⟨res⟩, body, a10, a11, a12, a13, a14, a15, a16⟩ := fn
  simp only [fnOkN] at h
  cases body with
  | none => exact h.elim
  | some c =>
    simp only at h
    rw [padK_eq, nonesK_eq] at h
    rw [List.append_nil] at h
    have hcon := con_begin (n := n) hown ha
    have hw := awp_sound hC hm c (fun _ h => h.elim) _ _ h _ _ w hcon
    unfold CallNew
    refine calls_of_wp hf rfl ?_
    simp only [List.size_toArray]
    refine wp_mono hw ?_
    intro e a' w' hq
    have fin : ∀ s' E', (resK C s' res fun vs => match vs with
        | [.ptr i 0] => getK .none (fun
          | .var h => fitC cs h
          | _ => False) s'.ob i
        | _ => False) → Con own (fun _ => False) w s' E' a' w' → a'.defers = [] ∧ ∃ v, (results ⟨a1, a2, a3, a4, a5, a6, n, ⟨res⟩, some c, a10, a11, a12, a13, a14, a15, a16⟩ a'.tmps).run P w' = .ok v w' ∧ ∃ b us T, Ending.returned v = .returned (.pointer (some ⟨b, 0, none⟩)) ∧ w.heap.size ≤ b ∧ b < w'.heap.size ∧ w'.heap[b]? = some (.cells us.toArray T (0, 0)) ∧ Rob (fun c => own c ∨ c = b) w' cs us ∧ Below w.heap.size w w' := by
      intro s' E' hr hc
      obtain ⟨vs, xs', hk, h2, h3, h4⟩ := resK_ok hC hc res _ hr
      split at hk
      · rename_i i
        rw [getK_eq] at hk
        have hso : s'.ob.getD i .none = s'.obj i := rfl
        rw [hso] at hk
        cases hob : s'.obj i with
        | none => rw [hob] at hk; exact hk.elim
        | row => rw [hob] at hk; exact hk.elim
        | froz => rw [hob] at hk; exact hk.elim
        | var h =>
          rw [hob] at hk
          cases h2 with
          | @cons _ x _ _ hx ht =>
            cases ht
            simp only [Ok] at hx
            simp at hx
            have hobj := hc.objs i
            rw [hob] at hobj
            obtain ⟨us', T', g1, g2⟩ := hobj
            have hn := hc.new i (E'.β i) (by rw [hob]; rfl)
            refine ⟨hc.dfs, _, results_run ⟨a1, a2, a3, a4, a5, a6, n, ⟨res⟩, some c, a10, a11, a12, a13, a14, a15, a16⟩ a'.tmps rfl h4, E'.β i, us', T', by rw [hx]; rfl, ?_, hn.2.1, g1, (fitC_ok2 _ _ hk E' _ w' us' g2).own (fun c _ hc' => ?_), hc.frame.os, hc.frame.tape, hc.frame.output, hc.frame.size, fun b hb => hc.frame.block b hb id⟩
            · rcases hn.1 with h | h
              · exact h
              · exact h.elim
            · rcases hc' with h | rfl
              · exact .inl h
              · exact .inr ⟨i, by rw [hob]; rfl⟩
      · exact hk.elim
    cases e with
    | normal => obtain ⟨s', E', hq, hc⟩ := hq; exact fin s' E' hq hc
    | ret => obtain ⟨s', E', hq, hc⟩ := hq; exact fin s' E' hq hc
    | exit i => obtain ⟨s', E', hq, hc⟩ := hq; exact hq.elim
    | goto => exact hq.elim
    | panic => exact hq.elim
    | outgrown => exact hq.elim
theorem fn_okR (hC : CtxOk P C) (hm : P.follows .mixedOrders = true) {f : FuncId} {fn : Func} (hf : P.funcs[f]? = some fn) {args : List Av} {T sz m : Nat} {g : Nat → Av} {rest : Av} (h : fnOkR C fn args T sz m g rest) {own : Nat → Prop} {xs : List Value} (hown : ∀ b, own b → b < w.heap.size) (ha : All2 (fun v x => Rob own w v [x]) args xs) : CallRow own P f xs w T sz m g rest := by
  obtain ⟨a1, a2, a3, a4, a5, a6, n, ⟨res⟩, body, a10, a11, a12, a13, a14, a15, a16⟩ := fn
  simp only [fnOkR] at h
  cases body with
  | none => exact h.elim
  | some c =>
    simp only at h
    rw [padK_eq, nonesK_eq] at h
    rw [List.append_nil] at h
    have hcon := con_begin (n := n) hown ha
    have hw := awp_sound hC hm c (fun _ h => h.elim) _ _ h _ _ w hcon
    unfold CallRow
    refine calls_of_wp hf rfl ?_
    simp only [List.size_toArray]
    refine wp_mono hw ?_
    intro e a' w' hq
    have fin : ∀ s' E', rowK C res T sz m g rest s' → Con own (fun _ => False) w s' E' a' w' → a'.defers = [] ∧ ∃ v, (results ⟨a1, a2, a3, a4, a5, a6, n, ⟨res⟩, some c, a10, a11, a12, a13, a14, a15, a16⟩ a'.tmps).run P w' = .ok v w' ∧ ∃ σ us ys, Ending.returned v = .returned (.agg (σ :: us).toArray) ∧ σ.oneCell' = true ∧ (∀ b, σ.ownBlock = some b → w.heap.size ≤ b ∧ b < w'.heap.size) ∧ w'.ownsRow w.heap.size T sz σ m ys ∧ (∀ u ∈ ys, u.oneCell' = true) ∧ (∀ i, i < m → Rob (fun c => own c ∨ σ.ownBlock = some c) w' (g i) (seg ys i sz)) ∧ Rob (fun c => own c ∨ σ.ownBlock = some c) w' rest us ∧ Below w.heap.size w w' := by
      intro s' E' hr hc
      unfold rowK at hr
      obtain ⟨vs, xs', hk, h2, h3, h4⟩ := resK_ok hC hc res _ hr
      split at hk
      · rename_i k rs
        rw [getK_eq] at hk
        have hso : s'.ob.getD k .none = s'.obj k := rfl
        rw [hso] at hk
        cases hob : s'.obj k with
        | none => rw [hob] at hk; exact hk.elim
        | var => rw [hob] at hk; exact hk.elim
        | froz => rw [hob] at hk; exact hk.elim
        | row T' sz' n' f' =>
          rw [hob] at hk
          obtain ⟨⟨rfl, rfl, rfl, hfit⟩, hrun⟩ := hk
          obtain ⟨v, hv, hk⟩ := runR_iff s' _ _ _ hrun
          obtain ⟨v', u, hth, hv⟩ := thaw_ok (.agg rs) _ hv
          simp only [Rd.eval, Option.some.injEq] at hv
          subst hv
          cases h2 with
          | @cons _ x _ _ hx ht =>
            cases ht
            obtain ⟨us0, e0, p, q, e1, hp, hq2⟩ := hx
            simp at e0
            subst e0
            obtain ⟨hp1, hp2⟩ := hp
            subst hp1
            subst e1
            cases hky : hasKey k u with
            | true =>
              simp only [hky] at hk
            | false =>
              simp only [hky] at hk
              split at hk
              · rename_i hh heq
                cases heq
                have hrob := hth.rob u (fun _ hp => hp) hth.fro hc [.agg q.toArray] ⟨q, rfl, hq2⟩
                have hob1 : (s'.puts' u).obj k = .row T' sz' n' f' := by rw [puts_keep hky]; exact hob
                have hobj := hc.objs k
                rw [hob] at hobj
                obtain ⟨ys, q1, q2, q3⟩ := hobj
                have hq4 : Rob (ownS own (s'.puts' u) E') w' hh q := fun w2 hg => by
                  obtain ⟨us2, e2, hu2⟩ := hrob w2 hg
                  simp at e2
                  rw [e2]; exact hu2
                have hnew : ∀ b, (E'.σ k).ownBlock = some b → w.heap.size ≤ b ∧ b < w'.heap.size := fun b hb => by
                  have hn := hc.new k b (by rw [hob]; exact hb)
                  refine ⟨?_, hn.2.1⟩
                  rcases hn.1 with h | h
                  · exact h
                  · exact h.elim
                have hs1 : ∀ c, c < w'.heap.size → (own c ∨ (E'.σ k).ownBlock = some c) → ownS own s' E' c := fun c _ hc' => by
                  rcases hc' with h | h
                  · exact .inl h
                  · exact .inr ⟨k, by rw [hob]; exact h⟩
                have hs2 : ∀ c, c < w'.heap.size → (own c ∨ (E'.σ k).ownBlock = some c) → ownS own (s'.puts' u) E' c := fun c _ hc' => by
                  rcases hc' with h | h
                  · exact .inl h
                  · exact .inr ⟨k, by rw [hob1]; exact h⟩
                exact ⟨hc.dfs, _, results_run ⟨a1, a2, a3, a4, a5, a6, n, ⟨res⟩, some c, a10, a11, a12, a13, a14, a15, a16⟩ a'.tmps rfl h4, E'.σ k, q, ys, rfl, hp2, hnew, q1, q2, fun i hi => fitC_rob (hfit i hi) ((q3 i hi).own hs1), fitC_rob hk (hq4.own hs2), hc.frame.os, hc.frame.tape, hc.frame.output, hc.frame.size, fun b hb => hc.frame.block b hb id⟩
              · exact hk.elim
      · exact hk.elim
    cases e with
    | normal => obtain ⟨s', E', hq, hc⟩ := hq; exact fin s' E' hq hc
    | ret => obtain ⟨s', E', hq, hc⟩ := hq; exact fin s' E' hq hc
    | exit i => obtain ⟨s', E', hq, hc⟩ := hq; exact hq.elim
    | goto => exact hq.elim
    | panic => exact hq.elim
    | outgrown => exact hq.elim
/-- a contract with ghosts: what the arguments are, under which condition, and what comes back -/
def ghSpec (G : Type) (args : G → List Av) (pre : G → Prop) (res : G → Av) : Spec := fun vs => .gh G (fun g => pre g ∧ fits (args g) vs) res
theorem fits_ok {own : Nat → Prop} : ∀ {ws vs : List Av} {xs : List Value}, fits ws vs → All2 (fun v x => Rob own w v [x]) vs xs → All2 (fun v x => Rob own w v [x]) ws xs := by
  intro ws
  induction ws with
  | nil =>
    intro vs xs h ha
    cases vs with
    | nil => exact ha
    | cons => exact h.elim
  | cons v ws ih =>
    intro vs xs h ha
    cases vs with
    | nil => exact h.elim
    | cons u vs =>
      cases ha with
      | cons hx ht => exact .cons (fitC_rob h.1 fun w' hg => ⟨[_], [], rfl, hx w' hg, rfl⟩) (ih h.2 ht)
theorem ghSpec_ok (hC : CtxOk P C) (hm : P.follows .mixedOrders = true) {f : FuncId} {fn : Func} (hf : P.funcs[f]? = some fn) {G : Type} {args : G → List Av} {pre : G → Prop} {res : G → Av} (h : ∀ g, pre g → fnOk C fn (args g) (res g)) : SpecOk P f (ghSpec G args pre res) := by
  intro own w vs xs hown ha
  exact fun g hg => fn_ok hC hm hf (h g hg.1) hown (fits_ok hg.2 ha)
end

def valEq : Value → Value → Bool
  | .bool a, .bool b => a == b
  | .int k a, .int k' b => kindEq k k' && a == b
  | .slice none n c, .slice none n' c' => n == n' && c == c'
  | .pointer none, .pointer none => true
  | _, _ => false
theorem valEq_eq {a b : Value} (h : valEq a b = true) : a = b := by
  unfold valEq at h
  split at h
  · rw [eq_of_beq h]
  · simp only [Bool.and_eq_true] at h; rw [kindEq_eq h.1, eq_of_beq h.2]
  · simp only [Bool.and_eq_true] at h; rw [eq_of_beq h.1, eq_of_beq h.2]
  · rfl
  · cases h
def valsEq : List Value → List Value → Bool
  | [], [] => true
  | a :: l, b :: m => valEq a b && valsEq l m
  | _, _ => false
theorem valsEq_eq : ∀ {l m : List Value}, valsEq l m = true → l = m := by
  intro l
  induction l with
  | nil => intro m h; cases m with
    | nil => rfl
    | cons => cases h
  | cons a l ih => intro m h; cases m with
    | nil => cases h
    | cons b m => simp only [valsEq, Bool.and_eq_true] at h; rw [valEq_eq h.1, ih h.2]
def fieldsCheck (P : Program) : List (Nat × Nat) → List Field → Bool
  | [], [] => true
  | (o, n) :: l, f :: fs => f.offset == o && (match P.info? f.type with | some i => i.size == n | none => false) && (match P.underlying f.type with | some d => aggD d == Nat.blt 1 n | none => false) && n != 0 && fieldsCheck P l fs
  | _, _ => false
theorem fieldsCheck_ok {P : Program} : ∀ {l : List (Nat × Nat)} {fs : List Field}, fieldsCheck P l fs = true → fieldsOk P l fs := by
  intro l
  induction l with
  | nil => intro fs h; cases fs with
    | nil => trivial
    | cons => cases h
  | cons p l ih =>
    obtain ⟨o, n⟩ := p
    intro fs h
    cases fs with
    | nil => cases h
    | cons f fs =>
      simp only [fieldsCheck, Bool.and_eq_true] at h
      obtain ⟨⟨⟨⟨h1, h2⟩, h5⟩, h3⟩, h4⟩ := h
      refine ⟨eq_of_beq h1, ?_, by simpa using h3, ih h4⟩
      cases hi : P.info? f.type with
      | none => rw [hi] at h2; cases h2
      | some i =>
        rw [hi] at h2
        cases hu : P.underlying f.type with
        | none => rw [hu] at h5; cases h5
        | some d => rw [hu] at h5; exact ⟨i, rfl, eq_of_beq h2, d, rfl, eq_of_beq h5⟩
def optNatEq : Option Nat → Option Nat → Bool
  | none, none => true
  | some a, some b => a == b
  | _, _ => false
theorem optNatEq_eq {a b : Option Nat} (h : optNatEq a b = true) : a = b := by
  cases a <;> cases b <;> first | rfl | cases h | (simp only [optNatEq] at h; rw [eq_of_beq h])
def descCheck (P : Program) (i : TI) : TypeDesc → Bool
  | .struct fs => i.agg && optNatEq i.elem none && i.ik.isNone && !i.isB && fieldsCheck P i.fields fs.toList
  | .slice e => !i.agg && i.size == 1 && optNatEq i.elem (some e) && i.ik.isNone && !i.isB && i.fields.isEmpty
  | .int k => !i.agg && i.size == 1 && optNatEq i.elem none && (match i.ik with | some k' => kindEq k' k | none => false) && !i.isB && i.fields.isEmpty
  | .bool => !i.agg && i.size == 1 && optNatEq i.elem none && i.ik.isNone && i.fields.isEmpty
  | .pointer _ => !i.agg && i.size == 1 && optNatEq i.elem none && i.ik.isNone && !i.isB && i.fields.isEmpty
  | _ => false
theorem descCheck_ok {P : Program} {i : TI} {d : TypeDesc} (h : descCheck P i d = true) : dOk P i d := by
  have no : ∀ {b : Bool}, (!b) = true → b = false := fun h => by simpa using h
  cases d with
  | struct fs =>
    simp only [descCheck, Bool.and_eq_true] at h
    obtain ⟨⟨⟨⟨h1, h2⟩, h3⟩, h4⟩, h5⟩ := h
    exact ⟨h1, optNatEq_eq h2, Option.isNone_iff_eq_none.1 h3, no h4, fieldsCheck_ok h5⟩
  | slice e =>
    simp only [descCheck, Bool.and_eq_true] at h
    obtain ⟨⟨⟨⟨⟨h1, h2⟩, h3⟩, h4⟩, h5⟩, h6⟩ := h
    exact ⟨no h1, eq_of_beq h2, optNatEq_eq h3, Option.isNone_iff_eq_none.1 h4, no h5, List.isEmpty_iff.1 h6⟩
  | int k =>
    simp only [descCheck, Bool.and_eq_true] at h
    obtain ⟨⟨⟨⟨⟨h1, h2⟩, h3⟩, h4⟩, h5⟩, h6⟩ := h
    refine ⟨no h1, eq_of_beq h2, optNatEq_eq h3, ?_, no h5, List.isEmpty_iff.1 h6⟩
    cases hk : i.ik with
    | none => rw [hk] at h4; cases h4
    | some k' => rw [hk] at h4; rw [kindEq_eq h4]
  | bool =>
    simp only [descCheck, Bool.and_eq_true] at h
    obtain ⟨⟨⟨⟨h1, h2⟩, h3⟩, h4⟩, h6⟩ := h
    exact ⟨no h1, eq_of_beq h2, optNatEq_eq h3, Option.isNone_iff_eq_none.1 h4, List.isEmpty_iff.1 h6⟩
  | pointer e =>
    simp only [descCheck, Bool.and_eq_true] at h
    obtain ⟨⟨⟨⟨⟨h1, h2⟩, h3⟩, h4⟩, h5⟩, h6⟩ := h
    exact ⟨no h1, eq_of_beq h2, optNatEq_eq h3, Option.isNone_iff_eq_none.1 h4, no h5, List.isEmpty_iff.1 h6⟩
  | _ => cases h
def zeroCheck (i : TI) : Option Value → Bool
  | some (.agg ⟨cs⟩) => i.agg && valsEq cs i.zero
  | some v => !i.agg && valsEq [v] i.zero && v.oneCell'
  | none => false
def tiCheck (P : Program) (T : Nat) (i : TI) : Bool :=
  (match P.info? T with | some f => f.size == i.size && Nat.ble f.bytes 32768 && zeroCheck i f.zero | none => false) &&
  (match P.underlying T with | some d => descCheck P i d | none => false) && i.zero.length == i.size && Nat.ble 1 i.size
theorem tiCheck_ok {P : Program} {T : Nat} {i : TI} (h : tiCheck P T i = true) : TIok P T i := by
  unfold tiCheck at h
  simp only [Bool.and_eq_true] at h
  obtain ⟨⟨⟨h1, h2⟩, h3⟩, h4⟩ := h
  constructor
  · cases hf : P.info? T with
    | none => rw [hf] at h1; cases h1
    | some f =>
      rw [hf] at h1
      simp only [Bool.and_eq_true] at h1
      obtain ⟨⟨g1, g2⟩, g3⟩ := h1
      cases hz : f.zero with
      | none => rw [hz] at g3; cases g3
      | some z =>
        rw [hz] at g3
        have key : z.cells.toList = i.zero ∧ (i.agg = true → z = .agg i.zero.toArray) := by
          cases z with
          | agg cs =>
            obtain ⟨cs⟩ := cs
            simp only [zeroCheck, Bool.and_eq_true] at g3
            have := valsEq_eq g3.2
            exact ⟨this, fun _ => by rw [← this]⟩
          | tuple vs => simp [zeroCheck, Value.oneCell'] at g3
          | _ =>
            simp only [zeroCheck, Bool.and_eq_true] at g3
            have h5 := valsEq_eq g3.1.2
            exact ⟨h5, fun ha => by rw [ha] at g3; simp at g3⟩
        exact ⟨f, z, rfl, eq_of_beq g1, Nat.le_of_ble_eq_true g2, hz, key.1, eq_of_beq h3, Nat.le_of_ble_eq_true h4, key.2⟩
  · cases hd : P.underlying T with
    | none => rw [hd] at h2; cases h2
    | some d => rw [hd] at h2; exact ⟨d, rfl, descCheck_ok h2⟩
def ttCheck (P : Program) : List (Nat × TI) → Bool
  | [] => true
  | (T, i) :: l => tiCheck P T i && ttCheck P l
theorem ttCheck_ok {P : Program} : ∀ {l : List (Nat × TI)}, ttCheck P l = true → ∀ T i, (T, i) ∈ l → TIok P T i := by
  intro l
  induction l with
  | nil => intro _ T i h; cases h
  | cons p l ih =>
    obtain ⟨T', i'⟩ := p
    intro h T i hm
    simp only [ttCheck, Bool.and_eq_true] at h
    rcases List.mem_cons.1 hm with e | hm
    · cases e; exact tiCheck_ok h.1
    · exact ih h.2 T i hm
/-- a function that may be called: it has a body -/
def fnThere (P : Program) (f : FuncId) : Bool := match P.funcs[f]? with
  | some fn => fn.body.isSome && !(fn.name == "runtime.NumGoroutine")
  | none => false
theorem fnThere_ok {P : Program} {f : FuncId} (h : fnThere P f = true) : ∃ fn c, P.funcs[f]? = some fn ∧ fn.body = some c ∧ (fn.name == "runtime.NumGoroutine") = false := by
  unfold fnThere at h
  cases hf : P.funcs[f]? with
  | none => rw [hf] at h; cases h
  | some fn =>
    rw [hf] at h
    simp only [Bool.and_eq_true] at h
    obtain ⟨c, hc⟩ := Option.isSome_iff_exists.1 h.1
    exact ⟨fn, c, rfl, hc, by simpa using h.2⟩
/-- a contract and its proof -/
structure PSpec (P : Program) where
  f : FuncId
  sp : Spec
  ok : SpecOk P f sp
  there : fnThere P f = true
def specsOf {P : Program} : List (PSpec P) → List (Nat × Spec)
  | [] => []
  | ⟨f, sp, _, _⟩ :: l => (f, sp) :: specsOf l
theorem ctx_ok {P : Program} {tt : List (Nat × TI)} (ht : ttCheck P tt = true) (l : List (PSpec P)) : CtxOk P ⟨tt, specsOf l⟩ := by
  refine ⟨ttCheck_ok ht, ?_⟩
  induction l with
  | nil => intro f sp h; cases h
  | cons p l ih =>
    obtain ⟨f', sp', hok, hth⟩ := p
    intro f sp h
    rcases List.mem_cons.1 h with e | h
    · cases e; exact ⟨hok, fnThere_ok hth⟩
    · exact ih f sp h
section
variable {P : Program} {own : Nat → Prop} {w w' : World} {f : FuncId} {xs : List Value}
theorem Own.rob {lo : Nat} {A : Option Addr} {c : Nat} {ls : List Nat} (h : Own lo w A c ls) (hown : ∀ b, own b → b < lo) (hg : Agree own w w') : Lim w' A c ls := by
  refine ⟨h.lb, h.cap, h.max, fun h0 => ?_⟩
  obtain ⟨b, off, h1, h2, h3, h4⟩ := h.cells h0
  exact ⟨b, off, h1, Nat.lt_of_lt_of_le h3 hg.size, fun k hk => (cell_agree hg h3 (fun ho => by have := hown b ho; omega)).trans (h4 k hk).1⟩
theorem OwInt.rob {lo : Nat} {b s : Value} {n : Int} {K : Nat} (h : OwInt lo w b s n) (hz : SzI n K) (hown : ∀ b, own b → b < lo) : Rob own w (.intC n K) [b, s] := by
  obtain ⟨A, c, rfl, rfl, ha⟩ := h
  exact fun w' hg => ⟨A, c, rfl, Own.rob ha hown hg, hz⟩
theorem OwRat.rob {lo : Nat} {b s t : Value} {q : Rat} {K : Nat} (h : OwRat lo w b s t q) (hz : Sz q K) (hown : ∀ b, own b → b < lo) : Rob own w (.ratC q K) [b, s, t] := by
  obtain ⟨A, c, B, d, rfl, rfl, rfl, ha, hd⟩ := h
  exact fun w' hg => ⟨A, c, B, d, rfl, Own.rob ha hown hg, Own.rob hd hown hg, hz⟩
theorem Rob.one {a : Av} {vs : List Value} (h : Rob own w a vs) : Rob own w (.cons a .nil) vs := fun w' hg => ⟨vs, [], (List.append_nil _).symm, h w' hg, rfl⟩
theorem Rob.agg {a : Av} {vs : List Value} (h : Rob own w a vs) : Rob own w (.agg a) [.agg vs.toArray] := fun w' hg => ⟨vs, rfl, h w' hg⟩
/-- canonical numbers as structs -/
def zAv (n : Int) (K : Nat) : Av := .agg (.cons (.intC n K) .nil)
def qAv (q : Rat) (K : Nat) : Av := .agg (.cons (.ratC q K) .nil)
theorem CallOk.z {n : Int} {K : Nat} (hown : ∀ b, own b → b < w.heap.size) (hz : SzI n K) (h : Calls P f xs.toArray w (RetZ w n)) : CallOk own P f xs w (zAv n K) := by
  refine h.mono ?_
  rintro e w' ⟨b, s, rfl, ho, hb⟩
  exact ⟨_, rfl, (OwInt.rob ho hz hown).one.agg, hb⟩
theorem CallOk.q {q : Rat} {K : Nat} (hown : ∀ b, own b → b < w.heap.size) (hz : Sz q K) (h : Calls P f xs.toArray w (RetR w q)) : CallOk own P f xs w (qAv q K) := by
  refine h.mono ?_
  rintro e w' ⟨b, s, t, rfl, ho, hb⟩
  exact ⟨_, rfl, (OwRat.rob ho hz hown).one.agg, hb⟩
theorem CallOk.i {n : Int} (h : Calls P f xs.toArray w (RetI w n)) : CallOk own P f xs w (.val (.int .i64 n)) := by
  refine h.mono ?_
  rintro e w' ⟨rfl, hb⟩
  exact ⟨_, rfl, fun _ _ => rfl, hb⟩
theorem CallOk.b {n : Bool} (h : Calls P f xs.toArray w (RetB w n)) : CallOk own P f xs w (.val (.bool n)) := by
  refine h.mono ?_
  rintro e w' ⟨rfl, hb⟩
  exact ⟨_, rfl, fun _ _ => rfl, hb⟩
theorem CallOk.zz {q r : Int} {K L : Nat} (hown : ∀ b, own b → b < w.heap.size) (hz : SzI q K) (hr : SzI r L) (h : Calls P f xs.toArray w (RetZZ w q r)) : CallOk own P f xs w (.tup (.cons (zAv q K) (.cons (zAv r L) (.cons (.kb true) .nil)))) := by
  refine h.mono ?_
  rintro e w' ⟨b, s, b', s', rfl, h1, h2, hb⟩
  exact ⟨_, rfl, fun w'' hg => ⟨[_, _, _], rfl, [_], [_, _], rfl, (OwInt.rob h1 hz hown).one.agg w'' hg, [_], [_], rfl, (OwInt.rob h2 hr hown).one.agg w'' hg, [_], [], rfl, rfl, rfl⟩, hb⟩
/-- a number and true -/
def qyAv (q : Rat) (K : Nat) : Av := .tup (.cons (qAv q K) (.cons (.kb true) .nil))
/-- the zero value and false -/
def qnAv : Av := .tup (.cons (.agg (.cons (.kb false) (.cons (.val (.slice none 0 0)) (.cons (.val (.slice none 0 0)) .nil)))) (.cons (.kb false) .nil))
theorem CallOk.qy {q : Rat} {K : Nat} (hown : ∀ b, own b → b < w.heap.size) (hz : Sz q K) (h : Calls P f xs.toArray w (RetRY w q)) : CallOk own P f xs w (qyAv q K) := by
  refine h.mono ?_
  rintro e w' ⟨b, s, t, rfl, ho, hb⟩
  exact ⟨_, rfl, fun w'' hg => ⟨[_, _], rfl, [_], [_], rfl, (OwRat.rob ho hz hown).one.agg w'' hg, [_], [], rfl, rfl, rfl⟩, hb⟩
theorem CallOk.qn (h : Calls P f xs.toArray w (RetRatN w)) : CallOk own P f xs w qnAv := by
  refine h.mono ?_
  rintro e w' ⟨rfl, hb⟩
  exact ⟨_, rfl, fun w'' hg => ⟨[_, _], rfl, [_], [_], rfl, ⟨[_, _, _], rfl, [_], [_, _], rfl, rfl, [_], [_], rfl, rfl, [_], [], rfl, rfl, rfl⟩, [_], [], rfl, rfl, rfl⟩, hb⟩
end

section
variable {P : Program} {own : Nat → Prop} {w : World} {f : FuncId}
theorem arg_z {a : Av} {x : Value} {n : Int} {K : Nat} (h : Rob own w (.agg a) [x]) (ha : asInt a = some (n, K)) : ∃ b s, x = .agg #[b, s] ∧ IsInt w b s n K := by
  obtain ⟨us, e, hu⟩ := h.here
  obtain ⟨b, s, rfl, hi⟩ := asInt_ok ha hu
  simp at e
  exact ⟨b, s, e, hi⟩
theorem arg_q {a : Av} {x : Value} {n : Rat} {K : Nat} (h : Rob own w (.agg a) [x]) (ha : asRat a = some (n, K)) : ∃ b s t, x = .agg #[b, s, t] ∧ IsRat w b s t n K := by
  obtain ⟨us, e, hu⟩ := h.here
  obtain ⟨b, s, t, rfl, hi⟩ := asRat_ok ha hu
  simp at e
  exact ⟨b, s, t, e, hi⟩
/-- one integer -/
def spZ (p : Int → Nat → Prop) (r : Int → Nat → Av) : Spec
  | [.agg a] => match asInt a with
    | some (n, K) => .res (some (K ≤ 4294967296 ∧ p n K)) (r n K)
    | none => .no
  | _ => .no
theorem spZ_ok {p : Int → Nat → Prop} {r : Int → Nat → Av} (h : ∀ own w b s n K, (∀ b, own b → b < w.heap.size) → IsInt w b s n K → SzI n K → K ≤ 4294967296 → p n K → CallOk own P f [.agg #[b, s]] w (r n K)) : SpecOk P f (spZ p r) := by
  intro own w vs xs hown ha
  cases ha with
  | nil => trivial
  | @cons v x _ _ hx ht =>
    cases ht with
    | cons _ _ => cases v <;> trivial
    | nil =>
      cases v with
      | agg a =>
        cases hr : asInt a with
        | none => simp only [spZ, hr]
        | some q =>
          obtain ⟨n, K⟩ := q
          simp only [spZ, hr]
          intro hp
          obtain ⟨b, s, rfl, hi⟩ := arg_z hx hr
          exact h own w b s n K hown hi hi.sz hp.1 hp.2
      | _ => trivial
/-- two integers -/
def spZZ (p : Int → Nat → Int → Nat → Prop) (r : Int → Nat → Int → Nat → Av) : Spec
  | [.agg a, .agg b] => match asInt a with
    | some (m, K) => match asInt b with
      | some (n, L) => .res (some (K + L ≤ 4294967296 ∧ p m K n L)) (r m K n L)
      | none => .no
    | none => .no
  | _ => .no
theorem spZZ_ok {p : Int → Nat → Int → Nat → Prop} {r : Int → Nat → Int → Nat → Av} (h : ∀ own w b s b' s' m K n L, (∀ b, own b → b < w.heap.size) → IsInt w b s m (K + L) → IsInt w b' s' n (K + L) → SzI m K → SzI n L → K + L ≤ 4294967296 → p m K n L → CallOk own P f [.agg #[b, s], .agg #[b', s']] w (r m K n L)) : SpecOk P f (spZZ p r) := by
  intro own w vs xs hown ha
  cases ha with
  | nil => trivial
  | @cons v x _ _ hx ht =>
    cases ht with
    | nil => cases v <;> trivial
    | @cons v' y _ _ hy ht =>
      cases ht with
      | cons _ _ => cases v <;> cases v' <;> trivial
      | nil =>
        cases v with
        | agg a =>
          cases v' with
          | agg a' =>
            cases hr : asInt a with
            | none => simp only [spZZ, hr]
            | some q =>
              obtain ⟨m, K⟩ := q
              cases hs : asInt a' with
              | none => simp only [spZZ, hr, hs]
              | some q' =>
                obtain ⟨n, L⟩ := q'
                simp only [spZZ, hr, hs]
                intro hp
                obtain ⟨b, s, rfl, hi⟩ := arg_z hx hr
                obtain ⟨b', s', rfl, hi'⟩ := arg_z hy hs
                exact h own w b s b' s' m K n L hown (hi.mono (by omega)) (hi'.mono (by omega)) hi.sz hi'.sz hp.1 hp.2
          | _ => trivial
        | _ => trivial
/-- two integers, and a choice -/
def spZZg {G : Type} (p : Int → Nat → Int → Nat → G → Prop) (r : Int → Nat → Int → Nat → G → Av) : Spec
  | [.agg a, .agg b] => match asInt a with
    | some (m, K) => match asInt b with
      | some (n, L) => .gh G (fun g => K + L ≤ 4294967296 ∧ p m K n L g) (r m K n L)
      | none => .no
    | none => .no
  | _ => .no
theorem spZZg_ok {G : Type} {p : Int → Nat → Int → Nat → G → Prop} {r : Int → Nat → Int → Nat → G → Av} (h : ∀ own w b s b' s' m K n L g, (∀ b, own b → b < w.heap.size) → IsInt w b s m (K + L) → IsInt w b' s' n (K + L) → SzI m K → SzI n L → K + L ≤ 4294967296 → p m K n L g → CallOk own P f [.agg #[b, s], .agg #[b', s']] w (r m K n L g)) : SpecOk P f (spZZg p r) := by
  intro own w vs xs hown ha
  cases ha with
  | nil => trivial
  | @cons v x _ _ hx ht =>
    cases ht with
    | nil => cases v <;> trivial
    | @cons v' y _ _ hy ht =>
      cases ht with
      | cons _ _ => cases v <;> cases v' <;> trivial
      | nil =>
        cases v with
        | agg a =>
          cases v' with
          | agg a' =>
            cases hr : asInt a with
            | none => simp only [spZZg, hr]
            | some q =>
              obtain ⟨m, K⟩ := q
              cases hs : asInt a' with
              | none => simp only [spZZg, hr, hs]
              | some q' =>
                obtain ⟨n, L⟩ := q'
                simp only [spZZg, hr, hs]
                intro g hp
                obtain ⟨b, s, rfl, hi⟩ := arg_z hx hr
                obtain ⟨b', s', rfl, hi'⟩ := arg_z hy hs
                exact h own w b s b' s' m K n L g hown (hi.mono (by omega)) (hi'.mono (by omega)) hi.sz hi'.sz hp.1 hp.2
          | _ => trivial
        | _ => trivial
/-- one rational number -/
def spQ (p : Rat → Nat → Prop) (r : Rat → Nat → Av) : Spec
  | [.agg a] => match asRat a with
    | some (n, K) => .res (some (K ≤ 4294967296 ∧ p n K)) (r n K)
    | none => .no
  | _ => .no
theorem spQ_ok {p : Rat → Nat → Prop} {r : Rat → Nat → Av} (h : ∀ own w b s t n K, (∀ b, own b → b < w.heap.size) → IsRat w b s t n K → Sz n K → K ≤ 4294967296 → p n K → CallOk own P f [.agg #[b, s, t]] w (r n K)) : SpecOk P f (spQ p r) := by
  intro own w vs xs hown ha
  cases ha with
  | nil => trivial
  | @cons v x _ _ hx ht =>
    cases ht with
    | cons _ _ => cases v <;> trivial
    | nil =>
      cases v with
      | agg a =>
        cases hr : asRat a with
        | none => simp only [spQ, hr]
        | some q =>
          obtain ⟨n, K⟩ := q
          simp only [spQ, hr]
          intro hp
          obtain ⟨b, s, t, rfl, hi⟩ := arg_q hx hr
          exact h own w b s t n K hown hi hi.sz hp.1 hp.2
      | _ => trivial
/-- two rational numbers -/
def spQQ (p : Rat → Nat → Rat → Nat → Prop) (r : Rat → Nat → Rat → Nat → Av) : Spec
  | [.agg a, .agg b] => match asRat a with
    | some (m, K) => match asRat b with
      | some (n, L) => .res (some (K + L ≤ 4294967296 ∧ p m K n L)) (r m K n L)
      | none => .no
    | none => .no
  | _ => .no
theorem spQQ_ok {p : Rat → Nat → Rat → Nat → Prop} {r : Rat → Nat → Rat → Nat → Av} (h : ∀ own w b s t b' s' t' m K n L, (∀ b, own b → b < w.heap.size) → IsRat w b s t m (K + L) → IsRat w b' s' t' n (K + L) → Sz m K → Sz n L → K + L ≤ 4294967296 → p m K n L → CallOk own P f [.agg #[b, s, t], .agg #[b', s', t']] w (r m K n L)) : SpecOk P f (spQQ p r) := by
  intro own w vs xs hown ha
  cases ha with
  | nil => trivial
  | @cons v x _ _ hx ht =>
    cases ht with
    | nil => cases v <;> trivial
    | @cons v' y _ _ hy ht =>
      cases ht with
      | cons _ _ => cases v <;> cases v' <;> trivial
      | nil =>
        cases v with
        | agg a =>
          cases v' with
          | agg a' =>
            cases hr : asRat a with
            | none => simp only [spQQ, hr]
            | some q =>
              obtain ⟨m, K⟩ := q
              cases hs : asRat a' with
              | none => simp only [spQQ, hr, hs]
              | some q' =>
                obtain ⟨n, L⟩ := q'
                simp only [spQQ, hr, hs]
                intro hp
                obtain ⟨b, s, t, rfl, hi⟩ := arg_q hx hr
                obtain ⟨b', s', t', rfl, hi'⟩ := arg_q hy hs
                exact h own w b s t b' s' t' m K n L hown (hi.mono (by omega)) (hi'.mono (by omega)) hi.sz hi'.sz hp.1 hp.2
          | _ => trivial
        | _ => trivial
/-- one native integer -/
def spI (r : Int → Av) (p : Int → Prop) : Spec
  | [.val (.int .i64 n)] => .res (some (p n)) (r n)
  | _ => .no
theorem spI_ok {p : Int → Prop} {r : Int → Av} (h : ∀ own w n, (∀ b, own b → b < w.heap.size) → p n → CallOk own P f [.int .i64 n] w (r n)) : SpecOk P f (spI r p) := by
  intro own w vs xs hown ha
  cases ha with
  | nil => trivial
  | @cons v x _ _ hx ht =>
    cases ht with
    | cons _ _ => cases v <;> first | trivial | (rename_i u; cases u <;> first | trivial | (rename_i k _; cases k <;> trivial))
    | nil =>
      cases v with
      | val u =>
        cases u with
        | int k n =>
          cases k with
          | i64 =>
            intro hp
            have := hx.here
            simp only [Hold] at this
            simp at this
            subst this
            exact h own w n hown hp
          | _ => trivial
        | _ => trivial
      | _ => trivial
/-- two native integers -/
def spII (r : Int → Int → Av) (p : Int → Int → Prop) : Spec
  | [.val (.int .i64 m), .val (.int .i64 n)] => .res (some (p m n)) (r m n)
  | _ => .no
theorem spII_ok {p : Int → Int → Prop} {r : Int → Int → Av} (h : ∀ own w m n, (∀ b, own b → b < w.heap.size) → p m n → CallOk own P f [.int .i64 m, .int .i64 n] w (r m n)) : SpecOk P f (spII r p) := by
  intro own w vs xs hown ha
  cases ha with
  | nil => trivial
  | @cons v x _ _ hx ht =>
    cases ht with
    | nil => cases v <;> first | trivial | (rename_i u; cases u <;> first | trivial | (rename_i k _; cases k <;> trivial))
    | @cons v' y _ _ hy ht =>
      cases v with
      | val u =>
        cases u with
        | int k m =>
          cases k with
          | i64 =>
            cases v' with
            | val u' =>
              cases u' with
              | int k' n =>
                cases k' with
                | i64 =>
                  cases ht with
                  | cons _ _ => trivial
                  | nil =>
                    intro hp
                    have := hx.here
                    simp only [Hold] at this
                    simp at this
                    subst this
                    have := hy.here
                    simp only [Hold] at this
                    simp at this
                    subst this
                    exact h own w m n hown hp
                | _ => cases ht <;> trivial
              | _ => cases ht <;> trivial
            | _ => cases ht <;> trivial
          | _ => cases ht <;> trivial
        | _ => cases ht <;> trivial
      | _ => cases ht <;> trivial
/-- nothing -/
def sp0 (r : Av) : Spec
  | [] => .res none r
  | _ => .no
theorem sp0_ok {r : Av} (h : ∀ own w, (∀ b, own b → b < w.heap.size) → CallOk own P f [] w r) : SpecOk P f (sp0 r) := by
  intro own w vs xs hown ha
  cases ha with
  | nil => intro _; exact h own w hown
  | cons _ _ => trivial
/-- canonical naturals -/
def asCan : Av → Option Nat
  | .natC m _ => some m
  | .list sz n f => lit1 sz n f
  | .val (.slice none 0 0) => some 0
  | _ => none
theorem asCan_ok {v : Av} {m : Nat} {x : Value} (h : asCan v = some m) (hv : Hold w v [x]) : ∃ A c, x = .slice A (limbs m).length c ∧ Lim w A c (limbs m) := by
  unfold asCan at h
  split at h
  · cases h
    obtain ⟨A, c, e, h1, _⟩ := hv
    simp at e
    exact ⟨A, c, e, h1⟩
  · obtain ⟨A, c, e, h1, _⟩ := lit1_ok h hv
    simp at e
    exact ⟨A, c, e, h1⟩
  · cases h
    simp only [Hold] at hv
    simp at hv
    exact ⟨none, 0, by rw [limbs_zero]; exact hv, by rw [limbs_zero]; exact Lim.nil _ _⟩
  · cases h
/-- the number of limbs that the value is known to have at most -/
def canK : Av → Nat
  | .natC _ K => K
  | .list _ _ _ => 1
  | _ => 0
theorem canK_ok {v : Av} {m : Nat} {x : Value} (h : asCan v = some m) (hv : Hold w v [x]) : (limbs m).length ≤ canK v := by
  unfold asCan at h
  split at h
  · cases h
    obtain ⟨A, c, e, h1, h2⟩ := hv
    exact h2
  · obtain ⟨A, c, e, h1, h2⟩ := lit1_ok h hv
    exact Nat.le_of_eq h2
  · cases h; rw [limbs_zero]; exact Nat.le_refl _
  · cases h
def spCC (r : Nat → Nat → Av) : Spec
  | [a, b] => match asCan a with
    | some m => match asCan b with
      | some n => .res (some (canK a + canK b ≤ 4294967296)) (r m n)
      | none => .no
    | none => .no
  | _ => .no
theorem spCC_ok {r : Nat → Nat → Av} (h : ∀ own w A c B d m n, (∀ b, own b → b < w.heap.size) → Lim w A c (limbs m) → Lim w B d (limbs n) → (limbs m).length + (limbs n).length ≤ 4294967296 → CallOk own P f [.slice A (limbs m).length c, .slice B (limbs n).length d] w (r m n)) : SpecOk P f (spCC r) := by
  intro own w vs xs hown ha
  cases ha with
  | nil => trivial
  | @cons a x _ _ hx ht =>
    cases ht with
    | nil => trivial
    | @cons b y _ _ hy ht =>
      cases ht with
      | cons _ _ => trivial
      | nil =>
        cases hr : asCan a with
        | none => simp only [spCC, hr]
        | some m =>
          cases hs : asCan b with
          | none => simp only [spCC, hr, hs]
          | some n =>
            simp only [spCC, hr, hs]
            intro hp
            have h1 := canK_ok hr hx.here
            have h2 := canK_ok hs hy.here
            simp only [vcT] at hp
            obtain ⟨A, c, rfl, ha⟩ := asCan_ok hr hx.here
            obtain ⟨B, d, rfl, hb⟩ := asCan_ok hs hy.here
            exact h own w A c B d m n hown ha hb (by omega)
/-- any integer, any rational number of a size -/
def nAv (n : Int) (K : Nat) : Av := .agg (.cons (.int n K) .nil)
def rAv (q : Rat) (K : Nat) : Av := .agg (.cons (.rat q K) .nil)
theorem rob_z {a : Av} {x : Value} {n : Int} {K : Nat} (h : Rob own w (.agg a) [x]) (ha : asInt a = some (n, K)) : Rob own w (nAv n K) [x] := by
  intro w' hg
  obtain ⟨us, e, hu⟩ := h w' hg
  exact ⟨us, e, us, [], (List.append_nil _).symm, asInt_ok ha hu, rfl⟩
theorem rob_q {a : Av} {x : Value} {n : Rat} {K : Nat} (h : Rob own w (.agg a) [x]) (ha : asRat a = some (n, K)) : Rob own w (rAv n K) [x] := by
  intro w' hg
  obtain ⟨us, e, hu⟩ := h w' hg
  exact ⟨us, e, us, [], (List.append_nil _).symm, asRat_ok ha hu, rfl⟩
variable {C : Ctx} {fn : Func}
theorem spZ_fn (hC : CtxOk P C) (hm : P.follows .mixedOrders = true) (hf : P.funcs[f]? = some fn) {p : Int → Nat → Prop} {r : Int → Nat → Av} (h : ∀ n K, SzI n K → K ≤ 4294967296 → p n K → fnOk C fn [nAv n K] (r n K)) : SpecOk P f (spZ p r) := by
  intro own w vs xs hown ha
  cases ha with
  | nil => trivial
  | @cons v x _ _ hx ht =>
    cases ht with
    | cons _ _ => cases v <;> trivial
    | nil =>
      cases v with
      | agg a =>
        cases hr : asInt a with
        | none => simp only [spZ, hr]
        | some q =>
          obtain ⟨n, K⟩ := q
          simp only [spZ, hr]
          intro hp
          exact fn_ok hC hm hf (h n K (by obtain ⟨_, _, _, hi⟩ := arg_z hx hr; exact hi.sz) hp.1 hp.2) hown (.cons (rob_z hx hr) .nil)
      | _ => trivial
theorem spQ_fn (hC : CtxOk P C) (hm : P.follows .mixedOrders = true) (hf : P.funcs[f]? = some fn) {p : Rat → Nat → Prop} {r : Rat → Nat → Av} (h : ∀ n K, Sz n K → K ≤ 4294967296 → p n K → fnOk C fn [rAv n K] (r n K)) : SpecOk P f (spQ p r) := by
  intro own w vs xs hown ha
  cases ha with
  | nil => trivial
  | @cons v x _ _ hx ht =>
    cases ht with
    | cons _ _ => cases v <;> trivial
    | nil =>
      cases v with
      | agg a =>
        cases hr : asRat a with
        | none => simp only [spQ, hr]
        | some q =>
          obtain ⟨n, K⟩ := q
          simp only [spQ, hr]
          intro hp
          exact fn_ok hC hm hf (h n K (by obtain ⟨_, _, _, _, hi⟩ := arg_q hx hr; exact hi.sz) hp.1 hp.2) hown (.cons (rob_q hx hr) .nil)
      | _ => trivial
theorem spZZ_fn (hC : CtxOk P C) (hm : P.follows .mixedOrders = true) (hf : P.funcs[f]? = some fn) {p : Int → Nat → Int → Nat → Prop} {r : Int → Nat → Int → Nat → Av} (h : ∀ m K n L, SzI m K → SzI n L → K + L ≤ 4294967296 → p m K n L → fnOk C fn [nAv m K, nAv n L] (r m K n L)) : SpecOk P f (spZZ p r) := by
  intro own w vs xs hown ha
  cases ha with
  | nil => trivial
  | @cons v x _ _ hx ht =>
    cases ht with
    | nil => cases v <;> trivial
    | @cons v' y _ _ hy ht =>
      cases ht with
      | cons _ _ => cases v <;> cases v' <;> trivial
      | nil =>
        cases v with
        | agg a =>
          cases v' with
          | agg a' =>
            cases hr : asInt a with
            | none => simp only [spZZ, hr]
            | some q =>
              obtain ⟨m, K⟩ := q
              cases hs : asInt a' with
              | none => simp only [spZZ, hr, hs]
              | some q' =>
                obtain ⟨n, L⟩ := q'
                simp only [spZZ, hr, hs]
                intro hp
                exact fn_ok hC hm hf (h m K n L (by obtain ⟨_, _, _, hi⟩ := arg_z hx hr; exact hi.sz) (by obtain ⟨_, _, _, hi⟩ := arg_z hy hs; exact hi.sz) hp.1 hp.2) hown (.cons (rob_z hx hr) (.cons (rob_z hy hs) .nil))
          | _ => trivial
        | _ => trivial
theorem spQQ_fn (hC : CtxOk P C) (hm : P.follows .mixedOrders = true) (hf : P.funcs[f]? = some fn) {p : Rat → Nat → Rat → Nat → Prop} {r : Rat → Nat → Rat → Nat → Av} (h : ∀ m K n L, Sz m K → Sz n L → K + L ≤ 4294967296 → p m K n L → fnOk C fn [rAv m K, rAv n L] (r m K n L)) : SpecOk P f (spQQ p r) := by
  intro own w vs xs hown ha
  cases ha with
  | nil => trivial
  | @cons v x _ _ hx ht =>
    cases ht with
    | nil => cases v <;> trivial
    | @cons v' y _ _ hy ht =>
      cases ht with
      | cons _ _ => cases v <;> cases v' <;> trivial
      | nil =>
        cases v with
        | agg a =>
          cases v' with
          | agg a' =>
            cases hr : asRat a with
            | none => simp only [spQQ, hr]
            | some q =>
              obtain ⟨m, K⟩ := q
              cases hs : asRat a' with
              | none => simp only [spQQ, hr, hs]
              | some q' =>
                obtain ⟨n, L⟩ := q'
                simp only [spQQ, hr, hs]
                intro hp
                exact fn_ok hC hm hf (h m K n L (by obtain ⟨_, _, _, _, hi⟩ := arg_q hx hr; exact hi.sz) (by obtain ⟨_, _, _, _, hi⟩ := arg_q hy hs; exact hi.sz) hp.1 hp.2) hown (.cons (rob_q hx hr) (.cons (rob_q hy hs) .nil))
          | _ => trivial
        | _ => trivial
end

section
variable {P : Program} {own : Nat → Prop} {w : World} {f : FuncId}
/-- limbs that are there in all worlds that agree are the same limbs in all of them -/
theorem lim_keep {A : Option Addr} {c n : Nat} {xs : List Nat} (hn : xs.length = n) (h0 : Lim w A c xs) (h : ∀ w', Agree own w w' → ∃ ys, Lim w' A c ys ∧ ys.length = n) {w' : World} (hg : Agree own w w') : Lim w' A c xs := by
  refine ⟨h0.lb, h0.cap, h0.max, fun hp => ?_⟩
  obtain ⟨b, off, rfl, hb, hc⟩ := h0.cells hp
  have hno : ¬ own b := by
    intro ho
    obtain ⟨ys, hl, hly⟩ := h _ (spoil_agree (b := b) ho)
    obtain ⟨b2, off2, e, _, hc2⟩ := hl.cells (by omega)
    simp at e
    obtain ⟨rfl, rfl⟩ := e
    have := hc2 0 (by omega)
    rw [spoil_cell hb] at this; cases this
  exact ⟨b, off, rfl, Nat.lt_of_lt_of_le hb hg.size, fun k hk => (cell_agree hg hb hno).trans (hc k hk)⟩
/-- a sign and two numbers, as they lie -/
def rwAv (s : Bool) (m d K : Nat) : Av := .agg (.cons (.val (.bool s)) (.cons (.nat m K) (.cons (.nat d K) .nil)))
def iwAv (s : Bool) (m K : Nat) : Av := .agg (.cons (.val (.bool s)) (.cons (.nat m K) .nil))
def sg (s : Bool) (m : Nat) : Int := if s then -(m : Int) else (m : Int)
theorem rob_rw {x : Value} {q : Rat} {K : Nat} (h : Rob own w (rAv q K) [x]) : ∃ s m d, q = mkRat (sg s m) d ∧ 1 ≤ K ∧ Rob own w (rwAv s m d K) [x] := by
  obtain ⟨us, e, hu⟩ := h.here
  simp at e
  subst e
  obtain ⟨b, s, t, rfl, p, A, xs, c, B, ys, d, rfl, rfl, rfl, h1, h2, h3, h4, h5, h6⟩ := cons_nil hu
  refine ⟨p, val xs, val ys, h6.symm, h5, fun w' hg => ⟨_, rfl, [_], [_, _], rfl, rfl, [_], [_], rfl, ⟨A, xs, c, rfl, ?_, h3, rfl⟩, [_], [], rfl, ⟨B, ys, d, rfl, ?_, h4, rfl⟩, rfl⟩⟩
  · refine lim_keep rfl h1 (fun w2 hg2 => ?_) hg
    obtain ⟨us, e, hu⟩ := h w2 hg2
    simp at e
    subst e
    obtain ⟨b, s, t, e, p', A', xs', c', B', ys', d', rfl, rfl, rfl, k1, k2, _⟩ := cons_nil hu
    simp at e
    obtain ⟨_, ⟨rfl, e1, rfl⟩, rfl, e2, rfl⟩ := e
    exact ⟨xs', k1, e1.symm⟩
  · refine lim_keep rfl h2 (fun w2 hg2 => ?_) hg
    obtain ⟨us, e, hu⟩ := h w2 hg2
    simp at e
    subst e
    obtain ⟨b, s, t, e, p', A', xs', c', B', ys', d', rfl, rfl, rfl, k1, k2, _⟩ := cons_nil hu
    simp at e
    obtain ⟨_, ⟨rfl, e1, rfl⟩, rfl, e2, rfl⟩ := e
    exact ⟨ys', k2, e2.symm⟩
theorem rob_iw {x : Value} {q : Int} {K : Nat} (h : Rob own w (nAv q K) [x]) : ∃ s m, q = sg s m ∧ Rob own w (iwAv s m K) [x] := by
  obtain ⟨us, e, hu⟩ := h.here
  simp at e
  subst e
  obtain ⟨b, s, rfl, p, A, xs, c, rfl, rfl, h1, h3, h6⟩ := cons_nil hu
  refine ⟨p, val xs, h6.symm, fun w' hg => ⟨_, rfl, [_], [_], rfl, rfl, [_], [], rfl, ⟨A, xs, c, rfl, ?_, h3, rfl⟩, rfl⟩⟩
  refine lim_keep rfl h1 (fun w2 hg2 => ?_) hg
  obtain ⟨us, e, hu⟩ := h w2 hg2
  simp at e
  subst e
  obtain ⟨b, s, e, p', A', xs', c', rfl, rfl, k1, _⟩ := cons_nil hu
  simp at e
  obtain ⟨_, rfl, e1, rfl⟩ := e
  exact ⟨xs', k1, e1.symm⟩
theorem spQ_of {p : Rat → Nat → Prop} {r : Rat → Nat → Av} (h : ∀ own w x n K, (∀ b, own b → b < w.heap.size) → Rob own w (rAv n K) [x] → Sz n K → K ≤ 4294967296 → p n K → CallOk own P f [x] w (r n K)) : SpecOk P f (spQ p r) := by
  intro own w vs xs hown ha
  cases ha with
  | nil => trivial
  | @cons v x _ _ hx ht =>
    cases ht with
    | cons _ _ => cases v <;> trivial
    | nil =>
      cases v with
      | agg a =>
        cases hr : asRat a with
        | none => simp only [spQ, hr]
        | some q =>
          obtain ⟨n, K⟩ := q
          simp only [spQ, hr]
          intro hp
          exact h own w x n K hown (rob_q hx hr) (by obtain ⟨_, _, _, _, hi⟩ := arg_q hx hr; exact hi.sz) hp.1 hp.2
      | _ => trivial
theorem spQQ_of {p : Rat → Nat → Rat → Nat → Prop} {r : Rat → Nat → Rat → Nat → Av} (h : ∀ own w x y m K n L, (∀ b, own b → b < w.heap.size) → Rob own w (rAv m K) [x] → Rob own w (rAv n L) [y] → Sz m K → Sz n L → K + L ≤ 4294967296 → p m K n L → CallOk own P f [x, y] w (r m K n L)) : SpecOk P f (spQQ p r) := by
  intro own w vs xs hown ha
  cases ha with
  | nil => trivial
  | @cons v x _ _ hx ht =>
    cases ht with
    | nil => cases v <;> trivial
    | @cons v' y _ _ hy ht =>
      cases ht with
      | cons _ _ => cases v <;> cases v' <;> trivial
      | nil =>
        cases v with
        | agg a =>
          cases v' with
          | agg a' =>
            cases hr : asRat a with
            | none => simp only [spQQ, hr]
            | some q =>
              obtain ⟨m, K⟩ := q
              cases hs : asRat a' with
              | none => simp only [spQQ, hr, hs]
              | some q' =>
                obtain ⟨n, L⟩ := q'
                simp only [spQQ, hr, hs]
                intro hp
                exact h own w x y m K n L hown (rob_q hx hr) (rob_q hy hs) (by obtain ⟨_, _, _, _, hi⟩ := arg_q hx hr; exact hi.sz) (by obtain ⟨_, _, _, _, hi⟩ := arg_q hy hs; exact hi.sz) hp.1 hp.2
          | _ => trivial
        | _ => trivial
/-- two rational numbers, and a choice -/
def spQQg {G : Type} (p : Rat → Nat → Rat → Nat → G → Prop) (r : Rat → Nat → Rat → Nat → G → Av) : Spec
  | [.agg a, .agg b] => match asRat a with
    | some (m, K) => match asRat b with
      | some (n, L) => .gh G (fun g => K + L ≤ 4294967296 ∧ p m K n L g) (r m K n L)
      | none => .no
    | none => .no
  | _ => .no
theorem spQQg_of {G : Type} {p : Rat → Nat → Rat → Nat → G → Prop} {r : Rat → Nat → Rat → Nat → G → Av} (h : ∀ own w x y m K n L g, (∀ b, own b → b < w.heap.size) → Rob own w (rAv m K) [x] → Rob own w (rAv n L) [y] → Sz m K → Sz n L → K + L ≤ 4294967296 → p m K n L g → CallOk own P f [x, y] w (r m K n L g)) : SpecOk P f (spQQg p r) := by
  intro own w vs xs hown ha
  cases ha with
  | nil => trivial
  | @cons v x _ _ hx ht =>
    cases ht with
    | nil => cases v <;> trivial
    | @cons v' y _ _ hy ht =>
      cases ht with
      | cons _ _ => cases v <;> cases v' <;> trivial
      | nil =>
        cases v with
        | agg a =>
          cases v' with
          | agg a' =>
            cases hr : asRat a with
            | none => simp only [spQQg, hr]
            | some q =>
              obtain ⟨m, K⟩ := q
              cases hs : asRat a' with
              | none => simp only [spQQg, hr, hs]
              | some q' =>
                obtain ⟨n, L⟩ := q'
                simp only [spQQg, hr, hs]
                intro g hp
                exact h own w x y m K n L g hown (rob_q hx hr) (rob_q hy hs) (by obtain ⟨_, _, _, _, hi⟩ := arg_q hx hr; exact hi.sz) (by obtain ⟨_, _, _, _, hi⟩ := arg_q hy hs; exact hi.sz) hp.1 hp.2
          | _ => trivial
        | _ => trivial
/-- canonical numbers: equal or not -/
def zrAv : Av := .agg (.cons (.kb false) (.cons (.val (.slice none 0 0)) (.cons (.val (.slice none 0 0)) .nil)))
def spEqZ : Spec
  | [.agg (.cons (.intC m K) .nil), .agg (.cons (.intC n L) .nil)] => .res (some (K + L ≤ 268435456)) (.val (.bool (decide (m = n))))
  | [.agg (.cons (.kb false) (.cons (.val (.slice none 0 0)) .nil)), .agg (.cons (.kb false) (.cons (.val (.slice none 0 0)) .nil))] => .res none (.kb true)
  | _ => .no
def ziAv : Av := .agg (.cons (.kb false) (.cons (.val (.slice none 0 0)) .nil))
def spEqR : Spec
  | [.agg (.cons (.ratC m K) .nil), .agg (.cons (.ratC n L) .nil)] => .res (some (K + L ≤ 268435456)) (.val (.bool (decide (m = n))))
  | [.agg (.cons (.kb false) (.cons (.val (.slice none 0 0)) (.cons (.val (.slice none 0 0)) .nil))), .agg (.cons (.kb false) (.cons (.val (.slice none 0 0)) (.cons (.val (.slice none 0 0)) .nil)))] => .res none (.kb true)
  | _ => .no
variable {C : Ctx} {fn : Func}
theorem spEqZ_ok (hC : CtxOk P C) (hm : P.follows .mixedOrders = true) (hf : P.funcs[f]? = some fn) (h : ∀ m K n L, K + L ≤ 268435456 → fnOk C fn [zAv m K, zAv n L] (.val (.bool (decide (m = n))))) (h0 : fnOk C fn [ziAv, ziAv] (.kb true)) : SpecOk P f spEqZ := by
  intro own w vs xs hown ha
  generalize e : spEqZ vs = z
  unfold spEqZ at e
  split at e <;> subst e
  · intro hp; exact fn_ok hC hm hf (h _ _ _ _ hp) hown ha
  · intro hp; exact fn_ok hC hm hf h0 hown ha
  · trivial
theorem spEqR_ok (hC : CtxOk P C) (hm : P.follows .mixedOrders = true) (hf : P.funcs[f]? = some fn) (h : ∀ m K n L, K + L ≤ 268435456 → fnOk C fn [qAv m K, qAv n L] (.val (.bool (decide (m = n))))) (h0 : fnOk C fn [zrAv, zrAv] (.kb true)) : SpecOk P f spEqR := by
  intro own w vs xs hown ha
  generalize e : spEqR vs = z
  unfold spEqR at e
  split at e <;> subst e
  · intro hp; exact fn_ok hC hm hf (h _ _ _ _ hp) hown ha
  · intro hp; exact fn_ok hC hm hf h0 hown ha
  · trivial
theorem lim_agr {w' : World} {A : Option Addr} {c : Nat} {xs : List Nat} (h : Lim w A c xs) (hg : Agree (fun _ => False) w w') : Lim w' A c xs :=
  ⟨h.lb, h.cap, h.max, fun h0 => by
    obtain ⟨b, off, e, hb, hc⟩ := h.cells h0
    exact ⟨b, off, e, Nat.lt_of_lt_of_le hb hg.size, fun k hk => (cell_agree hg hb (fun h => h)).trans (hc k hk)⟩⟩
/-- arguments from outside -/
theorem rob_rat {A B : Option Addr} {xs ys : List Nat} {c d K : Nat} (p : Bool) (h : Lim w A c xs) (g : Lim w B d ys) (k : xs.length ≤ K) (l : ys.length ≤ K) (h1 : 1 ≤ K) : Rob (fun _ => False) w (rAv (rv p xs ys) K) [.agg #[.bool p, .slice A xs.length c, .slice B ys.length d]] :=
  fun _ hg => ⟨_, rfl, _, [], (List.append_nil _).symm, ⟨_, _, _, rfl, p, A, xs, c, B, ys, d, rfl, rfl, rfl, lim_agr h hg, lim_agr g hg, k, l, h1, rfl⟩, rfl⟩
theorem rob_int {A : Option Addr} {xs : List Nat} {c K : Nat} (p : Bool) (h : Lim w A c xs) (k : xs.length ≤ K) : Rob (fun _ => False) w (nAv (iv p xs) K) [.agg #[.bool p, .slice A xs.length c]] :=
  fun _ hg => ⟨_, rfl, _, [], (List.append_nil _).symm, ⟨_, _, rfl, p, A, xs, c, rfl, rfl, lim_agr h hg, k, rfl⟩, rfl⟩
theorem call_b {own : Nat → Prop} {xs : List Value} {b : Bool} (h : CallOk own P f xs w (.val (.bool b))) : Calls P f xs.toArray w (RetB w b) := by
  refine h.mono ?_
  rintro e w' ⟨v, rfl, hr, hb⟩
  have := hr.here
  simp only [Hold] at this
  simp at this
  subst this
  exact ⟨rfl, hb⟩
end

end Go.Vx
