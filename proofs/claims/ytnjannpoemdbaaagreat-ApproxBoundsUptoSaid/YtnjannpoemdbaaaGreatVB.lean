/- What each operation does. -/
import Derived.Test.YtnjannpoemdbaaaGreatVA
import Derived.Laws.Tables
import Derived.Laws.MakeOwn
import Derived.Great.FillDense
namespace Go.Vx
open Go Go.RowKit Go.Proofs.YtnjannpoemdbaaaGreat Gm

def aggD : TypeDesc → Bool
  | .struct _ => true
  | .array _ _ => true
  | _ => false
def fieldsOk (P : Program) : List (Nat × Nat) → List Field → Prop
  | [], [] => True
  | (o, n) :: l, f :: fs => f.offset = o ∧ (∃ i, P.info? f.type = some i ∧ i.size = n ∧ ∃ d, P.underlying f.type = some d ∧ aggD d = Nat.blt 1 n) ∧ n ≠ 0 ∧ fieldsOk P l fs
  | _, _ => False
def dOk (P : Program) (i : TI) : TypeDesc → Prop
  | .struct fs => i.agg = true ∧ i.elem = none ∧ i.ik = none ∧ i.isB = false ∧ fieldsOk P i.fields fs.toList
  | .slice e => i.agg = false ∧ i.size = 1 ∧ i.elem = some e ∧ i.ik = none ∧ i.isB = false ∧ i.fields = []
  | .int k => i.agg = false ∧ i.size = 1 ∧ i.elem = none ∧ i.ik = some k ∧ i.isB = false ∧ i.fields = []
  | .bool => i.agg = false ∧ i.size = 1 ∧ i.elem = none ∧ i.ik = none ∧ i.fields = []
  | .pointer _ => i.agg = false ∧ i.size = 1 ∧ i.elem = none ∧ i.ik = none ∧ i.isB = false ∧ i.fields = []
  | _ => False
/-- the table says what the type is -/
structure TIok (P : Program) (T : Nat) (i : TI) : Prop where
  inf : ∃ f z, P.info? T = some f ∧ f.size = i.size ∧ f.bytes ≤ 32768 ∧ f.zero = some z ∧ z.cells.toList = i.zero ∧ i.zero.length = i.size ∧ 0 < i.size ∧ (i.agg = true → z = .agg i.zero.toArray)
  dsc : ∃ d, P.underlying T = some d ∧ dOk P i d
def CallOk (own : Nat → Prop) (P : Program) (f : FuncId) (xs : List Value) (w : World) (r : Av) : Prop :=
  Calls P f xs.toArray w fun e w' => ∃ v, e = .returned v ∧ Rob own w' r [v] ∧ Below w.heap.size w w'
/-- all that there was is as it was, but for the block b -/
structure But (b : Nat) (w w' : World) : Prop where
  os : w'.os = w.os
  tape : w'.tape = w.tape
  output : w'.output = w.output
  size : w.heap.size ≤ w'.heap.size
  block : ∀ c, c < w.heap.size → c ≠ b → w'.heap[c]? = w.heap[c]?
/-- a call that is handed a pointer to the block b -/
def CallMut (own : Nat → Prop) (P : Program) (f : FuncId) (b : Nat) (xs : List Value) (w : World) (r cs : Av) : Prop :=
  Calls P f (Value.pointer (some ⟨b, 0, none⟩) :: xs).toArray w fun e w' => ∃ v us T, e = .returned v ∧ Rob own w' r [v] ∧ w'.heap[b]? = some (.cells us.toArray T (0, 0)) ∧ Rob own w' cs us ∧ But b w w'
/-- a call that makes a variable and returns a pointer to it -/
def CallNew (own : Nat → Prop) (P : Program) (f : FuncId) (xs : List Value) (w : World) (cs : Av) : Prop :=
  Calls P f xs.toArray w fun e w' => ∃ b us T, e = .returned (.pointer (some ⟨b, 0, none⟩)) ∧ w.heap.size ≤ b ∧ b < w'.heap.size ∧ w'.heap[b]? = some (.cells us.toArray T (0, 0)) ∧ Rob (fun c => own c ∨ c = b) w' cs us ∧ Below w.heap.size w w'
/-- a call that returns a struct whose first part is a new row -/
def CallRow (own : Nat → Prop) (P : Program) (f : FuncId) (xs : List Value) (w : World) (T sz n : Nat) (g : Nat → Av) (rest : Av) : Prop :=
  Calls P f xs.toArray w fun e w' => ∃ σ us ys, e = .returned (.agg (σ :: us).toArray) ∧ σ.oneCell' = true ∧ (∀ b, σ.ownBlock = some b → w.heap.size ≤ b ∧ b < w'.heap.size) ∧ w'.ownsRow w.heap.size T sz σ n ys ∧ (∀ u ∈ ys, u.oneCell' = true) ∧ (∀ i, i < n → Rob (fun c => own c ∨ σ.ownBlock = some c) w' (g i) (seg ys i sz)) ∧ Rob (fun c => own c ∨ σ.ownBlock = some c) w' rest us ∧ Below w.heap.size w w'
def vcT : Option Prop → Prop
  | none => True
  | some p => p
/-- a contract -/
def SpecOk (P : Program) (f : FuncId) (sp : Spec) : Prop := ∀ (own : Nat → Prop) (w : World) (vs : List Av) (xs : List Value), (∀ b, own b → b < w.heap.size) → All2 (fun v x => Rob own w v [x]) vs xs →
  match sp vs with
  | .no => True
  | .res p r => vcT p → CallOk own P f xs w r
  | .gh _ p r => ∀ g, p g → CallOk own P f xs w (r g)
  | .chg p r cs' => vcT p → ∀ (b : Nat) (T : TypeId) (us : List Value) (ys : List Value), xs = .tuple us.toArray :: ys → own b → w.heap[b]? = some (.cells us.toArray T (0, 0)) → CallMut own P f b ys w r cs'
  | .new p cs => vcT p → CallNew own P f xs w cs
  | .row p T sz n g rest => vcT p → CallRow own P f xs w T sz n g rest
structure CtxOk (P : Program) (C : Ctx) : Prop where
  tt : ∀ T i, (T, i) ∈ C.tt → TIok P T i
  sp : ∀ f sp, (f, sp) ∈ C.sp → SpecOk P f sp ∧ ∃ fn c, P.funcs[f]? = some fn ∧ fn.body = some c ∧ (fn.name == "runtime.NumGoroutine") = false
/-- from the state s the operation o comes to the value v and the blocks u -/
def Res (P : Program) (own0 ext : Nat → Prop) (w0 : World) (s : St) (a : Act) (w : World) (o : Oper) (v : Av) (u : List (Nat × Ob)) : Prop :=
  ∀ (K : Act → World → Prop) (Q : Exit → Act → World → Prop), (∀ E' a' w', Con own0 ext w0 (s.after' o.dst v u) E' a' w' → K a' w') → o.wp P a w K Q
def OutOk (P : Program) (own0 ext : Nat → Prop) (w0 : World) (s : St) (a : Act) (w : World) (o : Oper) : OutG → Prop
  | .mk ⟨v, u, nw, vc⟩ => vcT vc → (nw = true → ∃ d, o.dst = some d ∧ s.FreeO (isAlloc o.op) d ∧ d < s.tm.length ∧ ∀ c, ext c → d ≠ 0) → Res P own0 ext w0 s a w o v u
  | .gh _ u p r => ∀ g, p g → Res P own0 ext w0 s a w o (r g) u
section
variable {P : Program} {own0 ext : Nat → Prop} {w0 w : World} {s : St} {E : Env} {a : Act} {o : Oper}
theorem Res.val (h : Con own0 ext w0 s E a w) {v : Av} {x : Value} (hr : (execOp a.eval o).run P w = .ok (.value x) w) (hv : Ok E (ownS own0 s E) w v [x]) : Res P own0 ext w0 s a w o v [] := by
  intro K Q hK
  unfold Oper.wp
  rw [hr]
  exact hK E _ _ (h.put o.dst hv)
theorem one_ok (h : Con own0 ext w0 s E a w) {v : Av} {x : Value} {out : OutG} (he : (one v).eval s = some out) (hr : (execOp a.eval o).run P w = .ok (.value x) w) (hv : Ok E (ownS own0 s E) w v [x]) : OutOk P own0 ext w0 s a w o out := by
  simp only [one, Rd.eval, Option.some.injEq] at he
  subst he
  intro _ _
  exact Res.val h hr hv
theorem oneIf_ok (h : Con own0 ext w0 s E a w) {v : Av} {p : Prop} {x : Value} {out : OutG} (he : (oneIf p v).eval s = some out) (hr : p → (execOp a.eval o).run P w = .ok (.value x) w ∧ Ok E (ownS own0 s E) w v [x]) : OutOk P own0 ext w0 s a w o out := by
  simp only [oneIf, Rd.eval, Option.some.injEq] at he
  subst he
  intro hp _
  exact Res.val h (hr hp).1 (hr hp).2
theorem opAv_ok (h : Con own0 ext w0 s E a w) {x : Operand} {v : Av} (hx : opAv s x = some v) : Ok E (ownS own0 s E) w v [a.eval x] := by
  cases x with
  | tmp t =>
    simp only [opAv, Option.some.injEq] at hx
    subst hx
    by_cases ht : t < s.tm.length
    · exact h.slots t ht
    · have e : s.slot t = .any := by simp [St.slot, List.getD_eq_getElem?_getD, List.getElem?_eq_none_iff.2 (Nat.le_of_not_lt ht)]
      rw [e]
      exact fun _ _ => ⟨_, rfl⟩
  | const u =>
    cases u <;> simp only [opAv, Option.some.injEq] at hx <;> first | (subst hx; exact fun _ _ => rfl) | cases hx
  | global g => cases hx
  | func f => cases hx
theorem val_of {v x : Value} (h : Ok E (ownS own0 s E) w (.val v) [x]) : x = v := by
  have := Rob.here h
  simp only [Hold] at this
  simpa using this
theorem kb_of {b : Bool} {x : Value} (h : Ok E (ownS own0 s E) w (.kb b) [x]) : x = .bool b := by
  have := Rob.here h
  simp only [Hold] at this
  simpa using this
theorem val_mk (E : Env) (own : Nat → Prop) (w : World) (v : Value) : Ok E own w (.val v) [v] := fun _ _ => rfl
theorem kb_mk (E : Env) (own : Nat → Prop) (w : World) (b : Bool) : Ok E own w (.kb b) [.bool b] := fun _ _ => rfl
theorem move_ok (h : Con own0 ext w0 s E a w) {x : Operand} {out : OutG} (ho : o.op = .move x ∨ o.op = .assign x) (he : (rd x one).eval s = some out) : OutOk P own0 ext w0 s a w o out := by
  obtain ⟨v, hv, h1⟩ := rd_eval s x _ he
  refine one_ok h h1 (x := a.eval x) ?_ (opAv_ok h hv)
  rcases ho with ho | ho <;> simp [execOp, ho]
theorem pick_ok (h : Con own0 ext w0 s E a w) {C : Ctx} {d : Nat} {c x y : Operand} {out : OutG} (ho : o.op = .pick c x y) (he : (aop C d (.pick c x y)).eval s = some out) : OutOk P own0 ext w0 s a w o out := by
  simp only [aop] at he
  obtain ⟨v, hv, h1⟩ := rd_eval s c _ he
  cases v with
  | kb b =>
    have hb := kb_of (opAv_ok h hv)
    cases b with
    | true =>
      obtain ⟨v, hv, h1⟩ := rd_eval s x _ h1
      exact one_ok h h1 (x := a.eval x) (by simp [execOp, ho, hb, Go.asBool]) (opAv_ok h hv)
    | false =>
      obtain ⟨v, hv, h1⟩ := rd_eval s y _ h1
      exact one_ok h h1 (x := a.eval y) (by simp [execOp, ho, hb, Go.asBool]) (opAv_ok h hv)
  | _ => cases h1
theorem kindEq_eq {k k' : IntKind} (h : kindEq k k' = true) : k = k' := by cases k <;> cases k' <;> first | rfl | cases h
theorem asBool_ok {v : Av} {b : Bool} {x : Value} (hb : asBool v = some b) (h : Ok E (ownS own0 s E) w v [x]) : x = .bool b := by
  cases v with
  | kb c => simp only [asBool, Option.some.injEq] at hb; subst hb; exact kb_of h
  | val u =>
    cases u with
    | bool c => simp only [asBool, Option.some.injEq] at hb; subst hb; exact val_of h
    | _ => cases hb
  | _ => cases hb
theorem TIok.isB {T : Nat} {i : TI} (h : TIok P T i) (hb : i.isB = true) : P.underlying T = some .bool := by
  obtain ⟨d, hd, hk⟩ := h.dsc
  rw [hd]
  cases d <;> simp only [dOk] at hk <;> first | rfl | exact hk.elim | (simp [hb] at hk)
theorem TIok.ik {T : Nat} {i : TI} {k : IntKind} (h : TIok P T i) (hb : i.ik = some k) : P.underlying T = some (.int k) := by
  obtain ⟨d, hd, hk⟩ := h.dsc
  rw [hd]
  cases d <;> simp only [dOk] at hk <;> first | exact hk.elim | (simp [hb] at hk; done) | (simp [hb] at hk; obtain ⟨_, _, _, h1, _⟩ := hk; rw [h1])
theorem TIok.elem {T e : Nat} {i : TI} (h : TIok P T i) (hb : i.elem = some e) : P.underlying T = some (.slice e) := by
  obtain ⟨d, hd, hk⟩ := h.dsc
  rw [hd]
  cases d <;> simp only [dOk] at hk <;> first | exact hk.elim | (simp [hb] at hk; done) | (simp [hb] at hk; obtain ⟨_, _, h1, _⟩ := hk; rw [h1])
theorem TIok.size {T : Nat} {i : TI} (h : TIok P T i) (w : World) : (sizeOf T).run P w = .ok i.size w := by
  obtain ⟨f, z, h1, h2, _⟩ := h.inf
  simp [sizeOf, typeInfo, h1, h2]
theorem TIok.isAgg {T : Nat} {i : TI} (h : TIok P T i) (w : World) : (isAgg T).run P w = .ok i.agg w := by
  obtain ⟨d, hd, hk⟩ := h.dsc
  cases d <;> simp only [dOk] at hk <;> first | exact hk.elim | simp [Go.isAgg, run_underlying hd, hk.1]
theorem TIok.one {T : Nat} {i : TI} (h : TIok P T i) (ha : i.agg = false) : i.size = 1 := by
  obtain ⟨d, hd, hk⟩ := h.dsc
  cases d <;> simp only [dOk] at hk <;> first | exact hk.elim | exact hk.2.1 | (rw [ha] at hk; cases hk.1)
theorem elemTI_ok {C : Ctx} (hC : CtxOk P C) {T Et : Nat} {e : TI} (h : elemTI C T = some (Et, e)) : P.underlying T = some (.slice Et) ∧ TIok P Et e := by
  unfold elemTI at h
  cases h1 : look C.tt T with
  | none => rw [h1] at h; cases h
  | some i =>
    rw [h1] at h
    simp only at h
    cases h2 : i.elem with
    | none => rw [h2] at h; cases h
    | some E' =>
      rw [h2] at h
      simp only at h
      cases h3 : look C.tt E' with
      | none => rw [h3] at h; cases h
      | some e' =>
        rw [h3] at h
        simp only [Option.some.injEq, Prod.mk.injEq] at h
        obtain ⟨rfl, rfl⟩ := h
        exact ⟨(hC.tt T i (look_mem h1)).elem h2, hC.tt _ _ (look_mem h3)⟩
end

section
variable {P : Program} {own0 ext : Nat → Prop} {w0 w : World} {s : St} {E : Env} {a : Act} {o : Oper} {C : Ctx} {d : Nat}
theorem bin_run {op : BinOp} {T T' : Nat} {x y : Operand} (ho : o.op = .binOp op T x y T') {v : Value} (hg : (eqGuard op T x y (a.eval x) (a.eval y)).run P w = .ok () w) (hr : (binOp op T (a.eval x) (a.eval y)).run P w = .ok v w) : (execOp a.eval o).run P w = .ok (.value v) w := by
  simp [execOp, ho, hg, hr]
theorem eqGuard_int {op : BinOp} {T : Nat} {x y : Operand} {k k' : IntKind} {m n : Int} : (eqGuard op T x y (.int k m) (.int k' n)).run P w = .ok () w := by
  unfold eqGuard
  cases op <;> simp
theorem eqGuard_bool {op : BinOp} {T : Nat} {x y : Operand} {m n : Bool} : (eqGuard op T x y (.bool m) (.bool n)).run P w = .ok () w := by
  unfold eqGuard
  cases op <;> simp
theorem equal_bool {T : Nat} (hu : P.underlying T = some .bool) (p q : Bool) : (Op.equal T (.bool p) (.bool q)).run P w = .ok (p == q) w := by
  unfold Op.equal
  rw [show Op.maxDepth = 9999 + 1 from rfl, Op.equalIn]
  simp [run_underlying hu]
theorem binOp_bool {T : Nat} (hu : P.underlying T = some .bool) (p q : Bool) : (binOp .eql T (.bool p) (.bool q)).run P w = .ok (.bool (p == q)) w ∧ (binOp .neq T (.bool p) (.bool q)).run P w = .ok (.bool (!(p == q))) w := by
  have := equal_bool (w := w) hu p q
  constructor
  · show (do pure (Value.bool (← Op.equal T (.bool p) (.bool q))) : Sem Value).run P w = _
    simp only [Sem.run_bind, this, Result.andThen_ok, Sem.run_pure]
  · show (do pure (Value.bool (!(← Op.equal T (.bool p) (.bool q)))) : Sem Value).run P w = _
    simp only [Sem.run_bind, this, Result.andThen_ok, Sem.run_pure]
theorem binOp_ok (hC : CtxOk P C) (h : Con own0 ext w0 s E a w) {op : BinOp} {T T' : Nat} {x y : Operand} {out : OutG} (ho : o.op = .binOp op T x y T') (he : (aop C d (.binOp op T x y T')).eval s = some out) : OutOk P own0 ext w0 s a w o out := by
  simp only [aop] at he
  obtain ⟨v1, hv1, he⟩ := rd_eval s x _ he
  obtain ⟨v2, hv2, he⟩ := rd_eval s y _ he
  have k1 := opAv_ok h hv1
  have k2 := opAv_ok h hv2
  cases hb1 : asBool v1 with
  | none =>
    rw [hb1] at he
    simp only [binAv] at he
    cases v1 with
    | val u1 =>
      cases u1 with
      | int k m =>
        simp only at he
        cases v2 with
        | val u2 =>
          cases u2 with
          | int k' n =>
            simp only at he
            have e1 := val_of k1
            have e2 := val_of k2
            cases hk : kindEq k k' with
            | false => rw [hk] at he; cases he
            | true =>
              rw [hk] at he
              have := kindEq_eq hk
              subst this
              have hg : (eqGuard op T x y (a.eval x) (a.eval y)).run P w = .ok () w := by rw [e1, e2]; exact eqGuard_int
              cases op <;> simp only [arith] at he <;> first
                | (refine one_ok h he (bin_run ho hg (v := _) ?_) (val_mk _ _ _ _); rw [e1, e2]; simp [binOp, Op.intArith, Op.intCmp]; done)
                | (refine oneIf_ok h he (x := _) (fun hn => ⟨bin_run ho hg ?_, val_mk _ _ _ _⟩); rw [e1, e2]; simp [binOp, Op.intDiv, hn]; done)
                | cases he
          | _ => cases he
        | _ => cases he
      | _ => cases he
    | _ => cases he
  | some p =>
    rw [hb1] at he
    simp only at he
    have e1 := asBool_ok hb1 k1
    cases hb2 : asBool v2 with
    | none => rw [hb2] at he; cases he
    | some q =>
      rw [hb2] at he
      simp only at he
      have e2 := asBool_ok hb2 k2
      cases hl : look C.tt T with
      | none => rw [hl] at he; cases he
      | some i =>
        obtain ⟨i1, i2, i3, i4, i5, i6, i7⟩ := i
        rw [hl] at he
        cases i7 with
        | false => cases he
        | true =>
          have hu := (hC.tt _ _ (look_mem hl)).isB rfl
          have hg : (eqGuard op T x y (a.eval x) (a.eval y)).run P w = .ok () w := by rw [e1, e2]; exact eqGuard_bool
          cases op <;> simp only at he <;> first
            | (refine one_ok h he (bin_run ho hg (v := _) ?_) (val_mk _ _ _ _); rw [e1, e2]; first | exact (binOp_bool hu p q).1 | exact (binOp_bool hu p q).2)
            | cases he
theorem unOp_ok (h : Con own0 ext w0 s E a w) {op : UnOp} {T : Nat} {x : Operand} {out : OutG} (ho : o.op = .unOp op T x) (he : (aop C d (.unOp op T x)).eval s = some out) : OutOk P own0 ext w0 s a w o out := by
  simp only [aop] at he
  obtain ⟨v, hv, he⟩ := rd_eval s x _ he
  have k := opAv_ok h hv
  cases v with
  | kb b =>
    have e := kb_of k
    cases op <;> simp only at he <;> first | cases he; done | exact one_ok h he (x := .bool !b) (by simp [execOp, ho, e, Op.unary]) (kb_mk _ _ _ _)
  | val u =>
    have e := val_of k
    cases u with
    | bool b => cases op <;> simp only at he <;> first | cases he; done | exact one_ok h he (x := .bool !b) (by simp [execOp, ho, e, Op.unary]) (val_mk _ _ _ _)
    | int kk n => cases op <;> simp only at he <;> first | cases he; done | exact one_ok h he (x := .int kk (kk.wrap (0 - n))) (by simp [execOp, ho, e, Op.unary, Op.intArith]) (val_mk _ _ _ _)
    | _ => cases he
  | _ => cases he
theorem convert_ok (hC : CtxOk P C) (h : Con own0 ext w0 s E a w) {S T : Nat} {x : Operand} {out : OutG} (ho : o.op = .convert S T x) (he : (aop C d (.convert S T x)).eval s = some out) : OutOk P own0 ext w0 s a w o out := by
  simp only [aop] at he
  cases hs : look C.tt S with
  | none => rw [hs] at he; cases he
  | some j =>
    cases hl : look C.tt T with
    | none => rw [hs, hl] at he; cases he
    | some i =>
      obtain ⟨i1, i2, i3, i4, i5, i6, i7⟩ := i
      rw [hs, hl] at he
      cases i6 with
      | none => cases he
      | some k =>
        simp only at he
        obtain ⟨v, hv, he⟩ := rd_eval s x _ he
        have kk := opAv_ok h hv
        have hu := (hC.tt _ _ (look_mem hl)).ik rfl
        obtain ⟨ds, hds, _⟩ := (hC.tt _ _ (look_mem hs)).dsc
        cases v with
        | val u =>
          have e := val_of kk
          cases u with
          | int k' n =>
            refine one_ok h he (x := .int k (k.wrap n)) ?_ (val_mk _ _ _ _)
            simp only [execOp, ho, e, convert, Sem.run_bind, run_underlying hds, run_underlying hu, Result.andThen_ok]
            cases ds <;> simp [Conv.intToInt]
          | _ => cases he
        | _ => cases he
theorem extract_ok (h : Con own0 ext w0 s E a w) {x : Operand} {i : Nat} {out : OutG} (ho : o.op = .extract x i) (he : (aop C d (.extract x i)).eval s = some out) : OutOk P own0 ext w0 s a w o out := by
  simp only [aop] at he
  obtain ⟨v, hv, he⟩ := rd_eval s x _ he
  have k := opAv_ok h hv
  cases v with
  | tup cs =>
    obtain ⟨us, e, hus⟩ := k
    simp at e
    simp only at he
    cases hs : Av.split none 64 i cs (fun _ y => some y) with
    | none => rw [hs] at he; cases he
    | some y =>
      rw [hs] at he
      obtain ⟨p, q, hsp, hq⟩ := split_ok (fun r => r = some y) (by simp) _ _ _ _ hs
      simp at hq
      subst hq
      cases q with
      | cons b l =>
        simp only at he
        obtain ⟨vs, ws, e2, hl, _, x2, y2, e3, hb, _⟩ := hsp.ok E _ w us hus
        rw [hasSz_eq] at he
        by_cases h1 : b.size = 1
        · rw [if_pos h1] at he
          have hlen := hb.len
          rw [h1] at hlen
          obtain ⟨u, rfl⟩ := List.length_eq_one_iff.1 hlen
          refine one_ok h he (x := u) ?_ hb
          simp only [execOp, ho, e, Instr.extract]
          have : us[i]? = some u := by rw [e2, e3, List.getElem?_append_right (by omega), hl]; simp
          simp [this]
        · rw [if_neg h1] at he; cases he
      | _ => cases he
  | _ => cases he
end

section
variable {P : Program} {own0 ext : Nat → Prop} {w0 w : World} {s : St} {E : Env} {a : Act} {o : Oper} {C : Ctx} {d : Nat}
theorem addr_add (b off j : Nat) : (⟨b, off, none⟩ : Addr).add j = ⟨b, off + j, none⟩ := by
  unfold Addr.add
  by_cases h : j = 0
  · rw [if_pos h, h]; rfl
  · rw [if_neg h]
/-- the value of a row's slice -/
theorem row_form {T sz n k : Nat} {f : Nat → Av} (h : Con own0 ext w0 s E a w) (hk : s.obj k = .row T sz n f) : ∃ A c, E.σ k = .slice A n c := by
  have := h.objs k
  rw [hk] at this
  obtain ⟨xs, ⟨_, h1 | ⟨g, cap, cur, h1, _⟩⟩, _⟩ := this
  · obtain ⟨h1, rfl⟩ := h1; exact ⟨_, _, h1⟩
  · exact ⟨_, _, h1⟩
theorem froz_form {sz n k : Nat} {f : Nat → Av} (h : Con own0 ext w0 s E a w) (hk : s.obj k = .froz sz n f) : ∃ A c, E.σ k = .slice A n c := by
  have := h.objs k
  rw [hk] at this
  obtain ⟨A, c, e, _⟩ := Rob.here this
  simp at e
  exact ⟨A, c, e⟩
theorem len_run {T et : Nat} {x : Operand} {t : Nat} {A : Option Addr} {n c : Nat} (ho : o.op = .call ⟨.builtin .len, #[x], #[T]⟩) (hu : P.underlying T = some (.slice et)) (he : a.eval x = .slice A n c) (_ht : t = t) : (execOp a.eval o).run P w = .ok (.value (.int .i64 n)) w := by
  simp [execOp, ho, resolve, invoke, builtin, Builtin.len_, he, run_underlying hu, goInt]
theorem len_ok (hC : CtxOk P C) (h : Con own0 ext w0 s E a w) {args : List Operand} {ts : List TypeId} {out : OutG} (ho : o.op = .call ⟨.builtin .len, ⟨args⟩, ⟨ts⟩⟩) (he : (aop C d (.call ⟨.builtin .len, ⟨args⟩, ⟨ts⟩⟩)).eval s = some out) : OutOk P own0 ext w0 s a w o out := by
  simp only [aop] at he
  match ts, ho, he with
  | [], _, he => cases he
  | _ :: _ :: _, _, he => cases he
  | [T], ho, he =>
    simp only at he
    cases hl : elemTI C T with
    | none => rw [hl] at he; cases he
    | some p =>
      obtain ⟨et, ei⟩ := p
      rw [hl] at he
      simp only at he
      obtain ⟨hu, _⟩ := elemTI_ok hC hl
      obtain ⟨vs, hvs, he⟩ := rdl_eval s args _ he
      cases hvs with
      | nil => cases he
      | @cons x v _ _ hx ht =>
        cases ht with
        | cons _ _ => cases he
        | nil =>
          have k := opAv_ok h hx
          simp only at he
          cases v with
          | list sz n f =>
            obtain ⟨A, c, e, _⟩ := Rob.here k
            simp at e
            exact one_ok h he (len_run (t := 0) ho hu e rfl) (val_mk _ _ _ _)
          | row i =>
            simp only [lenAv, Rd.eval] at he
            have e : a.eval x = E.σ i := by simpa using k.1
            cases hi : s.obj i with
            | row T' sz n f =>
              rw [hi] at he
              obtain ⟨A, c, e2⟩ := row_form h hi
              exact one_ok h he (len_run (t := 0) ho hu (e.trans e2) rfl) (val_mk _ _ _ _)
            | froz sz n f =>
              rw [hi] at he
              obtain ⟨A, c, e2⟩ := froz_form h hi
              exact one_ok h he (len_run (t := 0) ho hu (e.trans e2) rfl) (val_mk _ _ _ _)
            | none => rw [hi] at he; cases he
            | var => rw [hi] at he; cases he
          | val u =>
            cases u with
            | slice A n c => exact one_ok h he (len_run (t := 0) ho hu (val_of k) rfl) (val_mk _ _ _ _)
            | _ => cases he
          | natC m K =>
            obtain ⟨A, c, e, _⟩ := Rob.here k
            simp at e
            exact one_ok h he (len_run (t := 0) ho hu e rfl) (val_mk _ _ _ _)
          | _ => cases he
theorem Nat.beq_ok {m n : Nat} (h : Nat.beq m n = true) : m = n := Nat.eq_of_beq_eq_true h
theorem index_run {T et sz : Nat} {x i : Operand} {b off n c : Nat} {j : Int} {ei : TI} (ho : o.op = .indexAddr T x i) (hu : P.underlying T = some (.slice et)) (hi : TIok P et ei) (hsz : ei.size = sz) (he : a.eval x = .slice (some ⟨b, off, none⟩) n c) (hj : a.eval i = .int .i64 j) (h0 : 0 ≤ j ∧ j < n) :
    (execOp a.eval o).run P w = .ok (.value (.pointer (some ⟨b, off + j.toNat * sz, none⟩))) w := by
  have h1 := hi.size w
  rw [hsz] at h1
  simp [execOp, ho, Instr.indexAt, he, hj, asIntOf, run_underlying hu, h0, h1, addr_add]
theorem seg_cells {us : List Value} {b off i sz : Nat} (h : CellsAt w b off us) : CellsAt w b (off + i * sz) (seg us i sz) := by
  intro j u hu
  unfold seg at hu
  rw [List.getElem?_take] at hu
  by_cases hj : j < sz
  · rw [if_pos hj, List.getElem?_drop] at hu
    have := h _ u hu
    rw [Nat.add_assoc]; exact this
  · rw [if_neg hj] at hu; cases hu
theorem seg_mem {us : List Value} {i sz : Nat} {u : Value} (h : u ∈ seg us i sz) : u ∈ us := List.mem_of_mem_drop (List.mem_of_mem_take h)
/-- an element of a list that does not change -/
theorem pp_of_list {own : Nat → Prop} {sz n : Nat} {f : Nat → Av} {v : Value} (h : Rob own w (.list sz n f) [v]) {j : Nat} (hj : j < n) : ∃ b off c, v = .slice (some ⟨b, off, none⟩) n c ∧ Rob own w (.pp (f j)) [.pointer (some ⟨b, off + j * sz, none⟩)] := by
  obtain ⟨A, c, e, hc, hh⟩ := h.lst
  obtain ⟨b, off, us, rfl, hb, hl, hno, hcs, h1, hr⟩ := hh (by omega)
  simp at e
  refine ⟨b, off, c, e, fun w' hg => ⟨b, off + j * sz, seg us j sz, rfl, Nat.lt_of_lt_of_le hb hg.size, ?_, fun u hu => h1 u (seg_mem hu), hr j hj w' hg⟩⟩
  by_cases hz : us = []
  · subst hz; intro i u hu; simp [seg] at hu
  · exact seg_cells (hcs.agree hg hb (hno hz))
/-- the limbs of a canonical number are a list -/
theorem natC_list {m K : Nat} {vs : List Value} (h : Hold w (.natC m K) vs) : Hold w (.list 1 (limbs m).length (limbAv m)) vs := by
  obtain ⟨A, c, rfl, hl, _⟩ := h
  refine ⟨A, c, rfl, ⟨hl.cap, hl.max⟩, fun h0 => ?_⟩
  obtain ⟨b, off, rfl, hb, hc⟩ := hl.cells h0
  refine ⟨b, off, (limbs m).map (fun x => Value.int .u32 ((x : Nat) : Int)), rfl, hb, by simp, fun j u hu => ?_, fun u hu => ?_, fun i hi => ?_⟩
  · rw [List.getElem?_map] at hu
    cases hj : (limbs m)[j]? with
    | none => rw [hj] at hu; cases hu
    | some x =>
      rw [hj] at hu
      simp at hu
      have hlt : j < (limbs m).length := by
        rcases Nat.lt_or_ge j (limbs m).length with h | h
        · exact h
        · rw [List.getElem?_eq_none_iff.2 h] at hj; cases hj
      rw [hc j hlt, hj, ← hu]; rfl
  · obtain ⟨x, _, rfl⟩ := List.mem_map.1 hu; rfl
  · have e : seg ((limbs m).map (fun x => Value.int .u32 ((x : Nat) : Int))) i 1 = [Value.int .u32 (((limbs m)[i]?.getD 0 : Nat) : Int)] := by
      unfold seg
      rw [Nat.mul_one, List.drop_eq_getElem_cons (by simpa using hi)]
      simp [hi]
    rw [e]
    exact ⟨[_], [], rfl, rfl, rfl⟩
theorem index_ok (hC : CtxOk P C) (h : Con own0 ext w0 s E a w) {T : Nat} {x i : Operand} {out : OutG} (ho : o.op = .indexAddr T x i) (he : (aop C d (.indexAddr T x i)).eval s = some out) : OutOk P own0 ext w0 s a w o out := by
  simp only [aop] at he
  cases hl : elemTI C T with
  | none => rw [hl] at he; cases he
  | some p =>
    obtain ⟨et, ei⟩ := p
    rw [hl] at he
    obtain ⟨hu, hti⟩ := elemTI_ok hC hl
    obtain ⟨i1, sz, i3, i4, i5, i6, i7⟩ := ei
    simp only at he
    obtain ⟨vi, hvi, he⟩ := rd_eval s i _ he
    have ki := opAv_ok h hvi
    cases vi with
    | val ui =>
      cases ui with
      | int k j =>
        cases k with
        | i64 =>
          simp only at he
          have ej := val_of ki
          obtain ⟨v, hv, he⟩ := rd_eval s x _ he
          have kx := opAv_ok h hv
          cases v with
          | list sz' n f =>
            simp only [indexAv] at he
            cases hb : Nat.beq sz sz' with
            | false => rw [hb] at he; cases he
            | true =>
              rw [hb] at he
              have := Nat.beq_ok hb
              subst this
              by_cases hp : 0 ≤ j ∧ j < n
              · obtain ⟨b, off, c, e, hr⟩ := pp_of_list (j := j.toNat) kx (by omega)
                exact oneIf_ok h he fun _ => ⟨index_run ho hu hti rfl e ej hp, hr⟩
              · exact oneIf_ok h he (x := undef) fun hq => absurd hq hp
          | natC m K =>
            simp only [indexAv] at he
            cases hb : Nat.beq sz 1 with
            | false => rw [hb] at he; cases he
            | true =>
              rw [hb] at he
              have he2 := he
              have e1 := Nat.beq_ok hb
              clear hb
              subst e1
              have kx' : Rob (ownS own0 s E) w (.list 1 (limbs m).length (limbAv m)) [a.eval x] := fun w' hg => natC_list (kx w' hg)
              by_cases hp : 0 ≤ j ∧ j < (limbs m).length
              · obtain ⟨b, off, c, e, hr⟩ := pp_of_list (j := j.toNat) kx' (by omega)
                exact oneIf_ok h he2 fun _ => ⟨index_run ho hu hti rfl e ej hp, hr⟩
              · exact oneIf_ok h he2 (x := undef) fun hq => absurd hq hp
          | row k =>
            simp only [indexAv, Rd.eval] at he
            have ex : a.eval x = E.σ k := by simpa using kx.1
            cases hk : s.obj k with
            | row T' sz' n f =>
              rw [hk] at he
              simp only at he
              cases hb : Nat.beq sz sz' with
              | false => rw [hb] at he; cases he
              | true =>
                rw [hb] at he
                have := Nat.beq_ok hb
                subst this
                cases hz : Nat.beq sz 0 with
                | true => rw [hz] at he; cases he
                | false =>
                rw [hz] at he
                by_cases hp : 0 ≤ j ∧ j < n
                · have hko := h.objs k
                  rw [hk] at hko
                  obtain ⟨xs, ⟨_, h1 | ⟨g, cap, cur, h1, _⟩⟩, _⟩ := hko
                  · omega
                  · refine oneIf_ok h he fun _ => ⟨index_run ho hu hti rfl (ex.trans h1) ej hp, ?_⟩
                    exact Ok.rp_mk hz ⟨g, n, cap, h1, by simp⟩
                · exact oneIf_ok h he (x := undef) fun hq => absurd hq hp
            | froz sz' n f =>
              rw [hk] at he
              simp only at he
              cases hb : Nat.beq sz sz' with
              | false => rw [hb] at he; cases he
              | true =>
                rw [hb] at he
                have := Nat.beq_ok hb
                subst this
                by_cases hp : 0 ≤ j ∧ j < n
                · have hko := h.objs k
                  rw [hk] at hko
                  obtain ⟨b, off, c, e, hr⟩ := pp_of_list (j := j.toNat) hko (by omega)
                  exact oneIf_ok h he fun _ => ⟨index_run ho hu hti rfl (ex.trans e) ej hp, hr⟩
                · exact oneIf_ok h he (x := undef) fun hq => absurd hq hp
            | none => rw [hk] at he; cases he
            | var => rw [hk] at he; cases he
          | _ => cases he
        | _ => cases he
      | _ => cases he
    | _ => cases he
theorem fieldsOk_at : ∀ {l : List (Nat × Nat)} {fs : List Field} {i off n : Nat}, fieldsOk P l fs → l[i]? = some (off, n) → ∃ f inf, fs[i]? = some f ∧ f.offset = off ∧ P.info? f.type = some inf ∧ inf.size = n ∧ n ≠ 0 ∧ ∃ d, P.underlying f.type = some d ∧ aggD d = Nat.blt 1 n := by
  intro l
  induction l with
  | nil => intro fs i off n _ h; simp at h
  | cons p l ih =>
    obtain ⟨o, m⟩ := p
    intro fs i off n h hi
    cases fs with
    | nil => exact h.elim
    | cons f fs =>
      obtain ⟨h1, ⟨inf, h2, h3, h6⟩, h4, h5⟩ := h
      cases i with
      | zero => simp at hi; obtain ⟨rfl, rfl⟩ := hi; exact ⟨f, inf, rfl, h1, h2, h3, h4, h6⟩
      | succ i =>
        obtain ⟨f', inf', g1, g2⟩ := ih h5 (by simpa using hi)
        exact ⟨f', inf', by simpa using g1, g2⟩
theorem TIok.struct {T : Nat} {i : TI} {j off n : Nat} (h : TIok P T i) (hj : i.fields[j]? = some (off, n)) : ∃ fs f, P.underlying T = some (.struct fs) ∧ fs[j]? = some f ∧ f.offset = off ∧ ∀ w, (sizeOf f.type).run P w = .ok n w ∧ n ≠ 0 ∧ (Go.isAgg f.type).run P w = .ok (Nat.blt 1 n) w := by
  obtain ⟨dd, hd, hk⟩ := h.dsc
  cases dd with
  | struct fs =>
    simp only [dOk] at hk
    obtain ⟨f, inf, h1, h2, h3, h4, h5, d', h6, h7⟩ := fieldsOk_at hk.2.2.2.2 hj
    refine ⟨fs, f, hd, by simpa using h1, h2, fun w => ⟨by simp [sizeOf, typeInfo, h3, h4], h5, ?_⟩⟩
    rw [← h7]
    cases d' <;> simp [Go.isAgg, run_underlying h6, aggD]
  | slice => simp only [dOk] at hk; rw [hk.2.2.2.2.2] at hj; simp at hj
  | int => simp only [dOk] at hk; rw [hk.2.2.2.2.2] at hj; simp at hj
  | bool => simp only [dOk] at hk; rw [hk.2.2.2.2] at hj; simp at hj
  | pointer => simp only [dOk] at hk; rw [hk.2.2.2.2.2] at hj; simp at hj
  | _ => exact hk.elim
theorem field_run {T i off n b bo : Nat} {x : Operand} {ti : TI} (ho : o.op = .fieldAddr T x i) (hi : TIok P T ti) (hf : ti.fields[i]? = some (off, n)) (he : a.eval x = .pointer (some ⟨b, bo, none⟩)) : (execOp a.eval o).run P w = .ok (.value (.pointer (some ⟨b, bo + off, none⟩))) w := by
  obtain ⟨fs, f, h1, h2, h3, h4⟩ := hi.struct hf
  have h5 := h4 w
  simp [execOp, ho, Instr.fieldAt, run_underlying h1, h2, he, Instr.sureAddr, fieldPlace, h5.1, h5.2.1, addr_add, h3]
theorem fieldAddr_ok (hC : CtxOk P C) (h : Con own0 ext w0 s E a w) {T i : Nat} {x : Operand} {out : OutG} (ho : o.op = .fieldAddr T x i) (he : (aop C d (.fieldAddr T x i)).eval s = some out) : OutOk P own0 ext w0 s a w o out := by
  simp only [aop] at he
  cases hl : look C.tt T with
  | none => rw [hl] at he; cases he
  | some ti =>
    have hti := hC.tt _ _ (look_mem hl)
    rw [hl] at he
    obtain ⟨i1, i2, i3, fs, i5, i6, i7⟩ := ti
    simp only at he
    rw [nth_eq] at he
    cases hf : fs[i]? with
    | none => rw [hf] at he; cases he
    | some p =>
      obtain ⟨off, n⟩ := p
      rw [hf] at he
      simp only at he
      obtain ⟨v, hv, he⟩ := rd_eval s x _ he
      have k := opAv_ok h hv
      cases v with
      | pp cs =>
        simp only at he
        obtain ⟨b, bo, us, e, hb, hcs, h1, hr⟩ := Rob.pp k
        simp at e
        cases hs : Av.split none 64 off cs (fun _ y => some y) with
        | none => rw [hs] at he; cases he
        | some y =>
          rw [hs] at he
          obtain ⟨p, q, hsp, hq⟩ := split_ok (fun r => r = some y) (by simp) _ _ _ _ hs
          simp at hq
          subst hq
          refine one_ok h he (field_run ho hti hf e) ?_
          obtain ⟨u1, u2, e2, hl2, _, hy⟩ := hsp.ok E _ w us (Rob.ok hr)
          subst e2
          have hyr := Ok.rob (hsp.pers hr.here.pers).2 hy
          intro w' hg
          obtain ⟨b', bo', us', e', hb', hc', h1', hh'⟩ := k w' hg
          rw [e] at e'
          simp at e'
          obtain ⟨rfl, rfl⟩ := e'
          have hl3 : us'.length = (u1 ++ u2).length := by rw [hh'.len, ← (hr.here).len]
          refine ⟨b, bo + off, us'.drop off, rfl, hb', fun j u hu => ?_, fun u hu => h1' u (List.mem_of_mem_drop hu), ?_⟩
          · rw [List.getElem?_drop] at hu
            rw [Nat.add_assoc]; exact hc' _ u hu
          · -- the cells are those that were there
            by_cases hz : u1 ++ u2 = []
            · have h0 : us' = [] := List.length_eq_zero_iff.1 (by rw [hl3, hz]; rfl)
              have h2 : u2 = [] := (List.append_eq_nil_iff.1 hz).2
              rw [h0, List.drop_nil, ← h2]; exact hyr w' hg
            · have hno : ¬ ownS own0 s E b := by
                intro hown
                obtain ⟨b2, bo2, us2, e2, _, hc2, _, hh2⟩ := k _ (spoil_agree (b := b) hown)
                rw [e] at e2
                simp at e2
                obtain ⟨rfl, rfl⟩ := e2
                have hl4 : us2.length = (u1 ++ u2).length := by rw [hh2.len, ← (hr.here).len]
                cases us2 with
                | nil => exact hz (List.length_eq_zero_iff.1 hl4.symm)
                | cons u us2 =>
                  have := hc2 0 u rfl
                  rw [spoil_cell hb] at this; cases this
              have e3 := cellsAt_unique (hcs.agree hg hb hno) hc' hl3.symm
              rw [← e3, List.drop_left' hl2]; exact hyr w' hg
      | ptr kk oo =>
        simp only [Ok] at k
        simp at k
        exact one_ok h he (field_run ho hti hf k) (by simp [Ok])
      | rptr kk ss jj oo =>
        simp only at he
        cases hz : Nat.beq ss 0 with
        | true => rw [hz] at he; cases he
        | false =>
          rw [hz] at he
          obtain ⟨g, n', c, e1, e2⟩ := k.rp hz
          simp at e2
          exact one_ok h he (field_run ho hti hf e2) (Ok.rp_mk hz ⟨g, n', c, e1, by simp [Nat.add_assoc]⟩)
      | _ => cases he
theorem nilCheck_ok (h : Con own0 ext w0 s E a w) {x : Operand} {out : OutG} (ho : o.op = .nilCheck x) (he : (aop C d (.nilCheck x)).eval s = some out) : OutOk P own0 ext w0 s a w o out := by
  simp only [aop] at he
  obtain ⟨v, hv, he⟩ := rd_eval s x _ he
  have k := opAv_ok h hv
  cases v with
  | ptr kk oo =>
    have k' := k
    simp only [Ok] at k'
    simp at k'
    refine one_ok h he (x := a.eval x) ?_ k
    simp [execOp, ho, k']
  | _ => cases he
end

section
variable {P : Program} {own0 ext : Nat → Prop} {w0 w : World} {s : St} {E : Env} {a : Act} {o : Oper} {C : Ctx} {d : Nat}
theorem load_run {T b off : Nat} {x : Operand} {ti : TI} {us : List Value} (ho : o.op = .load T x) (hi : TIok P T ti) (he : a.eval x = .pointer (some ⟨b, off, none⟩)) (hl : us.length = ti.size) (hc : CellsAt w b off us) :
    (execOp a.eval o).run P w = .ok (.value (if ti.agg then .agg us.toArray else us.getD 0 undef)) w := by
  cases ha : ti.agg with
  | true =>
    have h1 := run_loadCells_list (P := P) w ⟨b, off, none⟩ us (fun j v hv => by rw [addr_add]; exact hc j v hv)
    have h2 := hi.isAgg w
    have h3 := hi.size w
    rw [hl] at h1
    simp [execOp, ho, Instr.loadAt, he, Instr.sureAddr, loadVar, h2, h3, ha, h1]
  | false =>
    have h2 := hi.isAgg w
    rw [hi.one ha] at hl
    obtain ⟨u, rfl⟩ := List.length_eq_one_iff.1 hl
    have h1 : w.cell? ⟨b, off, none⟩ = some u := hc 0 u rfl
    simp [execOp, ho, Instr.loadAt, he, Instr.sureAddr, loadVar, h2, ha, Go.load, Sem.run, h1]
theorem valOf_ok (h : Con own0 ext w0 s E a w) {T : Nat} {ti : TI} {x : Av} {us : List Value} {out : OutG} {vc : Option Prop} (_hi : TIok P T ti) (he : (valOf vc ti.agg x).eval s = some out)
    (hr : vcT vc → (execOp a.eval o).run P w = .ok (.value (if ti.agg then .agg us.toArray else us.getD 0 undef)) w ∧ Ok E (ownS own0 s E) w x us ∧ us.length = ti.size) : OutOk P own0 ext w0 s a w o out := by
  unfold valOf at he
  cases ha : ti.agg with
  | true =>
    rw [ha] at he
    simp only [Rd.eval, Option.some.injEq] at he
    subst he
    intro hv _
    obtain ⟨h1, h2, _⟩ := hr hv
    rw [ha] at h1
    exact Res.val h h1 ⟨us, rfl, h2⟩
  | false =>
    rw [ha] at he
    cases x with
    | cons b l =>
      cases l with
      | nil =>
        simp only [Rd.eval, Option.some.injEq] at he
        subst he
        intro hv _
        obtain ⟨h1, h2, h3⟩ := hr hv
        rw [ha] at h1
        rw [_hi.one ha] at h3
        obtain ⟨u, rfl⟩ := List.length_eq_one_iff.1 h3
        obtain ⟨p, q, e, hp, hq⟩ := h2
        cases hq
        rw [List.append_nil] at e
        exact Res.val h (x := u) (by simpa using h1) (by rw [e]; exact hp)
      | _ => cases he
    | _ => cases he
theorem CellsAt.part {b off : Nat} {p q r : List Value} (h : CellsAt w b off (p ++ (q ++ r))) : CellsAt w b (off + p.length) q := by
  intro j u hu
  have := h (p.length + j) u (by
    have hj : j < q.length := by
      rcases Nat.lt_or_ge j q.length with h | h
      · exact h
      · rw [List.getElem?_eq_none_iff.2 h] at hu; cases hu
    rw [List.getElem?_append_right (by omega), Nat.add_sub_cancel_left, List.getElem?_append_left hj]; exact hu)
  rw [Nat.add_assoc]; exact this
theorem cellsAt_block {b T : Nat} {us : List Value} {fr : Nat × Nat} (h : w.heap[b]? = some (.cells us.toArray T fr)) : CellsAt w b 0 us := by
  intro j u hu
  simp [World.cell?, h, hu]
theorem load_ok (hC : CtxOk P C) (h : Con own0 ext w0 s E a w) {T : Nat} {x : Operand} {out : OutG} (ho : o.op = .load T x) (he : (aop C d (.load T x)).eval s = some out) : OutOk P own0 ext w0 s a w o out := by
  simp only [aop] at he
  cases hl : look C.tt T with
  | none => rw [hl] at he; cases he
  | some ti =>
    have hti := hC.tt _ _ (look_mem hl)
    rw [hl] at he
    obtain ⟨ag, sz, i3, i4, i5, i6, i7⟩ := ti
    simp only at he
    obtain ⟨v, hv, he⟩ := rd_eval s x _ he
    have k := opAv_ok h hv
    cases v with
    | pp cs =>
      simp only [loadAv] at he
      cases hm : Av.mid none 0 sz cs some with
      | none => rw [hm] at he; cases he
      | some y =>
        rw [hm] at he
        obtain ⟨p, q, r, h1, h2⟩ := mid_ok hm
        obtain ⟨b, bo, us, e, hb, hcs, _, hr⟩ := Rob.pp k
        simp at e
        obtain ⟨u1, u2, e1, l1, _, hq⟩ := h1.ok E _ w us (Rob.ok hr)
        obtain ⟨u3, u4, e2, l2, hy, _⟩ := h2.ok E _ w u2 hq
        subst e1; subst e2
        have hc2 := hcs.part
        rw [l1, Nat.add_zero] at hc2
        exact valOf_ok h hti he fun _ => ⟨load_run ho hti e l2 hc2, hy, l2⟩
    | ptr kk off =>
      simp only [loadAv, Rd.eval] at he
      simp only [Ok] at k
      simp at k
      cases hk : s.obj kk with
      | var cs =>
        rw [hk] at he
        simp only at he
        cases hm : Av.mid none off sz cs some with
        | none => rw [hm] at he; cases he
        | some y =>
          rw [hm] at he
          obtain ⟨p, q, r, h1, h2⟩ := mid_ok hm
          have hko := h.objs kk
          rw [hk] at hko
          obtain ⟨us, T', hh, hcs⟩ := hko
          obtain ⟨u1, u2, e1, l1, _, hq⟩ := h1.ok E _ w us hcs
          obtain ⟨u3, u4, e2, l2, hy, _⟩ := h2.ok E _ w u2 hq
          subst e1; subst e2
          have hc2 := (cellsAt_block hh).part
          rw [l1, Nat.zero_add] at hc2
          exact valOf_ok h hti he fun _ => ⟨load_run ho hti k l2 hc2, hy, l2⟩
      | none => rw [hk] at he; cases he
      | row => rw [hk] at he; cases he
      | froz => rw [hk] at he; cases he
    | rptr kk ss j off =>
      simp only [loadAv] at he
      cases hz0 : Nat.beq ss 0 with
      | true => rw [hz0] at he; cases he
      | false =>
      rw [hz0] at he
      simp only [Rd.eval] at he
      obtain ⟨g, n', c, e1, e2⟩ := k.rp hz0
      simp at e2
      cases hk : s.obj kk with
      | row T' ss' n f =>
        rw [hk] at he
        simp only at he
        cases hb : Nat.beq ss ss' with
        | false => rw [hb] at he; cases he
        | true =>
          rw [hb] at he
          have := Nat.beq_ok hb
          subst this
          simp only at he
          have core : ∀ (y : Av) (out : OutG), Av.mid none off sz (f j) some = some y → (valOf (some (j < n)) ag y).eval s = some out → OutOk P own0 ext w0 s a w o out := by
            intro y out hm he
            obtain ⟨p, q, r, h1, h2⟩ := mid_ok hm
            have hko := h.objs kk
            rw [hk] at hko
            obtain ⟨xs, ⟨hxl, hx⟩, _, hxr⟩ := hko
            by_cases hj : j < n
            · rcases hx with ⟨hx, h0⟩ | ⟨g', cap, cur, hx, _, hh, hnc, _, _, htk⟩
              · omega
              · rw [e1] at hx
                simp at hx
                obtain ⟨rfl, rfl, rfl⟩ := hx
                have hc := cellsAt_take (m := n' * ss) hh
                rw [htk] at hc
                have hsg := seg_cells (i := j) (sz := ss) hc
                obtain ⟨u1, u2, e3, l1, _, hq⟩ := h1.ok E _ w _ (Rob.ok (hxr j hj))
                obtain ⟨u3, u4, e4, l2, hy, _⟩ := h2.ok E _ w u2 hq
                rw [e3, e4] at hsg
                have hc2 := hsg.part
                rw [l1, Nat.zero_add] at hc2
                exact valOf_ok h hti he fun _ => ⟨load_run ho hti e2 l2 hc2, hy, l2⟩
            · exact valOf_ok (us := []) h hti he fun hv => absurd hv hj
          cases hz : Nat.beq sz ss with
          | true =>
            rw [hz] at he
            simp only at he
            cases hm : Av.mid none off sz (f j) some with
            | none => rw [hm] at he; cases he
            | some y => rw [hm] at he; exact core y out hm he
          | false =>
            rw [hz] at he
            simp only [Rd.eval, Option.some.injEq] at he
            subst he
            rintro c ⟨hc, hj, hok⟩
            subst hc
            cases hm : Av.mid none off sz (f j) some with
            | none => rw [hm] at hok; cases ag <;> cases hok
            | some y =>
              rw [hm] at hok
              show Res P own0 ext w0 s a w o (valR ag (Av.mid none off sz (f j) some)) []
              rw [hm]
              cases ag with
              | true => exact core y (.mk ⟨.agg y, [], false, some (j < n)⟩) hm rfl hj (fun h => by cases h)
              | false =>
                cases y with
                | cons b l =>
                  cases l with
                  | nil => exact core (.cons b .nil) (.mk ⟨b, [], false, some (j < n)⟩) hm rfl hj (fun h => by cases h)
                  | _ => cases hok
                | _ => cases hok
      | none => rw [hk] at he; cases he
      | var => rw [hk] at he; cases he
      | froz => rw [hk] at he; cases he
    | _ => cases he
theorem field_ok (hC : CtxOk P C) (h : Con own0 ext w0 s E a w) {T i : Nat} {x : Operand} {out : OutG} (ho : o.op = .field T x i) (he : (aop C d (.field T x i)).eval s = some out) : OutOk P own0 ext w0 s a w o out := by
  simp only [aop] at he
  cases hl : look C.tt T with
  | none => rw [hl] at he; cases he
  | some ti =>
    have hti := hC.tt _ _ (look_mem hl)
    rw [hl] at he
    obtain ⟨i1, i2, i3, fs, i5, i6, i7⟩ := ti
    simp only at he
    rw [nth_eq] at he
    cases hf : fs[i]? with
    | none => rw [hf] at he; cases he
    | some p =>
      obtain ⟨off, sz⟩ := p
      rw [hf] at he
      simp only at he
      obtain ⟨v, hv, he⟩ := rd_eval s x _ he
      have k := opAv_ok h hv
      cases v with
      | agg cs =>
        obtain ⟨us, e, hus⟩ := k
        simp at e
        simp only at he
        cases hm : Av.mid none off sz cs some with
        | none => rw [hm] at he; cases he
        | some y =>
          rw [hm] at he
          obtain ⟨p, q, r, h1, h2⟩ := mid_ok hm
          obtain ⟨u1, u2, e1, l1, _, hq⟩ := h1.ok E _ w us hus
          obtain ⟨u3, u4, e2, l2, hy, _⟩ := h2.ok E _ w u2 hq
          obtain ⟨ff, f, g1, g2, g3, g4⟩ := hti.struct hf
          obtain ⟨g4, g5, g6⟩ := g4 w
          subst e1; subst e2
          unfold valOf at he
          cases hb : Nat.blt 1 sz with
          | true =>
            rw [hb] at he g6
            simp only [Rd.eval, Option.some.injEq] at he
            subst he
            intro _ _
            refine Res.val h (x := .agg u3.toArray) ?_ ⟨u3, rfl, hy⟩
            have he3 : List.take sz (List.drop off (u1 ++ (u3 ++ u4))) = u3 := by
              rw [List.drop_left' l1, List.take_left' l2]
            simp [execOp, ho, Instr.field, run_underlying g1, g2, e, asAgg, part, g6, g4, g3]
            exact he3
          | false =>
            rw [hb] at he g6
            cases y with
            | cons b l =>
              cases l with
              | nil =>
                simp only [Rd.eval, Option.some.injEq] at he
                subst he
                intro _ _
                have hsz : sz = 1 := by
                  have : ¬ 1 < sz := by
                    intro hlt
                    have h5 : Nat.blt 1 sz = true := Nat.ble_eq_true_of_le hlt
                    rw [h5] at hb; cases hb
                  omega
                rw [hsz] at l2
                obtain ⟨u, rfl⟩ := List.length_eq_one_iff.1 l2
                obtain ⟨x1, x2, e4, hx1, hx2⟩ := hy
                simp only [Ok] at hx2
                subst hx2
                rw [List.append_nil] at e4
                subst e4
                refine Res.val h (x := u) ?_ hx1
                have hget : (u1 ++ ([u] ++ u4))[off]? = some u := by
                  rw [List.getElem?_append_right (by omega), l1, Nat.sub_self]; rfl
                simp [execOp, ho, Instr.field, run_underlying g1, g2, e, asAgg, part, g6, g3]
                have hg2 : (u1 ++ u :: u4)[off]? = some u := hget
                simp [hg2]
              | _ => cases he
            | _ => cases he
      | _ => cases he
theorem flat_one {own : Nat → Prop} : ∀ (v : Av) (us : List Value), v.flat = true → Ok E own w v us → ∀ u ∈ us, u.oneCell' = true := by
  intro v
  induction v with
  | cons b l ihb ihl =>
    rintro us hf ⟨p, q, rfl, hp, hq⟩ u hu
    rw [flat_cons, Bool.and_eq_true] at hf
    rcases List.mem_append.1 hu with hu | hu
    · exact ihb p hf.1 hp u hu
    · exact ihl q hf.2 hq u hu
  | any => intro us hf; cases hf
  | agg => intro us hf; cases hf
  | tup => intro us hf; cases hf
  | nil => intro us hf h u hu; simp only [Ok] at h; subst h; cases hu
  | ptr => intro us hf h u hu; simp only [Ok] at h; subst h; simp at hu; subst hu; rfl
  | rptr k sz j o =>
    intro us hf h u hu
    cases hz : Nat.beq sz 0 with
    | true => obtain ⟨_, _, _, _, rfl⟩ := h.rp0 hz; simp at hu; subst hu; rfl
    | false => obtain ⟨_, _, _, _, rfl⟩ := h.rp hz; simp at hu; subst hu; rfl
  | row k => rintro us hf ⟨rfl, h⟩ u hu; simp at hu; subst hu; exact h
  | kb b => intro us hf h u hu; have := Rob.here h; simp only [Hold] at this; subst this; simp at hu; subst hu; rfl
  | val v =>
    intro us hf h u hu
    have := Rob.here h
    simp only [Hold] at this
    subst this
    simp at hu
    subst hu
    cases u <;> first | rfl | cases hf
  | nat => intro us hf h u hu; obtain ⟨A, xs, c, rfl, _⟩ := Rob.here h; simp at hu; subst hu; rfl
  | natC => intro us hf h u hu; obtain ⟨A, c, rfl, _⟩ := Rob.here h; simp at hu; subst hu; rfl
  | int =>
    intro us hf h u hu
    obtain ⟨b, t, rfl, p, A, xs, c, rfl, rfl, _⟩ := Rob.here h
    simp at hu
    rcases hu with rfl | rfl <;> rfl
  | intC => intro us hf h u hu; obtain ⟨A, c, rfl, _⟩ := Rob.here h; simp at hu; rcases hu with rfl | rfl <;> rfl
  | rat =>
    intro us hf h u hu
    obtain ⟨b, t, r, rfl, p, A, xs, c, B, ys, dd, rfl, rfl, rfl, _⟩ := Rob.here h
    simp at hu
    rcases hu with rfl | rfl | rfl <;> rfl
  | ratC => intro us hf h u hu; obtain ⟨A, c, B, dd, rfl, _⟩ := Rob.here h; simp at hu; rcases hu with rfl | rfl | rfl <;> rfl
  | list => intro us hf h u hu; obtain ⟨A, c, rfl, _⟩ := Rob.here h; simp at hu; subst hu; rfl
  | pp => intro us hf h u hu; obtain ⟨b, off, vs, rfl, _⟩ := Rob.here h; simp at hu; subst hu; rfl
theorem oneCell_cells {x : Value} (h : x.oneCell' = true) : x.cells = #[x] := by cases x <;> first | rfl | cases h
/-- a value and its cells -/
theorem cells_of {own : Nat → Prop} {v : Av} {x : Value} (h : Ok E own w v [x]) (hf : (cellsV v).flat = true) : Ok E own w (cellsV v) x.cells.toList ∧ ∀ u ∈ x.cells.toList, u.oneCell' = true := by
  have key : ∀ {v : Av}, cellsV v = .cons v .nil → Ok E own w v [x] → (cellsV v).flat = true → Ok E own w (cellsV v) x.cells.toList ∧ ∀ u ∈ x.cells.toList, u.oneCell' = true := by
    intro v e h hf
    rw [e] at hf ⊢
    rw [flat_cons, Bool.and_eq_true] at hf
    have h1 := flat_one v [x] hf.1 h x (by simp)
    rw [oneCell_cells h1]
    exact ⟨⟨[x], [], rfl, h, rfl⟩, fun u hu => by simp at hu; subst hu; exact h1⟩
  cases v with
  | agg cs =>
    obtain ⟨us, e, hu⟩ := h
    simp at e
    subst e
    exact ⟨hu, flat_one cs us hf hu⟩
  | _ => exact key rfl h hf
end

section
variable {P : Program} {own0 ext : Nat → Prop} {w0 w : World} {s : St} {E : Env} {a : Act} {o : Oper} {C : Ctx}
theorem zero_ok (own : Nat → Prop) : ∀ (l : List Value), Ok E own w (zeroAv l) l ∧ ∀ i, (zeroAv l).names i = false := by
  intro l
  induction l with
  | nil => exact ⟨rfl, fun _ => rfl⟩
  | cons v l ih =>
    cases v with
    | bool b => exact ⟨⟨[_], l, rfl, fun _ _ => rfl, ih.1⟩, fun i => ih.2 i⟩
    | _ => exact ⟨⟨[_], l, rfl, fun _ _ => rfl, ih.1⟩, fun i => ih.2 i⟩
theorem Res.new {v : Av} {u : List (Nat × Ob)} (h : ∃ E' w', (∃ x, (execOp a.eval o).run P w = .ok (.value x) w' ∧ Con own0 ext w0 (s.after' o.dst v u) E' (a.put o.dst x) w')) : Res P own0 ext w0 s a w o v u := by
  obtain ⟨E', w', x, hr, hc⟩ := h
  intro K Q hK
  unfold Oper.wp
  rw [hr]
  exact hK E' _ _ hc
theorem alloc_ok (hC : CtxOk P C) (h : Con own0 ext w0 s E a w) {T : Nat} {out : OutG} (ho : o.op = .alloc T) (he : (aop C (dstN o.dst) (.alloc T)).eval s = some out) : OutOk P own0 ext w0 s a w o out := by
  simp only [aop] at he
  cases hl : look C.tt T with
  | none => rw [hl] at he; cases he
  | some ti =>
    have hti := hC.tt _ _ (look_mem hl)
    rw [hl] at he
    obtain ⟨i1, i2, z, i4, i5, i6, i7⟩ := ti
    simp only [zerosK_eq, Rd.eval, Option.some.injEq] at he
    subst he
    intro _ hn
    obtain ⟨d, hd, hf, hlt, hz0⟩ := hn rfl
    rw [ho] at hf
    obtain ⟨f, zv, h1, h2, h3, h4, h5, _⟩ := hti.inf
    have hz := zero_ok (E := E) (w := w) (ownS own0 s E) z
    obtain ⟨E', hc⟩ := h.newVar hf hlt hz0 T hz.1 (hz.2 d)
    refine Res.new ⟨E', _, _, ?_, by rw [hd]; exact hc⟩
    have e : zv.cells = z.toArray := by simp only at h5; rw [← h5]
    simp [execOp, ho, Instr.alloc, zeroValue, typeInfo, h1, h4, newVar, newRow, newObj, Sem.run, e]
theorem opAv_names {x : Operand} {v : Av} {d : Nat} (hf : s.Free d) (h : opAv s x = some v) : v.names d = false := by
  cases x with
  | tmp t => simp only [opAv, Option.some.injEq] at h; subst h; exact hf.1 t
  | const u => cases u <;> simp only [opAv, Option.some.injEq] at h <;> first | (subst h; rfl) | cases h
  | global => cases h
  | func => cases h
theorem cellsV_names {v : Av} {d : Nat} (h : v.names d = false) : (cellsV v).names d = false := by
  cases v <;> first | exact h | (simp only [cellsV, Av.names, Bool.or_false]; exact h)
theorem box_ok (h : Con own0 ext w0 s E a w) {T : Nat} {x : Operand} {out : OutG} (ho : o.op = .box T x) (he : (aop C (dstN o.dst) (.box T x)).eval s = some out) : OutOk P own0 ext w0 s a w o out := by
  simp only [aop] at he
  cases hl : look C.tt T with
  | none => rw [hl] at he; cases he
  | some ti =>
    rw [hl] at he
    simp only at he
    obtain ⟨v, hv, he⟩ := rd_eval s x _ he
    rw [cellsK_eq] at he
    have k := opAv_ok h hv
    cases hfl : (cellsV v).flat with
    | false => rw [hfl] at he; cases he
    | true =>
      rw [hfl] at he
      simp only [Rd.eval, Option.some.injEq] at he
      subst he
      intro _ hn
      obtain ⟨d, hd, hf0, hlt, hz0⟩ := hn rfl
      have hf := hf0.strict (by rw [ho]; rfl)
      have hc := cells_of k hfl
      obtain ⟨E', hc'⟩ := h.newVar (hf.o true) hlt hz0 T hc.1 (cellsV_names (opAv_names hf hv))
      refine Res.new ⟨E', _, _, ?_, by rw [hd]; exact hc'⟩
      simp [execOp, ho, Instr.box, newVar, newRow, newObj, Sem.run]
theorem store_run {T g off : Nat} {T' : Nat} {x y : Operand} {ti : TI} {cur : List Value} (ho : o.op = .store T x y) (hi : TIok P T ti) (he : a.eval x = .pointer (some ⟨g, off, none⟩)) (hl : (a.eval y).cells.toList.length = ti.size) (hg : w.heap[g]? = some (.cells cur.toArray T' (0, 0))) (hfit : off + ti.size ≤ cur.length) (h1 : ∀ u ∈ (a.eval y).cells.toList, u.oneCell' = true) :
    (execOp a.eval o).run P w = .ok .skip (w.setRow g (cur.take off ++ (a.eval y).cells.toList ++ cur.drop (off + ti.size)).toArray) := by
  have h2 := hi.size w
  have h3 := run_storeCells_at P g off T' (a.eval y).cells.toList 0 cur.toArray w hg (by rw [hl]; simpa using hfit) h1
  rw [hl] at h3
  simp only [Array.length_toList] at hl
  simp only [Nat.add_zero] at h3
  simp [execOp, ho, Instr.storeAt, he, Instr.sureAddr, storeVar, h2, hl, h3]
theorem Res.store {w' : World} {E' : Env} {u : List (Nat × Ob)} (hr : (execOp a.eval o).run P w = .ok .skip w') (hc : Con own0 ext w0 (s.puts' u) E' a w') : Res P own0 ext w0 s a w o .any u := by
  intro K Q hK
  unfold Oper.wp
  rw [hr]
  refine hK E' _ _ ?_
  rw [after_put]
  exact hc.put o.dst (fun _ _ => ⟨_, rfl⟩)
theorem setRow_same (w : World) (g : Nat) (cs : Array Value) : (w.setRow g cs).os = w.os ∧ (w.setRow g cs).tape = w.tape ∧ (w.setRow g cs).output = w.output := ⟨rfl, rfl, rfl⟩
theorem hasKey_no {k : Nat} : ∀ {u : List (Nat × Ob)}, hasKey k u = false → ∀ o, (k, o) ∉ u := by
  intro u
  induction u with
  | nil => intro _ o h; cases h
  | cons p u ih =>
    obtain ⟨i, o'⟩ := p
    intro h o hm
    simp only [hasKey] at h
    cases hb : Nat.beq k i with
    | true => rw [hb] at h; cases h
    | false =>
      rw [hb] at h
      rcases List.mem_cons.1 hm with e | hm
      · cases e; rw [Nat.beq_refl] at hb; cases hb
      · exact ih h o hm
theorem puts_keep {u : List (Nat × Ob)} {k : Nat} (h : hasKey k u = false) : (s.puts' u).obj k = s.obj k := by
  rcases puts_ob u s k with e | ⟨o, hm, _⟩
  · exact e
  · exact absurd hm (hasKey_no h o)
theorem take_splice (cur V : List Value) (p z m : Nat) (hV : V.length = z) (h : p + z ≤ m) (hm : m ≤ cur.length) : (cur.take p ++ V ++ cur.drop (p + z)).take m = (cur.take m).take p ++ V ++ (cur.take m).drop (p + z) := by
  have hl : (cur.take p ++ V).length = p + z := by rw [List.length_append, List.length_take, hV, Nat.min_eq_left (by omega)]
  rw [List.take_append, List.take_of_length_le (by omega), hl, List.take_take, Nat.min_eq_left (by omega), List.drop_take]
theorem seg_take_drop (us : List Value) (i sz : Nat) : us = us.take (i * sz) ++ (seg us i sz ++ us.drop (i * sz + sz)) := by
  unfold seg
  rw [← List.drop_drop, List.take_append_drop, List.take_append_drop]
theorem splice_row {s off sz : Nat} {cs c l : Av} (h : Av.splice none off sz cs c some = some l) : ∃ p r, l = p.appV (c.appV r) ∧ c.size = sz ∧ (cs.pers = true → p.pers = true ∧ r.pers = true) ∧
    ∀ E own w us, us.length = s → Ok E own w cs us → ∃ u1 u3 u4, us = u1 ++ (u3 ++ u4) ∧ u1.length = off ∧ u3.length = sz ∧ Ok E own w p u1 ∧ Ok E own w r u4 := by
  obtain ⟨p, q, y', r, h1, h2, h3, e⟩ := splice_ok h
  exact ⟨p, r, e, h3, fun hp => ⟨(h1.pers hp).1, (h2.pers (h1.pers hp).2).2⟩, fun E own w us _ ho => by
    obtain ⟨u1, u2, e1, l1, hp1, hq⟩ := h1.ok E _ w us ho
    obtain ⟨u3, u4, e2, l2, _, hr⟩ := h2.ok E _ w u2 hq
    exact ⟨u1, u3, u4, by rw [e1, e2], l1, l2, hp1, hr⟩⟩
theorem spliceRow_ok {s off sz : Nat} {cs c l : Av} (h : spliceRow s off sz cs c = some l) : ∃ p r, l = p.appV (c.appV r) ∧ c.size = sz ∧ (cs.pers = true → p.pers = true ∧ r.pers = true) ∧
    ∀ E own w us, us.length = s → Ok E own w cs us → ∃ u1 u3 u4, us = u1 ++ (u3 ++ u4) ∧ u1.length = off ∧ u3.length = sz ∧ Ok E own w p u1 ∧ Ok E own w r u4 := by
  unfold spliceRow at h
  cases ho : Nat.beq off 0 with
  | false => rw [ho] at h; exact splice_row h
  | true =>
    rw [ho] at h
    cases hz : Nat.beq sz s with
    | false => rw [hz] at h; exact splice_row h
    | true =>
      rw [hz] at h
      simp only [hasSz_eq, app_eq] at h
      by_cases hn : c.size = sz
      · rw [if_pos hn] at h
        have e0 := Nat.beq_ok ho
        have e1 := Nat.beq_ok hz
        simp at h
        subst h e0 e1
        exact ⟨.nil, .nil, rfl, hn, fun _ => ⟨rfl, rfl⟩, fun E own w us hl _ => ⟨[], us, [], by simp, rfl, hl, rfl, rfl⟩⟩
      · rw [if_neg hn] at h; cases h
theorem store_ok (hC : CtxOk P C) (h : Con own0 ext w0 s E a w) {T : Nat} {x y : Operand} {out : OutG} {d : Nat} (ho : o.op = .store T x y) (he : (aop C d (.store T x y)).eval s = some out) : OutOk P own0 ext w0 s a w o out := by
  simp only [aop] at he
  cases hl : look C.tt T with
  | none => rw [hl] at he; cases he
  | some ti =>
    have hti := hC.tt _ _ (look_mem hl)
    rw [hl] at he
    obtain ⟨ag, sz, i3, i4, i5, i6, i7⟩ := ti
    simp only at he
    obtain ⟨v, hv, he⟩ := rd_eval s y _ he
    obtain ⟨p, hp, he⟩ := rd_eval s x _ he
    have kv := opAv_ok h hv
    have kp := opAv_ok h hp
    cases p with
    | ptr k off =>
      simp only [Ok] at kp
      simp at kp
      simp only [storeAv, Rd.eval] at he
      cases hk : s.obj k with
      | var cs =>
        rw [hk] at he
        simp only [cellsK_eq] at he
        cases hfl : (cellsV v).flat with
        | false => rw [hfl] at he; cases he
        | true =>
          rw [hfl] at he
          simp only at he
          cases hs : Av.splice none off sz cs (cellsV v) some with
          | none => rw [hs] at he; cases he
          | some l =>
            rw [hs] at he
            simp only [Rd.eval, Option.some.injEq] at he
            subst he
            intro _ _
            obtain ⟨p, q, y', r, h1, h2, h3, rfl⟩ := splice_ok hs
            have hc := cells_of kv hfl
            have hko := h.objs k
            rw [hk] at hko
            obtain ⟨us, T', hh, hcs⟩ := hko
            obtain ⟨u1, u2, e1, l1, hp1, hq⟩ := h1.ok E _ w us hcs
            obtain ⟨u3, u4, e2, l2, _, hr⟩ := h2.ok E _ w u2 hq
            subst e1; subst e2
            have hlen : (a.eval y).cells.toList.length = sz := by rw [hc.1.len, h3]
            have hrun := store_run ho hti kp hlen hh (by simp only [List.length_append, l1, l2]; omega) hc.2
            have e3 : (u1 ++ (u3 ++ u4)).take off ++ (a.eval y).cells.toList ++ (u1 ++ (u3 ++ u4)).drop (off + sz) = u1 ++ ((a.eval y).cells.toList ++ u4) := by
              rw [List.take_left' l1, ← List.drop_drop, List.drop_left' l1, List.drop_left' l2, List.append_assoc]
            simp only [e3] at hrun
            refine Res.store hrun (E' := E) (h.change (k := k) (g := E.β k) (o := .var (p.appV ((cellsV v).appV r))) (by rw [hk]; rfl) (fun b => Iff.rfl) (fun b hb => setRow_other w _ b _ hb) (by simp) (setRow_same _ _ _) ?_)
            have hag : Agree (ownS own0 s E) w (w.setRow (E.β k) (u1 ++ ((a.eval y).cells.toList ++ u4)).toArray) := ⟨by simp, fun b _ hn => setRow_other w _ b _ fun e => hn (.inr ⟨k, by rw [hk]; exact e⟩)⟩
            exact ⟨_, T', setRow_heap w _ _ _ _ _ hh, (Ok.appV (Ok.appV hr hc.1) hp1).agree hag⟩
      | none => rw [hk] at he; cases he
      | row => rw [hk] at he; cases he
      | froz => rw [hk] at he; cases he
    | rptr k ss j off =>
      simp only [storeAv] at he
      cases hz0 : Nat.beq ss 0 with
      | true => rw [hz0] at he; cases he
      | false =>
      rw [hz0] at he
      obtain ⟨g, n', c', e1, e2⟩ := kp.rp hz0
      simp at e2
      simp only [Rd.eval] at he
      cases hk : s.obj k with
      | row Te ss' n f =>
        rw [hk] at he
        simp only at he
        cases hb : Nat.beq ss ss' with
        | false => rw [hb] at he; cases he
        | true =>
          rw [hb] at he
          have := Nat.beq_ok hb
          subst this
          simp only at he
          obtain ⟨v', u, hth, he⟩ := thaw_ok v _ he
          cases hky : hasKey k u with
          | true => rw [hky] at he; cases he
          | false =>
            rw [hky] at he
            simp only [cellsK_eq] at he
            cases hfl : (cellsV v').flat with
            | false => rw [hfl] at he; cases he
            | true =>
              rw [hfl] at he
              simp only at he
              cases hs : spliceRow ss off sz (f j) (cellsV v') with
              | none => rw [hs] at he; cases he
              | some l =>
                rw [hs] at he
                simp only [Rd.eval, Option.some.injEq] at he
                subst he
                intro hj _
                simp only [vcT] at hj
                obtain ⟨p, r, rfl, h3, hpp, hsp⟩ := spliceRow_ok hs
                obtain ⟨hc1, hsub, _, _, _⟩ := h.freezes u hth.fro
                have hk1 : (s.puts' u).obj k = .row Te ss n f := by rw [puts_keep hky]; exact hk
                have kv' := Rob.ok (E := E) (hth.rob u (fun _ hp => hp) hth.fro h _ kv)
                have hc := cells_of kv' hfl
                have hko := hc1.objs k
                rw [hk1] at hko
                obtain ⟨xs, ⟨hxl, hx⟩, hx1, hxr⟩ := hko
                rcases hx with ⟨hx, h0⟩ | ⟨g', cap, cur, hx, hB, hh, hnc, hcm, hcz, htk⟩
                · omega
                · rw [e1] at hx
                  simp at hx
                  obtain ⟨rfl, rfl, rfl⟩ := hx
                  obtain ⟨u1, u3, u4, e3, l1, l2, hp1, hr⟩ := hsp E _ w _ (seg_len hxl hj) (Rob.ok (hxr j hj))
                  have hlen : (a.eval y).cells.toList.length = sz := by rw [hc.1.len, h3]
                  have hsl := seg_len hxl hj
                  rw [e3] at hsl
                  simp only [List.length_append, l1, l2] at hsl
                  have hjn : j * ss + ss ≤ n' * ss := by
                    have : (j + 1) * ss ≤ n' * ss := Nat.mul_le_mul_right ss hj
                    rw [Nat.add_mul, Nat.one_mul] at this; exact this
                  have hncz : n' * ss ≤ cur.size := by rw [hcz]; exact Nat.mul_le_mul_right ss hnc
                  have hrun := store_run (cur := cur.toList) ho hti e2 hlen (by rw [Array.toArray_toList]; exact hh) (by simp only [Array.length_toList]; omega) hc.2
                  refine Res.store (E' := E) hrun ?_
                  rw [puts_app]
                  generalize hN : cur.toList.take (j * ss + off) ++ (a.eval y).cells.toList ++ cur.toList.drop (j * ss + off + sz) = N
                  have hNs : N.length = cur.size := by
                    rw [← hN]
                    simp only [List.length_append, List.length_take, List.length_drop, Array.length_toList] at hlen ⊢
                    omega
                  have hag : Agree (ownS own0 (s.puts' u) E) w (w.setRow g N.toArray) := ⟨by simp, fun b _ hn => setRow_other w _ b _ fun e => hn (.inr ⟨k, by rw [hk1, e]; simp only [Own1, e1]; rfl⟩)⟩
                  refine hc1.change (k := k) (g := g) (by rw [hk1]; simp only [Own1, e1]; rfl) (fun b => by simp only [Own1, e1, Value.ownBlock, Option.some.injEq]; exact eq_comm) (fun b hb => setRow_other w _ b _ hb) (by simp) (setRow_same _ _ _) ?_
                  -- the row's cells behind the store
                  have hcur : cur.toList.take (n' * ss) = xs := htk
                  have hN2 : N.take (n' * ss) = xs.take (j * ss + off) ++ (a.eval y).cells.toList ++ xs.drop (j * ss + off + sz) := by
                    rw [← hN, ← hcur]
                    exact take_splice _ _ _ _ _ hlen (by omega) (by simpa using hncz)
                  refine ⟨N.take (n' * ss), ⟨by rw [List.length_take, hNs]; exact Nat.min_eq_left hncz, .inr ⟨g, _, N.toArray, e1, hB, setRow_heap w _ _ _ _ _ hh, hnc, hcm, by simp [hNs, hcz], by simp⟩⟩, fun uu hu => ?_, fun i hi => ?_⟩
                  · rw [hN2] at hu
                    rcases List.mem_append.1 hu with hu | hu
                    · rcases List.mem_append.1 hu with hu | hu
                      · exact hx1 uu (List.mem_of_mem_take hu)
                      · exact hc.2 uu hu
                    · exact hx1 uu (List.mem_of_mem_drop hu)
                  · have hxs := seg_take_drop xs j ss
                    have hi1 : i * ss + ss ≤ n' * ss := by
                      have : (i + 1) * ss ≤ n' * ss := Nat.mul_le_mul_right ss hi
                      rw [Nat.add_mul, Nat.one_mul] at this; exact this
                    have hxt : xs.take (j * ss + off) ++ (a.eval y).cells.toList ++ xs.drop (j * ss + off + sz) = xs.take (j * ss) ++ ((u1 ++ ((a.eval y).cells.toList ++ u4)) ++ xs.drop (j * ss + ss)) := by
                      have t1 : xs.take (j * ss + off) = xs.take (j * ss) ++ u1 := by
                        rw [List.take_add]
                        congr 1
                        have : (xs.drop (j * ss)).take ss = u1 ++ (u3 ++ u4) := by rw [← e3]; rfl
                        have t2 : (xs.drop (j * ss)).take off = ((xs.drop (j * ss)).take ss).take off := by rw [List.take_take, Nat.min_eq_left (by omega)]
                        rw [t2, this, List.take_left' l1]
                      have t3 : xs.drop (j * ss + off + sz) = u4 ++ xs.drop (j * ss + ss) := by
                        have : (xs.drop (j * ss)) = (u1 ++ (u3 ++ u4)) ++ xs.drop (j * ss + ss) := by
                          rw [← e3, ← List.drop_drop]; exact (List.take_append_drop ss _).symm
                        rw [Nat.add_assoc, ← List.drop_drop, this, List.append_assoc, List.append_assoc, ← List.drop_drop, List.drop_left' l1, List.drop_left' l2]
                      rw [t1, t3]
                      simp only [List.append_assoc]
                    have hll : (xs.take (j * ss)).length = j * ss := by rw [List.length_take, hxl]; exact Nat.min_eq_left (by omega)
                    have hmid : (u1 ++ ((a.eval y).cells.toList ++ u4)).length = ss := by
                      simp only [List.length_append, hlen, l1]; omega
                    by_cases hij : i = j
                    · subst hij
                      have : seg (N.take (n' * ss)) i ss = u1 ++ ((a.eval y).cells.toList ++ u4) := by
                        rw [hN2, hxt]
                        unfold seg
                        rw [List.drop_left' hll, List.take_left' hmid]
                      rw [this]
                      simp only [↓reduceIte]
                      have hrob := Ok.appV (Ok.appV hr hc.1) hp1
                      have hpers : (p.appV ((cellsV v').appV r)).pers = true := by
                        have hfp := (hxr i hj).here.pers
                        have g1 := hpp hfp
                        have appp : ∀ {x z : Av}, x.pers = true → z.pers = true → (x.appV z).pers = true := by
                          intro x
                          induction x with
                          | cons b l _ ih => intro z hx hz; simp only [Av.pers, Bool.and_eq_true] at hx; simp only [Av.appV, Av.pers, hx.1, ih hx.2 hz]; rfl
                          | nil => intro z _ hz; exact hz
                          | _ => intro z hx hz; simp only [Av.appV, Av.pers, Bool.and_eq_true] at hx ⊢; exact ⟨hx, hz⟩
                        have hcp : (cellsV v').pers = true := by
                          have := hth.pers
                          cases v' <;> first | exact this | (simp only [cellsV, Av.pers, Bool.and_true]; exact this) | rfl | cases this
                        exact appp g1.1 (appp hcp g1.2)
                      exact (Ok.rob hpers hrob).agree hag
                    · have : seg (N.take (n' * ss)) i ss = seg xs i ss := by
                        rw [hN2, hxt]
                        rcases Nat.lt_or_gt_of_ne hij with hlt | hgt
                        · have hle : i * ss + ss ≤ j * ss := by
                            have : (i + 1) * ss ≤ j * ss := Nat.mul_le_mul_right ss hlt
                            rw [Nat.add_mul, Nat.one_mul] at this; exact this
                          unfold seg
                          rw [List.drop_append_of_le_length (by omega), List.take_append_of_le_length (by rw [List.length_drop]; omega), List.drop_take, List.take_take, Nat.min_eq_left (by omega)]
                        · have hle : j * ss + ss ≤ i * ss := by
                            have : (j + 1) * ss ≤ i * ss := Nat.mul_le_mul_right ss hgt
                            rw [Nat.add_mul, Nat.one_mul] at this; exact this
                          have e5 : i * ss = j * ss + (ss + (i * ss - j * ss - ss)) := by omega
                          unfold seg
                          rw [e5, ← List.drop_drop, List.drop_left' hll, ← List.drop_drop, List.drop_left' hmid, List.drop_drop, ← Nat.add_assoc]
                      rw [this]
                      simp only [if_neg hij]
                      exact (hxr i hi).agree hag
      | none => rw [hk] at he; cases he
      | var => rw [hk] at he; cases he
      | froz => rw [hk] at he; cases he
    | _ => cases he
/-- elements of a row have new contents -/
theorem Con.rowCopy (h : Con own0 ext w0 s E a w) {k T sz n j t g cap : Nat} {f gg : Nat → Av} {cs : List Value} {cur : Array Value} (hk : s.obj k = .row T sz n f) (he : E.σ k = .slice (some ⟨g, 0, none⟩) n cap) (hh : w.heap[g]? = some (.cells cur T (0, 0))) (hjt : j + t ≤ n) (hcs : cs.length = t * sz) (h1 : ∀ u ∈ cs, u.oneCell' = true) (hr : ∀ i, i < t → Rob (ownS own0 s E) w (gg i) (seg cs i sz)) :
    Con own0 ext w0 ⟨s.tm, s.ob.set k (.row T sz n (fun i => if j ≤ i ∧ i < j + t then gg (i - j) else f i))⟩ E a (w.setRow g (cur.toList.take (j * sz) ++ cs ++ cur.toList.drop (j * sz + cs.length)).toArray) := by
  have hko := h.objs k
  rw [hk] at hko
  obtain ⟨xs, ⟨hxl, hx⟩, hx1, hxr⟩ := hko
  rcases hx with ⟨hx, h0⟩ | ⟨g', cap', cur', hx, hB, hh', hnc, hcm, hcz, htk⟩
  · rw [he] at hx; cases hx
  · rw [he] at hx
    simp at hx
    obtain ⟨rfl, rfl⟩ := hx
    rw [hh] at hh'
    simp at hh'
    subst hh'
    have hjn : j * sz + t * sz ≤ n * sz := by rw [← Nat.add_mul]; exact Nat.mul_le_mul_right sz hjt
    have hncz : n * sz ≤ cur.size := by rw [hcz]; exact Nat.mul_le_mul_right sz hnc
    rw [hcs]
    generalize hN : cur.toList.take (j * sz) ++ cs ++ cur.toList.drop (j * sz + t * sz) = N
    have hNs : N.length = cur.size := by
      rw [← hN]
      simp only [List.length_append, List.length_take, List.length_drop, Array.length_toList]
      omega
    have hag : Agree (ownS own0 s E) w (w.setRow g N.toArray) := ⟨by simp, fun b _ hn => setRow_other w _ b _ fun e => hn (.inr ⟨k, by rw [hk, e]; simp only [Own1, he]; rfl⟩)⟩
    refine h.change (k := k) (g := g) (by rw [hk]; simp only [Own1, he]; rfl) (fun b => by simp only [Own1, he, Value.ownBlock, Option.some.injEq]; exact eq_comm) (fun b hb => setRow_other w _ b _ hb) (by simp) (setRow_same _ _ _) ?_
    have hcur : cur.toList.take (n * sz) = xs := htk
    have hN2 : N.take (n * sz) = xs.take (j * sz) ++ cs ++ xs.drop (j * sz + t * sz) := by
      rw [← hN, ← hcur]
      exact take_splice _ _ _ _ _ hcs (by omega) (by simpa using hncz)
    have hll : (xs.take (j * sz)).length = j * sz := by rw [List.length_take, hxl]; exact Nat.min_eq_left (by omega)
    refine ⟨N.take (n * sz), ⟨by rw [List.length_take, hNs]; exact Nat.min_eq_left hncz, .inr ⟨g, _, N.toArray, he, hB, setRow_heap w _ _ _ _ _ hh, hnc, hcm, by simp [hNs, hcz], by simp⟩⟩, fun uu hu => ?_, fun i hi => ?_⟩
    · rw [hN2] at hu
      rcases List.mem_append.1 hu with hu | hu
      · rcases List.mem_append.1 hu with hu | hu
        · exact hx1 uu (List.mem_of_mem_take hu)
        · exact h1 uu hu
      · exact hx1 uu (List.mem_of_mem_drop hu)
    · rw [hN2, List.append_assoc]
      show Rob _ _ (if j ≤ i ∧ i < j + t then gg (i - j) else f i) _
      have hi1 : i * sz + sz ≤ n * sz := by
        have : (i + 1) * sz ≤ n * sz := Nat.mul_le_mul_right sz hi
        rw [Nat.add_mul, Nat.one_mul] at this; exact this
      by_cases hij : i < j
      · rw [if_neg (fun e : j ≤ i ∧ i < j + t => absurd e.1 (by omega))]
        have hle : i * sz + sz ≤ j * sz := by
          have : (i + 1) * sz ≤ j * sz := Nat.mul_le_mul_right sz hij
          rw [Nat.add_mul, Nat.one_mul] at this; exact this
        have : seg (xs.take (j * sz) ++ (cs ++ xs.drop (j * sz + t * sz))) i sz = seg xs i sz := by
          unfold seg
          rw [List.drop_append_of_le_length (by omega), List.take_append_of_le_length (by rw [List.length_drop]; omega), List.drop_take, List.take_take, Nat.min_eq_left (by omega)]
        rw [this]; exact (hxr i hi).agree hag
      · by_cases hit : i < j + t
        · rw [if_pos ⟨by omega, hit⟩]
          have e5 : i * sz = j * sz + (i - j) * sz := by rw [← Nat.add_mul]; congr 1; omega
          have hle : (i - j) * sz + sz ≤ t * sz := by
            have : (i - j + 1) * sz ≤ t * sz := Nat.mul_le_mul_right sz (by omega)
            rw [Nat.add_mul, Nat.one_mul] at this; exact this
          have : seg (xs.take (j * sz) ++ (cs ++ xs.drop (j * sz + t * sz))) i sz = seg cs (i - j) sz := by
            unfold seg
            rw [e5, ← List.drop_drop, List.drop_left' hll, List.drop_append_of_le_length (by omega), List.take_append_of_le_length (by rw [List.length_drop]; omega)]
          rw [this]; exact (hr (i - j) (by omega)).agree hag
        · rw [if_neg (fun e : j ≤ i ∧ i < j + t => hit e.2)]
          have hle : j * sz + t * sz ≤ i * sz := by rw [← Nat.add_mul]; exact Nat.mul_le_mul_right sz (by omega)
          have e5 : i * sz = j * sz + (t * sz + (i * sz - j * sz - t * sz)) := by omega
          have : seg (xs.take (j * sz) ++ (cs ++ xs.drop (j * sz + t * sz))) i sz = seg xs i sz := by
            unfold seg
            rw [e5, ← List.drop_drop, List.drop_left' hll, ← List.drop_drop, List.drop_left' hcs, List.drop_drop, ← Nat.add_assoc]
          rw [this]; exact (hxr i hi).agree hag
end

section
variable {P : Program} {own0 ext : Nat → Prop} {w0 w : World} {s : St} {E : Env} {a : Act} {o : Oper} {C : Ctx}
theorem fill_step {place : Nat → Option (Nat × Nat)} {cells : List Value} {i off sz : Nat} {v : Value} {rest : List (Nat × Value)} (hp : place i = some (off, sz)) (hv : v.cells.toList.length = sz) (hf : off + sz ≤ cells.length) :
    Instr.fill place cells.toArray ((i, v) :: rest) = Instr.fill place (cells.take off ++ (v.cells.toList ++ cells.drop (off + sz))).toArray rest := by
  simp only [Array.length_toList] at hv
  conv => lhs; unfold Instr.fill
  simp only [hp, hv]
  rw [if_neg (by simp; omega)]
  congr 1
  rw [← Array.foldl_toList, Array.toList_zipIdx]
  obtain ⟨g1, g2⟩ := Great.foldl_set off v.cells.toList 0 cells.toArray
  apply Array.ext_getElem?
  intro k
  refine (g2 k).trans ?_
  simp only [Array.length_toList, hv, Nat.add_zero, List.size_toArray, List.getElem?_toArray]
  by_cases h1 : off ≤ k ∧ k < off + sz ∧ k < cells.length
  · rw [if_pos h1, List.getElem?_append_right (by rw [List.length_take]; omega), List.getElem?_append_left (by simp only [List.length_take, Array.length_toList]; omega), List.length_take, Nat.min_eq_left (by omega)]
  · rw [if_neg h1]
    by_cases h2 : k < off
    · rw [List.getElem?_append_left (by rw [List.length_take]; omega), List.getElem?_take, if_pos h2]
    · rw [List.getElem?_append_right (by rw [List.length_take]; omega), List.length_take, Nat.min_eq_left (by omega)]
      by_cases h3 : k < cells.length
      · rw [List.getElem?_append_right (by simp only [Array.length_toList]; omega), List.getElem?_drop]
        congr 1
        simp only [Array.length_toList]
        omega
      · rw [List.getElem?_eq_none_iff.2 (by omega), eq_comm, List.getElem?_eq_none_iff]
        simp only [List.length_append, Array.length_toList, List.length_drop]
        omega
theorem fillp_ok (h : Con own0 ext w0 s E a w) {fs : List (Nat × Nat)} {place : Nat → Option (Nat × Nat)} (hpl : ∀ i p, fs[i]? = some p → place i = some p) : ∀ (ps : List (Nat × Operand)) (cs : Av) (us : List Value) {out : OutG}, Ok E (ownS own0 s E) w cs us → (fillp fs ps cs).eval s = some out →
    ∃ cs' us', out = .mk ⟨.agg cs', [], false, none⟩ ∧ Ok E (ownS own0 s E) w cs' us' ∧ Instr.fill place us.toArray (ps.map fun p => (p.1, a.eval p.2)) = some us'.toArray := by
  intro ps
  induction ps with
  | nil =>
    intro cs us out hc he
    simp only [fillp, one, Rd.eval, Option.some.injEq] at he
    subst he
    exact ⟨cs, us, rfl, hc, by simp [Instr.fill]⟩
  | cons p ps ih =>
    obtain ⟨i, x⟩ := p
    intro cs us out hc he
    simp only [fillp] at he
    rw [nth_eq] at he
    cases hf : fs[i]? with
    | none => rw [hf] at he; cases he
    | some q =>
      obtain ⟨off, sz⟩ := q
      rw [hf] at he
      simp only at he
      obtain ⟨v, hv, he⟩ := rd_eval s x _ he
      rw [cellsK_eq] at he
      cases hfl : (cellsV v).flat with
      | false => rw [hfl] at he; cases he
      | true =>
        rw [hfl] at he
        simp only at he
        cases hs : Av.splice none off sz cs (cellsV v) some with
        | none => rw [hs] at he; cases he
        | some l =>
          rw [hs] at he
          simp only at he
          obtain ⟨p, q, y', r, h1, h2, h3, rfl⟩ := splice_ok hs
          have hcc := cells_of (opAv_ok h hv) hfl
          obtain ⟨u1, u2, e1, l1, hp1, hq⟩ := h1.ok E _ w us hc
          obtain ⟨u3, u4, e2, l2, _, hr⟩ := h2.ok E _ w u2 hq
          subst e1; subst e2
          obtain ⟨cs', us', g1, g2, g3⟩ := ih _ _ (Ok.appV (Ok.appV hr hcc.1) hp1) he
          refine ⟨cs', us', g1, g2, ?_⟩
          rw [← g3, List.map_cons, fill_step (hpl i _ hf) (by rw [hcc.1.len, h3]) (by simp only [List.length_append, l1, l2]; omega)]
          rw [List.take_left' l1, ← List.drop_drop, List.drop_left' l1, List.drop_left' l2]
theorem fieldsOk_places : ∀ {l : List (Nat × Nat)} {fs : List Field}, fieldsOk P l fs → fs.mapM (fun f => (P.info? f.type).map fun i => (f.offset, i.size)) = some l := by
  intro l
  induction l with
  | nil => intro fs h; cases fs with
    | nil => rfl
    | cons => exact h.elim
  | cons p l ih =>
    obtain ⟨o, n⟩ := p
    intro fs h
    cases fs with
    | nil => exact h.elim
    | cons f fs =>
      obtain ⟨h1, ⟨i, h2, h3, _⟩, _, h5⟩ := h
      simp [List.mapM_cons, h2, h3, h1, ih h5]
theorem build_ok (hC : CtxOk P C) (h : Con own0 ext w0 s E a w) {T d : Nat} {ps : Array (Nat × Operand)} {out : OutG} (ho : o.op = .build T ps) (he : (aop C d (.build T ps)).eval s = some out) : OutOk P own0 ext w0 s a w o out := by
  simp only [aop] at he
  cases hl : look C.tt T with
  | none => rw [hl] at he; cases he
  | some ti =>
    have hti := hC.tt _ _ (look_mem hl)
    rw [hl] at he
    obtain ⟨ag, i2, z, fs, i5, i6, i7⟩ := ti
    cases ag with
    | false => cases he
    | true =>
      obtain ⟨ps⟩ := ps
      simp only [zerosK_eq] at he
      obtain ⟨f, zv, h1, h2, h3, h4, h5, _⟩ := hti.inf
      obtain ⟨dd, hd, hk⟩ := hti.dsc
      cases dd with
      | struct ff =>
        simp only [dOk] at hk
        have hpl := fieldsOk_places hk.2.2.2.2
        obtain ⟨cs', us', e1, e2, e3⟩ := fillp_ok h (place := (fs.toArray[·]?)) (fun i p hp => by simpa using hp) ps _ z (zero_ok _ z).1 he
        subst e1
        intro _ _
        refine Res.val h (x := .agg us'.toArray) ?_ ⟨us', rfl, e2⟩
        have hz : zv.cells = z.toArray := by simp only at h5; rw [← h5]
        have hb : P.built T (ps.map fun p => (p.1, a.eval p.2)) = some us'.toArray := by
          unfold Program.built
          rw [h1, hd]
          simp only [h4, hpl, hz]
          exact e3
        have := run_build w T (ps.map fun p => (p.1, a.eval p.2)).toArray us'.toArray (by simpa using hb)
        simp [execOp, ho, this]
      | slice => simp only [dOk] at hk; cases hk.1
      | int => simp only [dOk] at hk; cases hk.1
      | bool => simp only [dOk] at hk; cases hk.1
      | pointer => simp only [dOk] at hk; cases hk.1
      | _ => exact hk.elim
theorem inOrder_zip : ∀ (ps : List (Nat × Operand)) (i n : Nat), inOrder i ps n = true → i + ps.length = n ∧ ∀ (f : Operand → Value), ps.map (fun p => (p.1, f p.2)) = (((seconds ps).map f).zipIdx i).map fun x => (x.2, x.1) := by
  intro ps
  induction ps with
  | nil => intro i n h; exact ⟨Nat.beq_ok h, fun _ => rfl⟩
  | cons p ps ih =>
    obtain ⟨k, x⟩ := p
    intro i n h
    simp only [inOrder] at h
    cases hb : Nat.beq k i with
    | false => rw [hb] at h; cases h
    | true =>
      rw [hb] at h
      have := Nat.beq_ok hb
      subst this
      obtain ⟨h1, h2⟩ := ih _ _ h
      refine ⟨by simp only [List.length_cons]; omega, fun f => ?_⟩
      simp only [List.map_cons, seconds, List.zipIdx_cons, h2 f]
theorem seconds_len : ∀ (ps : List (Nat × Operand)), (seconds ps).length = ps.length := by
  intro ps
  induction ps with
  | nil => rfl
  | cons p ps ih => simp only [seconds, List.length_cons, ih]
theorem sizesOk_all {sz : Nat} : ∀ {cs : List Av}, sizesOk sz cs = true → ∀ c ∈ cs, c.flat = true ∧ c.size = sz := by
  intro cs
  induction cs with
  | nil => intro _ c hc; cases hc
  | cons b l ih =>
    intro h c hc
    simp only [sizesOk] at h
    cases hf : b.flat with
    | false => rw [hf] at h; cases h
    | true =>
      rw [hf] at h
      simp only [hasSz_eq] at h
      by_cases hs : b.size = sz
      · rw [if_pos hs] at h
        rcases List.mem_cons.1 hc with rfl | hc
        · exact ⟨hf, hs⟩
        · exact ih h c hc
      · rw [if_neg hs] at h; cases h
/-- values side by side -/
theorem flat_seg {sz : Nat} : ∀ {vs : List Av} {xs : List Value} {own : Nat → Prop}, All2 (fun v x => Rob own w v [x]) vs xs → (∀ c ∈ vs.map cellsV, c.flat = true ∧ c.size = sz) →
    (∀ x ∈ xs, x.cells.size = sz) ∧ (∀ u ∈ xs.flatMap (fun v => v.cells.toList), u.oneCell' = true) ∧ (xs.flatMap fun v => v.cells.toList).length = xs.length * sz ∧ xs.length = vs.length ∧ ∀ i, i < xs.length → Rob own w (nthp .nil (vs.map cellsV) i) (seg (xs.flatMap fun v => v.cells.toList) i sz) := by
  intro vs xs own h
  induction h with
  | nil => intro _; exact ⟨by simp, by simp, by simp, rfl, by intro i hi; simp at hi⟩
  | @cons v x l m hv ht ih =>
    intro hc
    obtain ⟨h1, h2, h3, h4, h5⟩ := ih fun c hm => hc c (by simp only [List.map_cons]; exact List.mem_cons_of_mem _ hm)
    obtain ⟨hf, hs⟩ := hc (cellsV v) (by simp)
    have E0 : Env := ⟨fun _ => 0, fun _ => undef⟩
    have hx := cells_of (E := E0) (Rob.ok hv) hf
    have hl : x.cells.toList.length = sz := by rw [hx.1.len, hs]
    have hp : (cellsV v).pers = true := by
      have := hv.here.pers
      cases v <;> first | exact this | (simp only [cellsV, Av.pers, Bool.and_true]; exact this) | rfl | cases this
    refine ⟨fun y hy => ?_, fun u hu => ?_, ?_, by simp [h4], fun i hi => ?_⟩
    · rcases List.mem_cons.1 hy with rfl | hy
      · simpa using hl
      · exact h1 y hy
    · rw [List.flatMap_cons] at hu
      rcases List.mem_append.1 hu with hu | hu
      · exact hx.2 u hu
      · exact h2 u hu
    · rw [List.flatMap_cons, List.length_append, h3, hl, List.length_cons, Nat.add_mul, Nat.one_mul, Nat.add_comm]
    · rw [List.flatMap_cons]
      cases i with
      | zero =>
        have : seg (x.cells.toList ++ m.flatMap fun v => v.cells.toList) 0 sz = x.cells.toList := by
          unfold seg; rw [Nat.zero_mul, List.drop_zero, List.take_left' hl]
        rw [this]
        exact Ok.rob hp hx.1
      | succ i =>
        have : seg (x.cells.toList ++ m.flatMap fun v => v.cells.toList) (i + 1) sz = seg (m.flatMap fun v => v.cells.toList) i sz := by
          unfold seg; rw [Nat.add_mul, Nat.one_mul, Nat.add_comm (i * sz), ← List.drop_drop, List.drop_left' hl]
        rw [this]
        exact h5 i (by simpa using hi)
theorem All2.len {α β : Type} {R : α → β → Prop} {l : List α} {m : List β} (h : All2 R l m) : l.length = m.length := by
  induction h with
  | nil => rfl
  | cons _ _ ih => simp [ih]
theorem opAvs_ok (h : Con own0 ext w0 s E a w) : ∀ {xs : List Operand} {vs : List Av}, All2 (fun x v => opAv s x = some v) xs vs → All2 (fun v x => Ok E (ownS own0 s E) w v [x]) vs (xs.map a.eval) := by
  intro xs vs hx
  induction hx with
  | nil => exact .nil
  | cons hx _ ih => exact .cons (opAv_ok h hx) ih
theorem buildSlice_ok (hC : CtxOk P C) (h : Con own0 ext w0 s E a w) {T n : Nat} {ps : Array (Nat × Operand)} {out : OutG} (ho : o.op = .buildSlice T n ps) (he : (aop C (dstN o.dst) (.buildSlice T n ps)).eval s = some out) : OutOk P own0 ext w0 s a w o out := by
  simp only [aop] at he
  cases hl : elemTI C T with
  | none => rw [hl] at he; cases he
  | some p =>
    obtain ⟨et, ei⟩ := p
    rw [hl] at he
    obtain ⟨hu, hti⟩ := elemTI_ok hC hl
    obtain ⟨i1, sz, z, i4, i5, i6, i7⟩ := ei
    obtain ⟨ps⟩ := ps
    simp only at he
    cases hio : inOrder 0 ps n with
    | false => rw [hio] at he; cases he
    | true =>
      cases hble : Nat.ble (n * sz) 16777216 with
      | false => rw [hio, hble] at he; cases he
      | true =>
        rw [hio, hble] at he
        simp only at he
        have hle := Nat.le_of_ble_eq_true hble
        obtain ⟨hn, hz⟩ := inOrder_zip ps 0 n hio
        rw [Nat.zero_add] at hn
        obtain ⟨vs, hvs, he⟩ := rdl_eval s _ _ he
        obtain ⟨vs', u, hth, he⟩ := thawl_ok vs _ he
        rw [cellsl_eq] at he
        cases hsz : sizesOk sz (vs'.map cellsV) with
        | false => rw [hsz] at he; cases he
        | true =>
          rw [hsz] at he
          simp only [Rd.eval, Option.some.injEq] at he
          subst he
          intro _ hnew
          obtain ⟨d, hd, hf0, hlt, _⟩ := hnew rfl
          have hf := hf0.strict (by rw [ho]; rfl)
          have hdn : dstN o.dst = d := by rw [hd]; rfl
          obtain ⟨hc1, _, _, _, htm⟩ := h.freezes u hth.fro
          have hrob := hth.rob u (fun _ hp => hp) hth.fro h _ (opAvs_ok h hvs)
          obtain ⟨g1, g2, g3, g4, g5⟩ := flat_seg hrob (sizesOk_all hsz)
          have hln : ((seconds ps).map a.eval).length = n := by rw [List.length_map, seconds_len, hn]
          obtain ⟨ff, zv, q1, q2, q3, q4, q5, q6, q7, _⟩ := hti.inf
          have hzs : zv.cells.size = sz := by rw [← Array.length_toList, q5, q6]
          obtain ⟨E', hc2⟩ := hc1.newRow (T := et) (f := nthp .nil (vs'.map cellsV)) (Free.freezes hf hth.fro) (by rw [htm]; exact hlt) (c := n) (n := n) (by rw [g3, hln]) (Nat.le_refl _) (by simp only [maxLen]; have := Nat.le_mul_of_pos_right n (show 0 < sz from q7); omega) g2 (fun i hi => g5 i (by rw [hln]; exact hi))
          refine Res.new ⟨E', w.alloc (.cells (((seconds ps).map a.eval).flatMap fun v => v.cells.toList).toArray et), .slice (some ⟨w.heap.size, 0, none⟩) n n, ?_, ?_⟩
          · have hfill := Great.fill_whole q7 ((seconds ps).map a.eval) ((Array.range (n * sz)).map (zv.cells[· % zv.cells.size]!)) g1 (by rw [hln]; simp)
            rw [← hz a.eval] at hfill
            have hs1 := hti.size w
            simp only at hs1
            by_cases hn0 : n * sz = 0
            · have hn' : ps = [] := by
                rcases Nat.mul_eq_zero.1 hn0 with h0 | h0
                · exact List.length_eq_zero_iff.1 (by rw [hn, h0])
                · simp only at q7; omega
              subst hn'
              simp [execOp, ho, Instr.buildSlice, run_underlying hu, hs1, hn0, Instr.fill, seconds, newRow, newObj, Sem.run]
              exact congrArg (fun c => w.alloc (Obj.cells c et)) (Array.eq_empty_of_size_eq_zero (by rw [Array.size_map, Array.size_range]))
            · simp [execOp, ho, Instr.buildSlice, run_underlying hu, hs1, hn0, Nat.not_lt.2 hle, zeroValue, typeInfo, q1, q4, hfill, newRow, newObj, Sem.run]
          · rw [after_put, puts_app, hdn, hd]
            have : ((s.puts' u).puts' [(d, .row et sz n (nthp .nil (vs'.map cellsV)))]).put' (some d) (.row d) = ⟨(s.puts' u).tm.set d (.row d), (s.puts' u).ob.set d (.row et sz n (nthp .nil (vs'.map cellsV)))⟩ := rfl
            rw [this]; exact hc2
end

section
variable {P : Program} {own0 ext : Nat → Prop} {w0 w : World} {s : St} {E : Env} {a : Act} {o : Oper} {C : Ctx}
theorem seg_made {z : Array Value} {sz n i : Nat} (hz : z.size = sz) (hi : i < n) : seg (madeCells z (n * sz)).toList i sz = z.toList := by
  have hjn : i * sz + sz ≤ n * sz := by
    have : (i + 1) * sz ≤ n * sz := Nat.mul_le_mul_right sz hi
    rw [Nat.add_mul, Nat.one_mul] at this; exact this
  apply List.ext_getElem?
  intro k
  unfold seg
  rw [List.getElem?_take]
  by_cases hk : k < sz
  · rw [if_pos hk, List.getElem?_drop]
    have h2 : i * sz + k < n * sz := by omega
    have h3 : k % sz = k := Nat.mod_eq_of_lt hk
    simp [madeCells, h2, hz, hk, h3]
  · rw [if_neg hk, eq_comm, List.getElem?_eq_none_iff]
    simp only [Array.length_toList]; omega
theorem makeSlice_ok (hC : CtxOk P C) (h : Con own0 ext w0 s E a w) {T : Nat} {x y : Operand} {out : OutG} (ho : o.op = .makeSlice T x y) (he : (aop C (dstN o.dst) (.makeSlice T x y)).eval s = some out) : OutOk P own0 ext w0 s a w o out := by
  simp only [aop] at he
  cases hl : elemTI C T with
  | none => rw [hl] at he; cases he
  | some p =>
    obtain ⟨et, ei⟩ := p
    rw [hl] at he
    obtain ⟨hu, hti⟩ := elemTI_ok hC hl
    obtain ⟨i1, sz, z, i4, i5, i6, i7⟩ := ei
    simp only at he
    obtain ⟨v, hv, he⟩ := rd_eval s x _ he
    have k1 := opAv_ok h hv
    cases v with
    | val u =>
      cases u with
      | int k n =>
        cases k with
        | i64 =>
          simp only at he
          obtain ⟨v2, hv2, he⟩ := rd_eval s y _ he
          have k2 := opAv_ok h hv2
          cases v2 with
          | val u2 =>
            cases u2 with
            | int kk m =>
              cases kk with
              | i64 =>
                simp only [zerosK_eq] at he
                cases hfl : (zeroAv z).flat with
                | false => rw [hfl] at he; cases he
                | true =>
                  rw [hfl] at he
                  simp only [Rd.eval, Option.some.injEq] at he
                  subst he
                  intro hvc hnew
                  simp only [vcT] at hvc
                  obtain ⟨rfl, hn0, hn1⟩ := hvc
                  obtain ⟨d, hd, hf0, hlt, _⟩ := hnew rfl
                  have hf := hf0.strict (by rw [ho]; rfl)
                  have hdn : dstN o.dst = d := by rw [hd]; rfl
                  obtain ⟨ff, zv, q1, q2, q3, q4, q5, q6, q7, _⟩ := hti.inf
                  simp only at q2 q5 q6 q7
                  have hzs : zv.cells.size = sz := by rw [← Array.length_toList, q5, q6]
                  have hz1 := zero_ok (E := E) (w := w) (ownS own0 s E) z
                  have hone := flat_one _ _ hfl hz1.1
                  have hmem : ∀ u ∈ (madeCells zv.cells (m.toNat * sz)).toList, u.oneCell' = true := by
                    intro u hu
                    rw [List.mem_iff_getElem?] at hu
                    obtain ⟨k, hk⟩ := hu
                    have hklt : k < m.toNat * sz := by
                      rcases Nat.lt_or_ge k (m.toNat * sz) with h | h
                      · exact h
                      · rw [List.getElem?_eq_none_iff.2 (by simp [size_madeCells]; exact h)] at hk; cases hk
                    have hkm : k % zv.cells.size < zv.cells.size := Nat.mod_lt _ (by omega)
                    simp [madeCells, hklt, hkm] at hk
                    refine hone u ?_
                    rw [← q5, ← hk]
                    simp
                  have hrob : ∀ i, i < m.toNat → Rob (ownS own0 s E) w ((fun _ => zeroAv z) i) (seg (madeCells zv.cells (m.toNat * sz)).toList i sz) := by
                    intro i hi
                    rw [seg_made hzs hi, q5]
                    have hp : ∀ l : List Value, (zeroAv l).pers = true := by
                      intro l
                      induction l with
                      | nil => rfl
                      | cons v l ih => cases v <;> exact ih
                    exact Ok.rob (hp z) hz1.1
                  obtain ⟨E', hc⟩ := h.newRow (T := et) (sz := sz) (n := m.toNat) (c := m.toNat) (f := fun _ => zeroAv z) (us := (madeCells zv.cells (m.toNat * sz)).toList) hf hlt (by simp [size_madeCells]) (Nat.le_refl _) (by simp only [maxLen]; omega) hmem hrob
                  refine Res.new ⟨E', _, _, ?_, by rw [hdn, hd]; exact hc⟩
                  have hr := run_make (P := P) w T et ff zv hu q1 q4 .i64 .i64 m m hn0 (Int.le_refl _) (by
                    have : (ff.bytes : Int) ≤ 32768 := by omega
                    calc (ff.bytes : Int) * m ≤ 32768 * 1073741824 := Int.mul_le_mul this hn1 hn0 (by omega)
                      _ ≤ 281474976710656 := by omega) (by omega)
                  have e1 := val_of k1
                  have e2 := val_of k2
                  simp [execOp, ho, e1, e2, hr, q2]
              | _ => cases he
            | _ => cases he
          | _ => cases he
        | _ => cases he
      | _ => cases he
    | _ => cases he
/-- an index that may be left out -/
def optI (a : Act) (d : Int) : Option Operand → Int → Prop
  | none, l => l = d
  | some y, l => a.eval y = .int .i64 l
theorem slice_run {T et sz n c : Nat} {x : Operand} {lo hi : Option Operand} {A : Option Addr} {l m : Int} {ei : TI} (ho : o.op = .slice T x lo hi none) (hu : P.underlying T = some (.slice et)) (hti : TIok P et ei) (hsz : ei.size = sz) (he : a.eval x = .slice A n c) (hl : optI a 0 lo l) (hm : optI a n hi m) (h0 : 0 ≤ l ∧ l ≤ m ∧ m ≤ c) :
    (execOp a.eval o).run P w = .ok (.value (.slice (if c = l.toNat then A else A.map (·.add (l.toNat * sz))) (m.toNat - l.toNat) (c - l.toNat))) w := by
  have hs := hti.size w
  rw [hsz] at hs
  have b1 : ∀ (v : Value) (j : Int) (y : Nat) (code : BoundsCode), v = .int .i64 j → 0 ≤ j → j ≤ y → (Instr.sliceBound v y code).run P w = .ok j.toNat w := by
    intro v j y code e h1 h2
    subst e
    simp [Instr.sliceBound, asIntOf, h1, h2]
  have hb : (Instr.sliceBounds true n c (lo.map a.eval) (hi.map a.eval) none).run P w = .ok (l.toNat, m.toNat, c) w := by
    unfold Instr.sliceBounds
    cases hi with
    | none =>
      simp only [optI] at hm
      subst hm
      cases lo with
      | none => simp only [optI] at hl; subst hl; simp
      | some y =>
        simp only [optI] at hl
        have := b1 (a.eval y) l n .sliceB hl h0.1 h0.2.1
        simp [this]
    | some z =>
      simp only [optI] at hm
      have h2 := b1 (a.eval z) m c .sliceAcap hm (by omega) h0.2.2
      cases lo with
      | none => simp only [optI] at hl; subst hl; simp [h2]
      | some y =>
        simp only [optI] at hl
        have := b1 (a.eval y) l m.toNat .sliceB hl h0.1 (by omega)
        simp [this, h2]
  simp [execOp, ho, Instr.sliceAt, run_underlying hu, Instr.slice, he, hb, hs]
/-- a part of a list -/
theorem list_sub {own : Nat → Prop} {sz n : Nat} {f : Nat → Av} {A : Option Addr} {c : Nat} {l m : Int} (k : Rob own w (.list sz n f) [.slice A n c]) (hp : 0 ≤ l ∧ l ≤ m ∧ m ≤ n) : m ≤ c ∧ Rob own w (.list sz (m - l).toNat (fun i => f (i + l.toNat))) [.slice (if c = l.toNat then A else A.map (·.add (l.toNat * sz))) (m.toNat - l.toNat) (c - l.toNat)] := by
  obtain ⟨A', c', e, hc, hh⟩ := Rob.lst k
  simp at e
  obtain ⟨rfl, rfl⟩ := e
  refine ⟨by omega, ?_⟩
  have e3 : (m - l).toNat = m.toNat - l.toNat := by omega
  rw [e3]
  have hcc : m.toNat - l.toNat ≤ c - l.toNat := by omega
  refine Rob.lst_mk ⟨hcc, by omega⟩ fun h1 => ?_
  have hn0 : 0 < n := by omega
  have hcl : ¬ c = l.toNat := by omega
  have hml : l.toNat + (m.toNat - l.toNat) ≤ n := by omega
  obtain ⟨b, off, us, rfl, hb', hl2, hno, hcs, h1c, hr⟩ := hh hn0
  clear hh
  rw [if_neg hcl]
  have hle : l.toNat * sz + (m.toNat - l.toNat) * sz ≤ n * sz := by
    rw [← Nat.add_mul]; exact Nat.mul_le_mul_right sz hml
  refine ⟨b, off + l.toNat * sz, (us.drop (l.toNat * sz)).take ((m.toNat - l.toNat) * sz), by simp [addr_add], hb', ?_, fun hz => hno fun h0 => hz (by rw [h0]; simp), ?_, fun u hu => h1c u (List.mem_of_mem_drop (List.mem_of_mem_take hu)), fun i hi => ?_⟩
  · rw [List.length_take, List.length_drop, hl2]; omega
  · intro j u hu
    rw [List.getElem?_take] at hu
    by_cases hj : j < (m.toNat - l.toNat) * sz
    · rw [if_pos hj, List.getElem?_drop] at hu
      rw [Nat.add_assoc]; exact hcs _ u hu
    · rw [if_neg hj] at hu; cases hu
  · have : seg ((us.drop (l.toNat * sz)).take ((m.toNat - l.toNat) * sz)) i sz = seg us (i + l.toNat) sz := by
      have hjn : i * sz + sz ≤ (m.toNat - l.toNat) * sz := by
        have : (i + 1) * sz ≤ (m.toNat - l.toNat) * sz := Nat.mul_le_mul_right sz hi
        rw [Nat.add_mul, Nat.one_mul] at this; exact this
      unfold seg
      rw [List.drop_take, List.take_take, Nat.min_eq_left (by omega), List.drop_drop, Nat.add_mul, Nat.add_comm (i * sz)]
    rw [this]
    exact hr _ (by omega)
theorem slice_ok (hC : CtxOk P C) (h : Con own0 ext w0 s E a w) {T d : Nat} {x : Operand} {lo hi : Option Operand} {out : OutG} (ho : o.op = .slice T x lo hi none) (he : (aop C d (.slice T x lo hi none)).eval s = some out) : OutOk P own0 ext w0 s a w o out := by
  simp only [aop] at he
  cases hl : elemTI C T with
  | none => rw [hl] at he; cases he
  | some p =>
    obtain ⟨et, ei⟩ := p
    rw [hl] at he
    obtain ⟨hu, hti⟩ := elemTI_ok hC hl
    obtain ⟨i1, sz, z, i4, i5, i6, i7⟩ := ei
    simp only at he
    obtain ⟨vl, hvl, he⟩ := rdo_eval s _ lo _ he
    cases vl with
    | val ul =>
      cases ul with
      | int kl l =>
        cases kl with
        | i64 =>
          simp only at he
          obtain ⟨v, hv, he⟩ := rd_eval s x _ he
          have kx := opAv_ok h hv
          cases v with
          | row k =>
            simp only [Rd.eval] at he
            have ex : a.eval x = E.σ k := by simpa using kx.1
            have hl' : optI a 0 lo l := by
              cases lo with
              | none => simp at hvl; simp only [optI]; exact hvl
              | some y => exact val_of (opAv_ok h hvl)
            cases hk : s.obj k with
            | row T' sz' n f =>
              rw [hk] at he
              simp only at he
              cases hb : Nat.beq sz sz' with
              | false => rw [hb] at he; cases he
              | true =>
                rw [hb] at he
                have := Nat.beq_ok hb
                subst this
                simp only at he
                cases hi with
                | none =>
                  simp only at he
                  by_cases hp : 0 ≤ l ∧ l ≤ n
                  · have hko := h.objs k
                    rw [hk] at hko
                    have hf : ∃ A c, E.σ k = .slice A n c ∧ n ≤ c := by
                      obtain ⟨xs, ⟨_, ⟨h1, h0⟩ | ⟨g, cap, cur, h1, _, _, hnc, _⟩⟩, _⟩ := hko
                      · exact ⟨_, _, by rw [h1, h0], by omega⟩
                      · exact ⟨_, _, h1, hnc⟩
                    obtain ⟨A, c, e, hc⟩ := hf
                    refine oneIf_ok h he fun _ => ⟨slice_run (m := (n : Int)) ho hu hti rfl (ex.trans e) hl' rfl ⟨hp.1, hp.2, by omega⟩, ?_⟩
                    exact ⟨A, n, c, e, rfl⟩
                  · exact oneIf_ok h he (x := undef) fun hq => absurd hq hp
                | some y =>
                  simp only at he
                  obtain ⟨vh, hvh, he'⟩ := rd_eval s y _ he
                  clear he
                  have kh := opAv_ok h hvh
                  cases vh with
                  | val uh =>
                    cases uh with
                    | int kk m =>
                      cases kk with
                      | i64 =>
                        simp only [Rd.eval, Option.some.injEq] at he'
                        subst he'
                        intro hvc _
                        simp only [vcT] at hvc
                        have hm := val_of kh
                        have hfr : FrozU s [(k, .froz sz n f)] := fun p hp => by
                          cases List.mem_singleton.1 hp
                          exact ⟨sz, n, f, rfl, .inl ⟨T', hk⟩⟩
                        obtain ⟨hc1, _, _, hob, _⟩ := h.freezes _ hfr
                        have hko := hc1.objs k
                        rw [hob (k, .froz sz n f) (List.mem_singleton.2 rfl)] at hko
                        obtain ⟨A, c, e⟩ := row_form h hk
                        have hko' : Rob (ownS own0 (s.puts' [(k, .froz sz n f)]) E) w (.list sz n f) [.slice A n c] := by rw [← e]; exact hko
                        obtain ⟨hmc, hr⟩ := list_sub hko' hvc
                        refine Res.new ⟨E, w, _, slice_run ho hu hti rfl (ex.trans e) hl' hm ⟨hvc.1, hvc.2.1, hmc⟩, ?_⟩
                        rw [after_put]
                        exact hc1.put o.dst (Rob.ok hr)
                      | _ => cases he'
                    | _ => cases he'
                  | _ => cases he'
            | froz sz' n f =>
              rw [hk] at he
              simp only at he
              cases hb : Nat.beq sz sz' with
              | false => rw [hb] at he; cases he
              | true =>
                rw [hb] at he
                have := Nat.beq_ok hb
                subst this
                simp only at he
                obtain ⟨vh, hvh, he'⟩ := rdo_eval s _ hi _ he
                clear he
                cases vh with
                | val uh =>
                  cases uh with
                  | int kh m =>
                    cases kh with
                    | i64 =>
                      simp only at he'
                      have hm' : optI a n hi m := by
                        cases hi with
                        | none => simp at hvh; simp only [optI]; exact hvh
                        | some y => exact val_of (opAv_ok h hvh)
                      have hko := h.objs k
                      rw [hk] at hko
                      obtain ⟨A, c, e⟩ := froz_form h hk
                      have hko' : Rob (ownS own0 s E) w (.list sz n f) [.slice A n c] := by rw [← e]; exact hko
                      by_cases hp : 0 ≤ l ∧ l ≤ m ∧ m ≤ n
                      · obtain ⟨hmc, hr⟩ := list_sub hko' hp
                        exact oneIf_ok h he' fun _ => ⟨slice_run ho hu hti rfl (ex.trans e) hl' hm' ⟨hp.1, hp.2.1, hmc⟩, Rob.ok hr⟩
                      · exact oneIf_ok h he' (x := undef) fun hq => absurd hq hp
                    | _ => cases he'
                  | _ => cases he'
                | _ => cases he'
            | none => rw [hk] at he; cases he
            | var => rw [hk] at he; cases he
          | list sz' n f =>
            simp only at he
            cases hb : Nat.beq sz sz' with
            | false => rw [hb] at he; cases he
            | true =>
              rw [hb] at he
              have := Nat.beq_ok hb
              subst this
              simp only at he
              obtain ⟨vh, hvh, he⟩ := rdo_eval s _ hi _ he
              cases vh with
              | val uh =>
                cases uh with
                | int kh m =>
                  cases kh with
                  | i64 =>
                    simp only at he
                    have hl' : optI a 0 lo l := by
                      cases lo with
                      | none => simp at hvl; simp only [optI]; exact hvl
                      | some y => exact val_of (opAv_ok h hvl)
                    have hm' : optI a n hi m := by
                      cases hi with
                      | none => simp at hvh; simp only [optI]; exact hvh
                      | some y => exact val_of (opAv_ok h hvh)
                    obtain ⟨A, c, e, hc, hh⟩ := Rob.lst kx
                    simp at e
                    by_cases hp : 0 ≤ l ∧ l ≤ m ∧ m ≤ n
                    · rw [e] at kx
                      obtain ⟨hmc, hr⟩ := list_sub kx hp
                      exact oneIf_ok h he fun _ => ⟨slice_run ho hu hti rfl e hl' hm' ⟨hp.1, hp.2.1, hmc⟩, Rob.ok hr⟩
                    · exact oneIf_ok h he (x := undef) fun hq => absurd hq hp
                  | _ => cases he
                | _ => cases he
              | _ => cases he
          | _ => cases he
        | _ => cases he
      | _ => cases he
    | _ => cases he
theorem copy_run {T T' et : Nat} {x y : Operand} {ei : TI} {A : Option Addr} {n c m t : Nat} {cs : List Value} {w' : World} (ho : o.op = .call ⟨.builtin .copy, #[x, y], #[T, T']⟩) (hu : P.underlying T = some (.slice et)) (hti : TIok P et ei) (hx : a.eval x = .slice A n c) (hm : (Builtin.lenOf (a.eval y)).run P w = .ok m w) (ht : Nat.min m n = t) (hc : (Builtin.firstCells ei.size t (a.eval y)).run P w = .ok cs.toArray w) (hst : (match A with | some b => storeCells b cs 0 | none => pure ()).run P w = .ok () w') :
    (execOp a.eval o).run P w = .ok (.value (goInt t)) w' := by
  have hs := hti.size w
  cases A with
  | none => simp at hst; subst hst; simp [execOp, ho, resolve, invoke, builtin, Builtin.copy_, run_underlying hu, hx, hm, ht, hs, hc]
  | some b => simp at hst; simp [execOp, ho, resolve, invoke, builtin, Builtin.copy_, run_underlying hu, hx, hm, ht, hs, hc, hst]
theorem first_none {own : Nat → Prop} {sz m : Nat} {g : Nat → Av} {v : Value} (h : Rob own w (.list sz m g) [v]) : (Builtin.firstCells sz 0 v).run P w = .ok #[] w ∧ (Builtin.lenOf v).run P w = .ok m w := by
  obtain ⟨A, c, e, _⟩ := Rob.lst h
  simp at e
  subst e
  refine ⟨?_, by simp [Builtin.lenOf]⟩
  cases A with
  | none => simp [Builtin.firstCells]
  | some b =>
    have := run_loadCells_list (P := P) w b [] (by intro j v hj; simp at hj)
    simpa [Builtin.firstCells] using this
theorem first_some {own : Nat → Prop} {sz m t : Nat} {g : Nat → Av} {v : Value} (h : Rob own w (.list sz m g) [v]) (ht : t ≤ m) (h0 : 0 < t) : ∃ cs : List Value, (Builtin.firstCells sz t v).run P w = .ok cs.toArray w ∧ cs.length = t * sz ∧ (∀ u ∈ cs, u.oneCell' = true) ∧ ∀ i, i < t → Rob own w (g i) (seg cs i sz) := by
  obtain ⟨A, c, e, _, hh⟩ := Rob.lst h
  simp at e
  subst e
  obtain ⟨b, off, us, rfl, hb, hl, _, hcs, h1, hr⟩ := hh (by omega)
  have hle : t * sz ≤ m * sz := Nat.mul_le_mul_right sz ht
  have hlen : (us.take (t * sz)).length = t * sz := by rw [List.length_take, hl]; exact Nat.min_eq_left hle
  refine ⟨us.take (t * sz), ?_, hlen, fun u hu => h1 u (List.mem_of_mem_take hu), fun i hi => ?_⟩
  · have := run_loadCells_list (P := P) w ⟨b, off, none⟩ (us.take (t * sz)) (fun j v hj => by
      rw [List.getElem?_take] at hj
      by_cases hjt : j < t * sz
      · rw [if_pos hjt] at hj; rw [addr_add]; exact hcs j v hj
      · rw [if_neg hjt] at hj; cases hj)
    rw [hlen] at this
    simpa [Builtin.firstCells] using this
  · have hi1 : i * sz + sz ≤ t * sz := by
      have : (i + 1) * sz ≤ t * sz := Nat.mul_le_mul_right sz hi
      rw [Nat.add_mul, Nat.one_mul] at this; exact this
    have : seg (us.take (t * sz)) i sz = seg us i sz := by
      unfold seg
      rw [List.drop_take, List.take_take, Nat.min_eq_left (by omega)]
    rw [this]; exact hr i (by omega)
/-- what a copy comes to -/
theorem copy_core {T T' et k sz m n c j t : Nat} {x y : Operand} {ei : TI} {A : Option Addr} {f gg : Nat → Av} {u : List (Nat × Ob)} {TE : Nat} (ho : o.op = .call ⟨.builtin .copy, #[x, y], #[T, T']⟩) (hu : P.underlying T = some (.slice et)) (hti : TIok P et ei) (hsz : ei.size = sz) (hy : Rob (ownS own0 (s.puts' u) E) w (.list sz m gg) [a.eval y]) (hc1 : Con own0 ext w0 (s.puts' u) E a w) (hk : (s.puts' u).obj k = .row TE sz n f) (he : E.σ k = .slice A n c) (hx : a.eval x = subV A n c j sz) (hj : j ≤ n) (ht : Nat.min m (n - j) = t) {F : Nat → Av} (hF : F = fun i => if j ≤ i ∧ i < j + t then gg (i - j) else f i) :
    Res P own0 ext w0 s a w o (.val (.int .i64 ((t : Nat) : Int))) (u ++ [(k, .row TE sz n F)]) := by
  subst hF
  subst hsz
  obtain ⟨h00, hlen⟩ := first_none (P := P) hy
  have hko := hc1.objs k
  rw [hk] at hko
  obtain ⟨xs, ⟨hxl, hxx⟩, hx1, hxr⟩ := hko
  have htm : t ≤ m := by rw [← ht]; exact Nat.min_le_left _ _
  have htn : j + t ≤ n := by have : t ≤ n - j := by rw [← ht]; exact Nat.min_le_right _ _
                             omega
  refine Res.new ⟨E, ?_⟩
  rw [after_put, puts_app]
  by_cases h0 : t = 0
  · subst h0
    refine ⟨w, goInt (0 : Nat), ?_, ?_⟩
    · refine copy_run ho hu hti hx hlen ht (cs := []) h00 ?_
      cases hA : (if c = j then A else A.map (·.add (j * ei.size))) with
      | none => simp
      | some b => simp [storeCells]
    · exact (hc1.same hk fun i hi => if_neg (by omega)).put o.dst (val_mk _ _ _ _)
  · rcases hxx with ⟨hxx, hn0⟩ | ⟨g, cap, cur, hxx, hB, hh, hnc, hcm, hcz, htk⟩
    · omega
    · obtain ⟨cs, hf, hcl, h1, hr⟩ := first_some (P := P) hy htm (by omega)
      rw [he] at hxx
      simp at hxx
      obtain ⟨rfl, rfl⟩ := hxx
      have hcj : ¬ c = j := by omega
      have hjn : j * ei.size + t * ei.size ≤ n * ei.size := by rw [← Nat.add_mul]; exact Nat.mul_le_mul_right _ htn
      have hncz : n * ei.size ≤ cur.size := by rw [hcz]; exact Nat.mul_le_mul_right _ hnc
      refine ⟨_, goInt t, ?_, (hc1.rowCopy hk he hh htn hcl h1 hr).put o.dst (val_mk _ _ _ _)⟩
      refine copy_run ho hu hti hx hlen ht hf ?_
      rw [if_neg hcj]
      have h3 := run_storeCells_at P g (j * ei.size) TE cs 0 cur w hh (by rw [hcl]; omega) h1
      simp only [Nat.add_zero] at h3
      simpa [addr_add] using h3
theorem copy_ok (hC : CtxOk P C) (h : Con own0 ext w0 s E a w) {args : List Operand} {ts : List TypeId} {d : Nat} {out : OutG} (ho : o.op = .call ⟨.builtin .copy, ⟨args⟩, ⟨ts⟩⟩) (he : (aop C d (.call ⟨.builtin .copy, ⟨args⟩, ⟨ts⟩⟩)).eval s = some out) : OutOk P own0 ext w0 s a w o out := by
  simp only [aop] at he
  match ts, ho, he with
  | [], _, he => cases he
  | [_], _, he => cases he
  | _ :: _ :: _ :: _, _, he => cases he
  | [T, T'], ho, he =>
    simp only at he
    cases hl : elemTI C T with
    | none => rw [hl] at he; cases he
    | some p =>
      obtain ⟨et, ei⟩ := p
      rw [hl] at he
      obtain ⟨hu, hti⟩ := elemTI_ok hC hl
      obtain ⟨i1, sz, z, i4, i5, i6, i7⟩ := ei
      simp only at he
      obtain ⟨vs, hvs, he⟩ := rdl_eval s args _ he
      cases hvs with
      | nil => cases he
      | @cons x vx _ _ hx ht =>
        cases ht with
        | nil => cases he
        | @cons y vy _ _ hy ht =>
          cases ht with
          | cons _ _ => cases he
          | nil =>
            simp only [copyAv] at he
            obtain ⟨vy', u, hth, he'⟩ := thaw_ok vy _ he
            clear he
            have he := he'
            clear he'
            have kx := opAv_ok h hx
            have ky := opAv_ok h hy
            cases vy' with
            | list sz' m g =>
              simp only at he
              cases hb2 : Nat.beq sz sz' with
              | false => rw [hb2] at he; cases he
              | true =>
                rw [hb2] at he
                have := Nat.beq_ok hb2
                subst this
                obtain ⟨hc1, hsub, _, _, htm⟩ := h.freezes u hth.fro
                have ky' := (hth.rob u (fun _ hp => hp) hth.fro h _ ky)
                cases vx with
                | row k =>
                  simp only at he
                  cases hky : hasKey k u with
                  | true => rw [hky] at he; cases he
                  | false =>
                    rw [hky] at he
                    simp only [Rd.eval] at he
                    cases hk : s.obj k with
                    | row Te sz'' n f =>
                      rw [hk] at he
                      simp only at he
                      cases hb3 : Nat.beq sz sz'' with
                      | false => rw [hb3] at he; cases he
                      | true =>
                        rw [hb3] at he
                        have := Nat.beq_ok hb3
                        subst this
                        simp only [Rd.eval, Option.some.injEq] at he
                        subst he
                        intro _ _
                        have hk1 : (s.puts' u).obj k = .row Te sz n f := by rw [puts_keep hky]; exact hk
                        have ex : a.eval x = E.σ k := by simpa using kx.1
                        obtain ⟨A, c, e⟩ := row_form h hk
                        have ex' : a.eval x = subV A n c 0 sz := by
                          rw [ex, e]; unfold subV
                          cases A with
                          | none => simp
                          | some b => simp [Addr.add]
                        exact copy_core ho hu hti rfl ky' hc1 hk1 e ex' (Nat.zero_le n) rfl (by funext i; simp [Nat.min_def])
                    | none => rw [hk] at he; cases he
                    | var => rw [hk] at he; cases he
                    | froz => rw [hk] at he; cases he
                | rptr k z j z' =>
                  simp only at he
                  cases hz : Nat.beq z 0 with
                  | false => rw [hz] at he; cases he
                  | true =>
                    rw [hz] at he
                    simp only at he
                    cases hky : hasKey k u with
                    | true => rw [hky] at he; cases he
                    | false =>
                      rw [hky] at he
                      simp only [Rd.eval] at he
                      cases hk : s.obj k with
                      | row Te sz'' n f =>
                        rw [hk] at he
                        simp only at he
                        cases hb3 : Nat.beq sz sz'' with
                        | false => rw [hb3] at he; cases he
                        | true =>
                          cases hb4 : Nat.beq sz z' with
                          | false => rw [hb3, hb4] at he; cases he
                          | true =>
                            rw [hb3, hb4] at he
                            have := Nat.beq_ok hb3
                            subst this
                            have := Nat.beq_ok hb4
                            subst this
                            simp only [Rd.eval, Option.some.injEq] at he
                            subst he
                            intro hvc _
                            simp only [vcT] at hvc
                            have hk1 : (s.puts' u).obj k = .row Te sz n f := by rw [puts_keep hky]; exact hk
                            obtain ⟨A, n', c, e, ex⟩ := kx.rp0 hz
                            obtain ⟨A', c', e'⟩ := row_form h hk
                            rw [e] at e'
                            simp at e'
                            obtain ⟨rfl, rfl, rfl⟩ := e'
                            simp at ex
                            exact copy_core ho hu hti rfl ky' hc1 hk1 e ex hvc rfl rfl
                      | none => rw [hk] at he; cases he
                      | var => rw [hk] at he; cases he
                      | froz => rw [hk] at he; cases he
                | _ => cases he
            | _ => cases he
end

section
variable {P : Program} {own0 ext : Nat → Prop} {w0 w : World} {s : St} {E : Env} {a : Act} {o : Oper} {C : Ctx}
theorem append_run {T ty : Nat} {x y : Operand} {v v' : Value} {w' : World} (ho : o.op = .call ⟨.builtin .append, #[x, y], #[T, T]⟩) (hty : o.type = ty) (hr : (Builtin.append_ #[T, T] ty #[a.eval x, a.eval y]).run P w = .ok v' w') (_h : v = v) : (execOp a.eval o).run P w = .ok (.value v') w' := by
  subst hty
  simp [execOp, ho, resolve, invoke, builtin, hr]
theorem append_zero {T ty et : Nat} {ei : TI} {A : Option Addr} {n c : Nat} {x : Value} (hu : P.underlying T = some (.slice et)) (hti : TIok P et ei) (hnc : n ≤ c) (hl : (Builtin.lenOf x).run P w = .ok 0 w) (hf : (Builtin.firstCells ei.size 0 x).run P w = .ok #[] w) :
    (Builtin.append_ #[T, T] ty #[.slice A n c, x]).run P w = .ok (.slice A n c) w := by
  have hs := hti.size w
  cases A <;> simp [Builtin.append_, run_underlying hu, hs, hl, hnc, hf, storeCells]
theorem append_ok (hC : CtxOk P C) (h : Con own0 ext w0 s E a w) {args : List Operand} {ts : List TypeId} {out : OutG} (ho : o.op = .call ⟨.builtin .append, ⟨args⟩, ⟨ts⟩⟩) (he : (aop C (dstN o.dst) (.call ⟨.builtin .append, ⟨args⟩, ⟨ts⟩⟩)).eval s = some out) : OutOk P own0 ext w0 s a w o out := by
  simp only [aop] at he
  match ts, ho, he with
  | [], _, he => cases he
  | [_], _, he => cases he
  | _ :: _ :: _ :: _, _, he => cases he
  | [T, T'], ho, he =>
    simp only at he
    cases hb : Nat.beq T T' with
    | false => rw [hb] at he; cases he
    | true =>
      rw [hb] at he
      have := Nat.beq_ok hb
      subst this
      simp only at he
      cases hl : elemTI C T with
      | none => rw [hl] at he; cases he
      | some p =>
        obtain ⟨et, ei⟩ := p
        rw [hl] at he
        obtain ⟨hu, hti⟩ := elemTI_ok hC hl
        obtain ⟨i1, sz, z, i4, i5, i6, i7⟩ := ei
        simp only at he
        obtain ⟨vs, hvs, he⟩ := rdl_eval s args _ he
        cases hvs with
        | nil => cases he
        | @cons x vx _ _ hx ht =>
          cases ht with
          | nil => cases he
          | @cons y vy _ _ hy ht =>
            cases ht with
            | cons _ _ => cases he
            | nil =>
              simp only [appendAv] at he
              obtain ⟨vy', u, hth, he⟩ := thaw_ok vy _ he
              have kx := opAv_ok h hx
              have ky := opAv_ok h hy
              cases vy' with
              | list sz' m g =>
                simp only at he
                cases hb2 : Nat.beq sz sz' with
                | false => rw [hb2] at he; cases he
                | true =>
                  rw [hb2] at he
                  have := Nat.beq_ok hb2
                  subst this
                  obtain ⟨ff, zv, q1, q2, q3, q4, q5, q6, q7, _⟩ := hti.inf
                  simp only at q2 q5 q6 q7
                  have hzs : zv.cells.size = sz := by rw [← Array.length_toList, q5, q6]
                  obtain ⟨hc1, hsub, _, _, htm⟩ := h.freezes u hth.fro
                  have ky' := hth.rob u (fun _ hp => hp) hth.fro h _ ky
                  obtain ⟨A, cc, e, hcc, hh⟩ := ky'.lst
                  simp at e
                  cases vx with
                  | row k =>
                    simp only at he
                    cases hky : hasKey k u with
                    | true => rw [hky] at he; cases he
                    | false =>
                      rw [hky] at he
                      simp only [Rd.eval] at he
                      cases hk : s.obj k with
                      | row Te sz'' n f =>
                        rw [hk] at he
                        simp only at he
                        cases hb3 : Nat.beq et Te with
                        | false => rw [hb3] at he; cases he
                        | true =>
                          cases hb4 : Nat.beq sz sz'' with
                          | false => rw [hb3, hb4] at he; cases he
                          | true =>
                            rw [hb3, hb4] at he
                            have := Nat.beq_ok hb3
                            subst this
                            have := Nat.beq_ok hb4
                            subst this
                            simp only [Rd.eval, Option.some.injEq] at he
                            subst he
                            intro hvc hnew
                            simp only [vcT] at hvc
                            obtain ⟨d, hd, hf0, hlt, _⟩ := hnew rfl
                            have hf := hf0.strict (by rw [ho]; rfl)
                            have hdn : dstN o.dst = d := by rw [hd]; rfl
                            have hk1 : (s.puts' u).obj k = .row et sz n f := by rw [puts_keep hky]; exact hk
                            have hkd : k ≠ d := by
                              intro e
                              have := opAv_names hf hx
                              simp only [Av.names, beq_eq_false_iff_ne, ne_eq] at this
                              exact this e
                            have hko := hc1.objs k
                            rw [hk1] at hko
                            obtain ⟨xs, hxo, hx1, hxr⟩ := hko
                            rcases Nat.eq_zero_or_pos m with hm0 | hm0
                            · subst hm0
                              obtain ⟨e0, e1⟩ := first_none (P := P) ky'
                              have hfm : ∃ A c, E.σ k = .slice A n c ∧ n ≤ c := by
                                rcases hxo.2 with ⟨q, q0⟩ | ⟨g', cap, cur, q, _, _, hnc, _⟩
                                · exact ⟨_, _, by rw [q, q0], by omega⟩
                                · exact ⟨_, _, q, hnc⟩
                              obtain ⟨A', c', e2, hnc⟩ := hfm
                              have hrun := append_zero (ty := o.type) (A := A') (c := c') hu hti hnc e1 e0
                              obtain ⟨E', hc2⟩ := hc1.appendRow (v' := E.σ k) (w' := w) (m := 0) (g := g) (news := []) (Free.freezes hf hth.fro) (by rw [htm]; exact hlt) hkd hk1 hxo hx1 hxr (fun u hu => by cases hu) (fun i hi => absurd hi (Nat.not_lt_zero i)) (by simpa using hxo) (.inl ⟨rfl, ⟨rfl, rfl, rfl, Nat.le_refl _, fun _ _ _ => rfl⟩⟩)
                              have ex : a.eval x = E.σ k := by simpa using kx.1
                              refine Res.new ⟨E', w, E.σ k, append_run (v := E.σ k) (v' := E.σ k) ho rfl (by rw [ex, e2]; exact hrun) rfl, ?_⟩
                              rw [after_put, puts_app, hdn, hd]
                              exact hc2
                            obtain ⟨b, off, us, rfl, hb', hl2, hno, hcs, h1c, hr⟩ := hh hm0
                            have hby : (n + m) * ff.bytes ≤ 140737488355328 := by
                              calc (n + m) * ff.bytes ≤ 1073741824 * 32768 := Nat.mul_le_mul hvc q3
                                _ ≤ 140737488355328 := by omega
                            have h63 : n + m ≤ maxLen := by simp only [maxLen]; omega
                            obtain ⟨v', w', hrun, hown, hlies⟩ := append_sharp (P := P) w w0.heap.size T o.type et ff zv sz ff.bytes hu q1 q4 q2 rfl hzs q7 (E.σ k) n xs hxo ⟨b, off, none⟩ m cc us hl2 (fun j uu hj => by rw [addr_add]; exact hcs j uu hj) h1c h63 hby h.frame.size hm0
                            obtain ⟨E', hc2⟩ := hc1.appendRow (Free.freezes hf hth.fro) (by rw [htm]; exact hlt) hkd hk1 hxo hx1 hxr h1c hr hown (hlies.imp (fun h => h.2) id)
                            have ex : a.eval x = E.σ k := by simpa using kx.1
                            refine Res.new ⟨E', w', v', append_run (v := v') ho rfl (by rw [ex, e]; exact hrun) rfl, ?_⟩
                            rw [after_put, puts_app, hdn, hd]
                            exact hc2
                      | none => rw [hk] at he; cases he
                      | var => rw [hk] at he; cases he
                      | froz => rw [hk] at he; cases he
                  | val ux =>
                    cases ux with
                    | slice Ax nx cx =>
                      cases Ax with
                      | some _ => cases he
                      | none =>
                        cases nx with
                        | succ _ => cases he
                        | zero =>
                          cases cx with
                          | succ _ => cases he
                          | zero =>
                            simp only [Rd.eval, Option.some.injEq] at he
                            subst he
                            intro hvc hnew
                            simp only [vcT] at hvc
                            obtain ⟨d, hd, hf0, hlt, _⟩ := hnew rfl
                            have hf := hf0.strict (by rw [ho]; rfl)
                            have hdn : dstN o.dst = d := by rw [hd]; rfl
                            have hm0 := hvc.2
                            obtain ⟨b, off, us, rfl, hb', hl2, hno, hcs, h1c, hr⟩ := hh hm0
                            have hby : (0 + m) * ff.bytes ≤ 140737488355328 := by
                              calc (0 + m) * ff.bytes ≤ 1073741824 * 32768 := Nat.mul_le_mul (by omega) q3
                                _ ≤ 140737488355328 := by omega
                            have h63 : 0 + m ≤ maxLen := by simp only [maxLen]; omega
                            obtain ⟨v', w', hrun, hown, hlies⟩ := append_sharp (P := P) w w0.heap.size T o.type et ff zv sz ff.bytes hu q1 q4 q2 rfl hzs q7 (.slice none 0 0) 0 [] (World.ownsRow_nil w _ _ _) ⟨b, off, none⟩ m cc us hl2 (fun j uu hj => by rw [addr_add]; exact hcs j uu hj) h1c h63 hby h.frame.size hm0
                            rw [Nat.zero_add, List.nil_append] at hown
                            have hl3 : v'.ownBlock = some w.heap.size ∧ w.heap.size < w'.heap.size ∧ w.grownBy w' none := by
                              rcases hlies with ⟨h0, _⟩ | h0
                              · exact absurd rfl h0
                              · exact h0
                            obtain ⟨E', hc2⟩ := hc1.appendNil (Free.freezes hf hth.fro) (by rw [htm]; exact hlt) h1c hr hown hl3
                            have ex := val_of kx
                            refine Res.new ⟨E', w', v', append_run (v := v') ho rfl (by rw [ex, e]; exact hrun) rfl, ?_⟩
                            rw [after_put, puts_app, hdn, hd]
                            exact hc2
                    | _ => cases he
                  | _ => cases he
              | _ => cases he
theorem Con.own_lt (h : Con own0 ext w0 s E a w) (b : Nat) (hb : ownS own0 s E b) : b < w.heap.size := by
  rcases hb with hb | ⟨k, hk⟩
  · exact Nat.lt_of_lt_of_le (h.out b hb) h.frame.size
  · exact (h.new k b hk).2.1
theorem call_wp {f : FuncId} {args : List Operand} {ts : Array TypeId} {fn : Func} {c : Code} {r : Av} {u : List (Nat × Ob)} (ho : o.op = .call ⟨.value (.func f), ⟨args⟩, ts⟩) (hf : P.funcs[f]? = some fn) (hb : fn.body = some c) (hn : (fn.name == "runtime.NumGoroutine") = false) (h1 : Con own0 ext w0 (s.puts' u) E a w) (hcall : CallOk (ownS own0 (s.puts' u) E) P f (args.map a.eval) w r) : Res P own0 ext w0 s a w o r u := by
  intro K Q hK
  unfold Oper.wp
  have hr : (execOp a.eval o).run P w = .ok (.enter f (args.map a.eval).toArray) w := by
    have hn' : ¬ fn.name = "runtime.NumGoroutine" := by simpa using hn
    simp [execOp, ho, resolve, Act.eval, Deferred.ofValue, invoke, callFunc, hf, hb, hn']
  rw [hr]
  simp only [Oper.upon]
  refine Calls.mono hcall ?_
  rintro e w' ⟨v, rfl, hv, hbl⟩
  refine hK E _ _ ?_
  rw [after_put]
  exact (h1.call hbl).put o.dst (Rob.ok hv)
theorem exec_call {f : FuncId} {args : List Operand} {ts : Array TypeId} {fn : Func} {c : Code} (ho : o.op = .call ⟨.value (.func f), ⟨args⟩, ts⟩) (hf : P.funcs[f]? = some fn) (hb : fn.body = some c) (hn : (fn.name == "runtime.NumGoroutine") = false) : (execOp a.eval o).run P w = .ok (.enter f (args.map a.eval).toArray) w := by
  have hn' : ¬ fn.name = "runtime.NumGoroutine" := by simpa using hn
  simp [execOp, ho, resolve, Act.eval, Deferred.ofValue, invoke, callFunc, hf, hb, hn']
theorem call_ok (hC : CtxOk P C) (h : Con own0 ext w0 s E a w) {f : FuncId} {args : List Operand} {ts : Array TypeId} {out : OutG} (ho : o.op = .call ⟨.value (.func f), ⟨args⟩, ts⟩) (he : (aop C (dstN o.dst) (.call ⟨.value (.func f), ⟨args⟩, ts⟩)).eval s = some out) : OutOk P own0 ext w0 s a w o out := by
  simp only [aop] at he
  cases hl : look C.sp f with
  | none => rw [hl] at he; cases he
  | some sp =>
    rw [hl] at he
    simp only at he
    obtain ⟨hsp, fn, c, hf, hb, hn⟩ := hC.sp _ _ (look_mem hl)
    obtain ⟨vs, hvs, he⟩ := rdl_eval s args _ he
    unfold callAv at he
    split at he
    · rename_i k rest
      simp only [Rd.eval] at he
      cases hk : s.obj k with
      | none => rw [hk] at he; cases he
      | row => rw [hk] at he; cases he
      | froz => rw [hk] at he; cases he
      | var cs =>
        rw [hk] at he
        simp only at he
        obtain ⟨l, u, hth, he⟩ := thawl_ok (.agg cs :: rest) _ he
        split at he
        · rename_i cs1 rest1
          cases hkey : hasKey k u with
          | true => rw [hkey] at he; cases he
          | false =>
            rw [hkey] at he
            simp only at he
            cases hq : sp (.tup cs1 :: rest1) with
            | no => rw [hq] at he; cases he
            | res => rw [hq] at he; cases he
            | gh => rw [hq] at he; cases he
            | new => rw [hq] at he; cases he
            | row => rw [hq] at he; cases he
            | chg p r cs' =>
              rw [hq] at he
              simp only [Rd.eval, Option.some.injEq] at he
              subst he
              intro hp _
              cases hvs with
              | @cons x0 v0 args' rest' hx0 ht =>
              have kx := opAv_ok h hx0
              simp only [Ok] at kx
              simp at kx
              have hob := h.objs k
              rw [hk] at hob
              obtain ⟨us, T, hh, hcs⟩ := hob
              obtain ⟨hc1, _, _, _, _⟩ := h.freezes u hth.fro
              have hrob := hth.rob u (fun _ hp => hp) hth.fro h (.agg us.toArray :: args'.map a.eval) (.cons ⟨us, rfl, hcs⟩ (opAvs_ok h ht))
              have hobj : (s.puts' u).obj k = .var cs := by rw [puts_keep hkey]; exact hk
              have hown1 : Own1 E k (E.β k) ((s.puts' u).obj k) := by rw [hobj]; rfl
              cases hrob with
              | cons h1 h2 =>
              have h1' : Rob (ownS own0 (s.puts' u) E) w (.tup cs1) [.tuple us.toArray] := by
                intro w' hg
                obtain ⟨us', e, hu⟩ := h1 w' hg
                simp at e
                exact ⟨us', by rw [e], hu⟩
              have hS := hsp _ w (.tup cs1 :: rest1) (.tuple us.toArray :: args'.map a.eval) hc1.own_lt (.cons h1' h2)
              rw [hq] at hS
              have hcall := hS hp (E.β k) T us _ rfl (.inr ⟨k, hown1⟩) hh
              intro K Q hK
              unfold Oper.wp
              rw [exec_call ho hf hb hn]
              simp only [Oper.upon, List.map_cons, kx]
              refine Calls.mono hcall ?_
              rintro e w' ⟨v, us', T', rfl, hv, hh', hcs', hbut⟩
              refine hK E _ _ ?_
              rw [after_put, puts_app]
              have hlt : k < (s.puts' u).ob.length := obj_lt (by rw [hobj]; simp)
              have hsub : ∀ b, ownS own0 ⟨(s.puts' u).tm, (s.puts' u).ob.set k (.var cs')⟩ E b → ownS own0 (s.puts' u) E b := by
                rintro b (hb' | ⟨j, hj⟩)
                · exact .inl hb'
                · rw [obj_set] at hj
                  by_cases e : k = j ∧ k < (s.puts' u).ob.length
                  · rw [if_pos e] at hj
                    simp only [Own1] at hj
                    rw [← e.1] at hj
                    subst hj
                    exact .inr ⟨k, hown1⟩
                  · rw [if_neg e] at hj; exact .inr ⟨j, hj⟩
              have hc2 := hc1.change2 (k := k) (g := E.β k) (o := .var cs') (w' := w') hown1 (fun b => Iff.rfl) hbut.block hbut.size ⟨hbut.os, hbut.tape, hbut.output⟩ ⟨us', T', hh', Rob.ok hcs'⟩
              exact hc2.put o.dst ((Rob.ok hv).own fun b _ hb => hsub b hb)
        · cases he
    · obtain ⟨vs', u, hth, he⟩ := thawl_ok vs _ he
      obtain ⟨hc1, _, _, _, _⟩ := h.freezes u hth.fro
      have hrob := hth.rob u (fun _ hp => hp) hth.fro h _ (opAvs_ok h hvs)
      have hS := hsp _ w vs' _ hc1.own_lt hrob
      cases hq : sp vs' with
      | no => rw [hq] at he; cases he
      | chg => rw [hq] at he; cases he
      | res p r =>
        rw [hq] at he hS
        simp only [Rd.eval, Option.some.injEq] at he
        subst he
        intro hp _
        exact call_wp ho hf hb hn hc1 (hS hp)
      | gh G p r =>
        rw [hq] at he hS
        simp only [Rd.eval, Option.some.injEq] at he
        subst he
        intro g hp
        exact call_wp ho hf hb hn hc1 (hS g hp)
      | new p cs =>
        rw [hq] at he hS
        simp only [Rd.eval, Option.some.injEq] at he
        subst he
        intro hp hnw
        obtain ⟨d, hd, hfree0, hlt, hz0⟩ := hnw rfl
        have hfree := hfree0.strict (by rw [ho]; rfl)
        intro K Q hK
        unfold Oper.wp
        rw [exec_call ho hf hb hn]
        simp only [Oper.upon]
        refine Calls.mono (hS hp) ?_
        rintro e w' ⟨b, us, T, rfl, hb1, hb2, hh, hr, hbl⟩
        refine hK ⟨fun i => if i = d then b else E.β i, E.σ⟩ _ _ ?_
        rw [hd, after_put, puts_app]
        simp only [dstN]
        refine hc1.newBlock (d := d) (o := .var cs) (v := .ptr d 0) ((Free.freezes hfree hth.fro).o true) (by rw [puts_tm]; exact hlt) (fun i hi => ⟨if_neg hi, rfl⟩) (fun c hc => if_neg (hz0 c hc).symm) hbl (fun c hc => ?_) (fun _ => ⟨us, T, ?_, ?_⟩) ?_
        · simp only [Own1, ↓reduceIte] at hc
          subst hc; exact ⟨hb1, hb2⟩
        · simp only [↓reduceIte]; exact hh
        · refine (Rob.ok hr).own fun c _ hc => ?_
          rcases hc with hc | ⟨j, hj⟩
          · exact .inl (.inl hc)
          · rw [obj_set] at hj
            by_cases e : d = j ∧ d < (s.puts' u).ob.length
            · rw [if_pos e, ← e.1] at hj
              simp only [Own1, ↓reduceIte] at hj
              exact .inr hj
            · rw [if_neg e] at hj
              by_cases e2 : d = j
              · have : (s.puts' u).obj j = .none := by
                  have hol : (s.puts' u).ob.length = s.tm.length := by rw [hc1.olen, puts_tm]
                  have : ¬ j < (s.puts' u).ob.length := fun hl => e ⟨e2, by rw [e2]; exact hl⟩
                  simp [St.obj, List.getD_eq_getElem?_getD, List.getElem?_eq_none_iff.2 (Nat.le_of_not_lt this)]
                exact absurd hj (by show ¬ Own1 _ j c ((s.puts' u).obj j); rw [this]; exact id)
              · exact .inl (.inr ⟨j, (Own1.env (E := E) (E' := ⟨fun i => if i = d then b else E.β i, E.σ⟩) ⟨if_neg fun (e : j = d) => e2 e.symm, rfl⟩).1 hj⟩)
        · simp only [Ok, ↓reduceIte]
      | row p T sz n g rest =>
        rw [hq] at he hS
        simp only [Rd.eval, Option.some.injEq] at he
        subst he
        intro hp hnw
        obtain ⟨d, hd, hfree0, hlt, hz0⟩ := hnw rfl
        have hfree := hfree0.strict (by rw [ho]; rfl)
        intro K Q hK
        unfold Oper.wp
        rw [exec_call ho hf hb hn]
        simp only [Oper.upon]
        refine Calls.mono (hS hp) ?_
        rintro e w' ⟨σ, us, ys, rfl, h1, hb12, hrow, hy1, hyr, hr, hbl⟩
        refine hK ⟨E.β, fun i => if i = d then σ else E.σ i⟩ _ _ ?_
        rw [hd, after_put, puts_app]
        simp only [dstN]
        have hsub : ∀ c, c < w'.heap.size → ownS own0 ⟨(s.puts' u).tm, (s.puts' u).ob.set d (.row T sz n g)⟩ ⟨E.β, fun i => if i = d then σ else E.σ i⟩ c → ownS own0 (s.puts' u) E c ∨ σ.ownBlock = some c := by
          intro c _ hc
          rcases hc with hc | ⟨j, hj⟩
          · exact .inl (.inl hc)
          · rw [obj_set] at hj
            by_cases e : d = j ∧ d < (s.puts' u).ob.length
            · rw [if_pos e, ← e.1] at hj
              simp only [Own1, ↓reduceIte] at hj
              exact .inr hj
            · rw [if_neg e] at hj
              by_cases e2 : d = j
              · have : (s.puts' u).obj j = .none := by
                  have hol : (s.puts' u).ob.length = s.tm.length := by rw [hc1.olen, puts_tm]
                  have : ¬ j < (s.puts' u).ob.length := fun hl => e ⟨e2, by rw [e2]; exact hl⟩
                  simp [St.obj, List.getD_eq_getElem?_getD, List.getElem?_eq_none_iff.2 (Nat.le_of_not_lt this)]
                exact absurd hj (by show ¬ Own1 _ j c ((s.puts' u).obj j); rw [this]; exact id)
              · exact .inl (.inr ⟨j, (Own1.env (E := E) (E' := ⟨E.β, fun i => if i = d then σ else E.σ i⟩) ⟨rfl, if_neg fun (e : j = d) => e2 e.symm⟩).1 hj⟩)
        refine hc1.newBlock (d := d) (o := .row T sz n g) (v := .agg (.cons (.row d) rest)) ((Free.freezes hfree hth.fro).o true) (by rw [puts_tm]; exact hlt) (fun i hi => ⟨rfl, if_neg hi⟩) (fun _ _ => rfl) hbl (fun c hc => ?_) (fun _ => ?_) ?_
        · simp only [Own1, ↓reduceIte] at hc
          exact hb12 c hc
        · refine ⟨ys, ?_, hy1, fun i hi => (hyr i hi).own hsub⟩
          simp only [↓reduceIte]
          obtain ⟨q1, q2⟩ := hrow
          refine ⟨q1, ?_⟩
          rcases q2 with q2 | ⟨g', cap, cur, q3, q4, q5⟩
          · exact .inl q2
          · exact .inr ⟨g', cap, cur, q3, Nat.le_trans h.frame.size q4, q5⟩
        · refine ⟨σ :: us, rfl, [σ], us, rfl, ?_, (Rob.ok hr).own hsub⟩
          simp only [Ok, ↓reduceIte]
          exact ⟨trivial, h1⟩
theorem aop_ok (hC : CtxOk P C) (h : Con own0 ext w0 s E a w) {out : OutG} (he : (aop C (dstN o.dst) o.op).eval s = some out) : OutOk P own0 ext w0 s a w o out := by
  generalize hop : o.op = op at he
  cases op with
  | move x => exact move_ok h (.inl hop) he
  | assign x => exact move_ok h (.inr hop) he
  | pick c x y => exact pick_ok h hop he
  | alloc T => exact alloc_ok hC h hop he
  | box T x => exact box_ok h hop he
  | build T ps => exact build_ok hC h hop he
  | buildSlice T n ps => exact buildSlice_ok hC h hop he
  | load T x => exact load_ok hC h hop he
  | store T x y => exact store_ok hC h hop he
  | nilCheck x => exact nilCheck_ok h hop he
  | binOp op T x y T' => exact binOp_ok hC h hop he
  | unOp op T x => exact unOp_ok h hop he
  | convert S T x => exact convert_ok hC h hop he
  | makeSlice T x y => exact makeSlice_ok hC h hop he
  | slice T x lo hi mx =>
    cases mx with
    | none => exact slice_ok hC h hop he
    | some _ => cases he
  | fieldAddr T x i => exact fieldAddr_ok hC h hop he
  | field T x i => exact field_ok hC h hop he
  | indexAddr T x i => exact index_ok hC h hop he
  | extract x i => exact extract_ok h hop he
  | call c =>
    obtain ⟨cal, ⟨args⟩, ⟨ts⟩⟩ := c
    cases cal with
    | builtin b =>
      cases b with
      | len => exact len_ok hC h hop he
      | append => exact append_ok hC h hop he
      | copy => exact copy_ok hC h hop he
      | _ => cases he
    | value f =>
      cases f with
      | func f => exact call_ok hC h hop he
      | _ => cases he
    | invoke => cases he
  | _ => cases he
end

end Go.Vx
