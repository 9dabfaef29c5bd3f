/- The program's head as a list of words: closed facts on it are then cheap for the kernel. -/
import Derived.Test.YtaeidephegnkdaaRows
import Derived.JoinedOf
import Derived.KernelRfl
namespace Go.Proofs.Ytaeidephegnkdaa

def headWords : List (List Nat) := [[104, 97, 114, 110, 101, 115, 115],
  [50, 53, 54, 54, 48, 55, 97, 97, 53, 98, 99, 54, 55, 55, 99, 52, 97, 100, 98, 101, 53, 101, 98, 54, 54, 99, 57, 49, 51, 99, 54, 52, 52, 98, 102, 99, 57, 98, 52, 101, 101, 53, 99, 56, 97, 57, 52, 56, 102, 55, 49, 56, 50, 50, 102, 102, 54, 55, 57, 50, 102, 54, 53, 102],
  [99, 117, 116],
  [97, 116],
  [103, 114, 105, 100, 109, 97, 114, 107, 101, 116, 47, 103, 114, 105, 100, 109, 97, 114, 107, 101, 116, 108, 97, 119, 48, 53, 46, 65, 112, 112, 114, 111, 120, 83, 105, 109, 112, 108, 101, 114],
  [103, 114, 105, 100, 109, 97, 114, 107, 101, 116, 47, 103, 114, 105, 100, 109, 97, 114, 107, 101, 116, 108, 97, 119, 48, 53, 46, 65, 112, 112, 114, 111, 120, 69, 110, 99, 108, 111, 115, 101],
  [103, 114, 105, 100, 109, 97, 114, 107, 101, 116, 47, 103, 114, 105, 100, 109, 97, 114, 107, 101, 116, 108, 97, 119, 48, 51, 46, 82, 97, 116, 105, 111, 110, 97, 108, 75, 101, 101, 112, 115],
  [103, 114, 105, 100, 109, 97, 114, 107, 101, 116, 47, 103, 114, 105, 100, 109, 97, 114, 107, 101, 116, 108, 97, 119, 48, 51, 46, 82, 97, 116, 105, 111, 110, 97, 108, 82, 111, 117, 110, 100, 115]]
def joinN : List (List Nat) → List Nat
  | [] => []
  | [w] => w
  | w :: ws => w ++ 32 :: joinN ws
theorem words_one (w : List Nat) (h : w.all (fun n => n != 32 && n < 128) = true) : wordsSigns (w.map Char.ofNat) = [w.map Char.ofNat] := by
  induction w with
  | nil => rfl
  | cons c w ih =>
    simp only [List.all_cons, Bool.and_eq_true] at h
    have e := ih h.2
    have hc : Char.ofNat c ≠ Char.ofNat 32 := by
      intro he
      have h1 : c < 128 := by simpa using h.1.2
      have h2 : c ≠ 32 := by simpa using h.1.1
      have h3 : (Char.ofNat c).toNat = (Char.ofNat 32).toNat := by rw [he]
      have h4 : (Char.ofNat c).toNat = c := by
        unfold Char.ofNat
        rw [dif_pos (Or.inl (by omega))]
        simp only [Char.ofNatAux, Char.toNat]
        show (BitVec.ofNatLT c _).toNat = c
        rfl
      rw [h4] at h3
      exact h2 h3
    show wordsSigns (Char.ofNat c :: w.map Char.ofNat) = _
    rw [wordsSigns, e]
    · rfl
    · exact hc
theorem words_step (w : List Nat) (r : List Char) (h : w.all (fun n => n != 32 && n < 128) = true) : wordsSigns (w.map Char.ofNat ++ Char.ofNat 32 :: r) = w.map Char.ofNat :: wordsSigns r := by
  induction w with
  | nil => rfl
  | cons c w ih =>
    simp only [List.all_cons, Bool.and_eq_true] at h
    have e := ih h.2
    have hc : Char.ofNat c ≠ Char.ofNat 32 := by
      intro he
      have h1 : c < 128 := by simpa using h.1.2
      have h2 : c ≠ 32 := by simpa using h.1.1
      have h3 : (Char.ofNat c).toNat = (Char.ofNat 32).toNat := by rw [he]
      have h4 : (Char.ofNat c).toNat = c := by
        unfold Char.ofNat
        rw [dif_pos (Or.inl (by omega))]
        simp only [Char.ofNatAux, Char.toNat]
        show (BitVec.ofNatLT c _).toNat = c
        rfl
      rw [h4] at h3
      exact h2 h3
    show wordsSigns (Char.ofNat c :: (w.map Char.ofNat ++ Char.ofNat 32 :: r)) = _
    rw [wordsSigns, e]
    · rfl
    · exact hc
theorem words_join : ∀ ws : List (List Nat), ws ≠ [] → ws.all (fun w => w.all (fun n => n != 32 && n < 128)) = true → wordsSigns ((joinN ws).map Char.ofNat) = ws.map (·.map Char.ofNat)
  | [], h, _ => absurd rfl h
  | [w], _, h => by
    simp only [List.all_cons, Bool.and_eq_true] at h
    exact words_one w h.1
  | w :: x :: ws, _, h => by
    simp only [List.all_cons, Bool.and_eq_true] at h
    have e := words_join (x :: ws) (by simp) (by simp only [List.all_cons, Bool.and_eq_true]; exact h.2)
    show wordsSigns ((w ++ 32 :: joinN (x :: ws)).map Char.ofNat) = _
    rw [List.map_append, List.map_cons, words_step _ _ h.1, e]
    rfl
theorem head_eq : Try.prog.initOrder = String.ofList ((joinN headWords).map Char.ofNat) := by kernel_rfl
theorem head_words : wordsSigns Try.prog.initOrder.toList = headWords.map (·.map Char.ofNat) := by
  rw [head_eq, String.toList_ofList]
  exact words_join headWords (by unfold headWords; simp) (by decide +kernel)
theorem head_rest : behindMainWord (wordsSigns Try.prog.initOrder.toList) = (headWords.drop 2).map (·.map Char.ofNat) := by
  rw [head_words]
  kernel_rfl
theorem mayEnter_of (P : Program) (c : List Char) (rest : List (List Char)) (h : behindMainWord (wordsSigns P.initOrder.toList) = c :: rest) (h1 : stripLifts liftWords (c :: rest) = ([], c :: rest)) (h2 : ((c :: rest).head? == some "cut".toList) = true)
    (h3 : P.laysLater = false) (h4 : P.bearsReflect = false) (h5 : P.doorFits [] = true) : P.mayEnter = true := by
  unfold Program.mayEnter
  rw [h]
  simp only [h1, h2, h3, h4, h5]
  simp
theorem make_of (P : Program) (c : List Char) (rest : List (List Char)) (h : behindMainWord (wordsSigns P.initOrder.toList) = c :: rest) (h1 : (c == "gc".toList || c == "spec".toList) = false) (h2 : (c == "cut".toList) = true) : P.make = some .cut := by
  unfold Program.make
  rw [h]
  simp only [h1, h2]
  simp
theorem lifts_of (P : Program) (c : List Char) (rest : List (List Char)) (h : behindMainWord (wordsSigns P.initOrder.toList) = c :: rest) (h1 : stripLifts liftWords (c :: rest) = ([], c :: rest)) (h2 : ((c :: rest).head? == some "carried".toList) = false) : P.liftsFinal = false := by
  unfold Program.liftsFinal Program.headLifts
  rw [h]
  simp only [h1, h2]
  simp
def restSigns : List (List Char) := ((headWords.drop 2).drop 1).map (·.map Char.ofNat)
def cutSigns : List Char := [Char.ofNat 99, Char.ofNat 117, Char.ofNat 116]
theorem head_cut : behindMainWord (wordsSigns Try.prog.initOrder.toList) = cutSigns :: restSigns := by rw [head_rest]; kernel_rfl
theorem strip_ : stripLifts liftWords (cutSigns :: restSigns) = ([], cutSigns :: restSigns) := by kernel_rfl
theorem mayEnter_ : Try.prog.mayEnter = true := mayEnter_of _ _ _ head_cut strip_ (by kernel_rfl) (by kernel_rfl) (by kernel_rfl) (by kernel_rfl)
theorem lifts_ : Try.prog.liftsFinal = false := lifts_of _ _ _ head_cut strip_ (by kernel_rfl)
theorem make_ : Try.prog.make = some .cut := make_of _ _ _ head_cut (by kernel_rfl) (by kernel_rfl)
theorem andT {a b : Bool} (h : a = true) (k : b = true) : (a && b) = true := by rw [h, k]; rfl
end Go.Proofs.Ytaeidephegnkdaa
