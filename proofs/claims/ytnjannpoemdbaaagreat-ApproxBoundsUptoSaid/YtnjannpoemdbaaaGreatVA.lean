/- A symbolic executor of the program: what is known of values, the condition awp, and what the words mean in memory. -/
import Derived.Calls
import Derived.Orders
import Derived.Test.YtnjannpoemdbaaaGreatMV
import Derived.Maps.AppendAt
namespace Go.Vx
open Go Go.RowKit Go.Proofs.YtnjannpoemdbaaaGreat Gm

/-- what is known of a value, or of a row of cells -/
inductive Av where
  | any
  | kb (b : Bool)
  | val (v : Value)
  | nat (m K : Nat)
  | natC (m K : Nat)
  | int (n : Int) (K : Nat)
  | intC (n : Int) (K : Nat)
  | rat (q : Rat) (K : Nat)
  | ratC (q : Rat) (K : Nat)
  | list (sz n : Nat) (f : Nat → Av)
  | pp (cs : Av)
  | agg (cs : Av)
  | tup (cs : Av)
  | ptr (k off : Nat)
  | rptr (k sz j off : Nat)
  | row (k : Nat)
  | nil
  | cons (a b : Av)
/-- a block of the function's own -/
inductive Ob where
  | none
  | var (cs : Av)
  | row (E sz n : Nat) (f : Nat → Av)
  | froz (sz n : Nat) (f : Nat → Av)
structure St where
  tm : List Av
  ob : List Ob

def Av.app {R : Type} (k : Av → R) : Av → Av → R
  | .nil, b => k b
  | .cons a l, b => l.app (fun x => k (.cons a x)) b
  | a, b => k (.cons a b)
/-- the first n cells, and the others -/
def Av.split {R : Type} (no : R) : Nat → Nat → Av → (Av → Av → R) → R
  | 0, _, _, _ => no
  | _ + 1, 0, l, k => k .nil l
  | fu + 1, n + 1, .cons a l, k => match a with
    | .intC z K => match n with
      | 0 => Av.split no fu 1 (.cons (.val (.bool (decide (z < 0)))) (.cons (.natC z.natAbs K) l)) k
      | n + 1 => Av.split no fu n l fun x y => k (.cons (.intC z K) x) y
    | .ratC q K => match n with
      | 0 => Av.split no fu 1 (.cons (.val (.bool (decide (q.num < 0)))) (.cons (.natC q.num.natAbs K) (.cons (.natC q.den K) l))) k
      | 1 => Av.split no fu 2 (.cons (.intC q.num K) (.cons (.natC q.den K) l)) k
      | n + 2 => Av.split no fu n l fun x y => k (.cons (.ratC q K) x) y
    | .int z K => match n with
      | 0 => no
      | n + 1 => Av.split no fu n l fun x y => k (.cons (.int z K) x) y
    | .rat z K => match n with
      | n + 2 => Av.split no fu n l fun x y => k (.cons (.rat z K) x) y
      | _ => no
    | .nil => no
    | .cons _ _ => no
    | a => Av.split no fu n l fun x y => k (.cons a x) y
  | _, _, _, _ => no
/-- the blocks of the function's own that a value names, as bits (ahead: m) -/
def Av.ids {R : Type} (k : Nat → R) : Av → Nat → R
  | .ptr i _, m => k (Nat.lor m (Nat.shiftLeft 1 i))
  | .rptr i _ _ _, m => k (Nat.lor m (Nat.shiftLeft 1 i))
  | .row i, m => k (Nat.lor m (Nat.shiftLeft 1 i))
  | .agg c, m => c.ids k m
  | .tup c, m => c.ids k m
  | .cons a b, m => a.ids (fun m => b.ids k m) m
  | _, m => k m
def Ob.ids {R : Type} (k : Nat → R) : Ob → Nat → R
  | .var cs, m => cs.ids k m
  | _, m => k m
/-- the number of cells (ahead: m) -/
def Av.szK {R : Type} (k : Nat → R) : Av → Nat → R
  | .int _ _, m => k (m + 2)
  | .intC _ _, m => k (m + 2)
  | .rat _ _, m => k (m + 3)
  | .ratC _ _, m => k (m + 3)
  | .nil, m => k m
  | .cons a b, m => a.szK (fun m => b.szK k m) m
  | _, m => k (m + 1)
def Av.hasSz {R : Type} (n : Nat) (no yes : R) (v : Av) : R := v.szK (fun m => match Nat.beq m n with
  | true => yes
  | false => no) 0
/-- each cell holds a value of one cell -/
def Av.flat : Av → Bool
  | .any => false
  | .val v => match v with
    | .bool _ => true
    | .int _ _ => true
    | .slice _ _ _ => true
    | .string _ => true
    | .pointer _ => true
    | _ => false
  | .agg _ => false
  | .tup _ => false
  | .cons a b => match a.flat with
    | true => b.flat
    | false => false
  | _ => true

/-- what a type is -/
structure TI where
  agg : Bool
  size : Nat
  zero : List Value
  fields : List (Nat × Nat)
  elem : Option Nat
  ik : Option IntKind
  isB : Bool
/-- what a call comes to: a condition and a result; or one that a ghost chooses -/
inductive SRes : Type 1 where
  | no
  | res (p : Option Prop) (r : Av)
  | gh (G : Type) (p : G → Prop) (r : G → Av)
  | chg (p : Option Prop) (r cs : Av)
  | new (p : Option Prop) (cs : Av)
  | row (p : Option Prop) (T sz n : Nat) (f : Nat → Av) (rest : Av)
abbrev Spec := List Av → SRes
structure Ctx where
  tt : List (Nat × TI)
  sp : List (Nat × Spec)
def look.{u} {α : Type u} : List (Nat × α) → Nat → Option α
  | [], _ => none
  | (k, a) :: l, n => match Nat.beq k n with
    | true => some a
    | false => look l n

inductive Rd (α : Type 1) : Type 1 where
  | ret (a : α)
  | fail
  | slot (t : Nat) (k : Av → Rd α)
  | obj (i : Nat) (k : Ob → Rd α)
structure Out where
  dst : Av
  objs : List (Nat × Ob)
  new : Bool
  vc : Option Prop
inductive OutG : Type 1 where
  | mk (o : Out)
  | gh (G : Type) (u : List (Nat × Ob)) (p : G → Prop) (r : G → Av)
def zerosK.{u} {R : Type u} : List Value → (Av → R) → R
  | [], k => k .nil
  | v :: l, k => match v with
    | .bool b => zerosK l fun r => k (.cons (.kb b) r)
    | v => zerosK l fun r => k (.cons (.val v) r)
def rd {α : Type 1} : Operand → (Av → Rd α) → Rd α
  | .tmp t, k => .slot t k
  | .const v, k => match v with
    | .bool b => k (.kb b)
    | .agg _ => .fail
    | v => k (.val v)
  | _, _ => .fail
def rdl {α : Type 1} : List Operand → (List Av → Rd α) → Rd α
  | [], k => k []
  | x :: l, k => rd x fun v => rdl l fun vs => k (v :: vs)
def one (v : Av) : Rd OutG := .ret (.mk ⟨v, [], false, none⟩)
def oneIf (p : Prop) (v : Av) : Rd OutG := .ret (.mk ⟨v, [], false, some p⟩)
/-- rows become lists that change no more -/
def thaw {α : Type 1} : Av → (Av → List (Nat × Ob) → Rd α) → Rd α
  | .row k, c => .obj k fun
    | .row _ sz n f => c (.list sz n f) [(k, .froz sz n f)]
    | .froz sz n f => c (.list sz n f) []
    | _ => .fail
  | .agg cs, c => thaw cs fun cs u => c (.agg cs) u
  | .cons a b, c => thaw a fun a u => thaw b fun b u' => c (.cons a b) (u ++ u')
  | .ptr _ _, _ => .fail
  | .rptr _ _ _ _, _ => .fail
  | .tup _, _ => .fail
  | v, c => c v []
def thawl {α : Type 1} : List Av → (List Av → List (Nat × Ob) → Rd α) → Rd α
  | [], c => c [] []
  | v :: l, c => thaw v fun v u => thawl l fun l u' => c (v :: l) (u ++ u')
/-- a value as a row of cells -/
def cellsK.{u} {R : Type u} (k : Av → R) : Av → R
  | .agg cs => k cs
  | v => k (.cons v .nil)
def cellsl.{u} {R : Type u} : List Av → (List Av → R) → R
  | [], k => k []
  | v :: l, k => cellsK (fun c => cellsl l fun cs => k (c :: cs)) v
def valOf (vc : Option Prop) (agg : Bool) (cs : Av) : Rd OutG :=
  match agg with
  | true => .ret (.mk ⟨.agg cs, [], false, vc⟩)
  | false => match cs with
    | .cons a .nil => .ret (.mk ⟨a, [], false, vc⟩)
    | _ => .fail
def arith (op : BinOp) (k : IntKind) (a b : Int) : Rd OutG :=
  match op with
  | .add => one (.val (.int k (k.wrap (a + b))))
  | .sub => one (.val (.int k (k.wrap (a - b))))
  | .mul => one (.val (.int k (k.wrap (a * b))))
  | .quo => oneIf (b ≠ 0) (.val (.int k (k.wrap (a.tdiv b))))
  | .rem => oneIf (b ≠ 0) (.val (.int k (a.tmod b)))
  | .eql => one (.val (.bool (a == b)))
  | .neq => one (.val (.bool (a != b)))
  | .lss => one (.val (.bool (a < b)))
  | .leq => one (.val (.bool (a ≤ b)))
  | .gtr => one (.val (.bool (a > b)))
  | .geq => one (.val (.bool (a ≥ b)))
  | _ => .fail
def kindEq : IntKind → IntKind → Bool
  | .i8, .i8 => true | .i16, .i16 => true | .i32, .i32 => true | .i64, .i64 => true
  | .u8, .u8 => true | .u16, .u16 => true | .u32, .u32 => true | .u64, .u64 => true
  | _, _ => false
def asBool : Av → Option Bool
  | .kb b => some b
  | .val (.bool b) => some b
  | _ => none
def binAv (op : BinOp) (x y : Av) : Rd OutG :=
  match x with
  | .val (.int k a) => match y with
    | .val (.int k' b) => match kindEq k k' with
      | true => arith op k a b
      | false => .fail
    | _ => .fail
  | _ => .fail
def nth.{u} {α : Type u} : List α → Nat → Option α
  | [], _ => none
  | o :: _, 0 => some o
  | _ :: l, n + 1 => nth l n
/-- put the cells c in the place of n cells at off -/
def Av.splice {R : Type} (no : R) (off n : Nat) (cs c : Av) (k : Av → R) : R :=
  Av.split no 64 off cs fun p q => Av.split no 64 n q fun _ r => Av.hasSz n no (Av.app (fun m => Av.app k p m) c r) c
def Av.mid {R : Type} (no : R) (off n : Nat) (cs : Av) (k : Av → R) : R :=
  Av.split no 64 off cs fun _ q => Av.split no 64 n q fun x _ => k x
def fillp (fs : List (Nat × Nat)) : List (Nat × Operand) → Av → Rd OutG
  | [], cs => one (.agg cs)
  | (i, x) :: ps, cs => match nth fs i with
    | some (off, sz) => rd x fun v => cellsK (fun c => match c.flat with
      | true => match Av.splice none off sz cs c some with
        | some l => fillp fs ps l
        | none => .fail
      | false => .fail) v
    | none => .fail
def nthp (z : Av) : List Av → Nat → Av
  | [], _ => z
  | a :: _, 0 => a
  | _ :: l, n + 1 => nthp z l n
def sizesOk (n : Nat) : List Av → Bool
  | [] => true
  | a :: l => match a.flat with
    | true => a.hasSz n false (sizesOk n l)
    | false => false
def lenAv : Av → Rd OutG
  | .list _ n _ => one (.val (.int .i64 n))
  | .row k => .obj k fun
    | .row _ _ n _ => one (.val (.int .i64 n))
    | .froz _ n _ => one (.val (.int .i64 n))
    | _ => .fail
  | .val (.slice _ n _) => one (.val (.int .i64 n))
  | .natC m _ => one (.val (.int .i64 (limbs m).length))
  | _ => .fail
/-- the parts of a composite stand in order -/
def inOrder : Nat → List (Nat × Operand) → Nat → Bool
  | n, [], m => Nat.beq n m
  | n, (i, _) :: l, m => match Nat.beq i n with
    | true => inOrder (n + 1) l m
    | false => false
def seconds : List (Nat × Operand) → List Operand
  | [] => []
  | (_, x) :: l => x :: seconds l
def rdo {α : Type 1} (d : Av) : Option Operand → (Av → Rd α) → Rd α
  | none, k => k d
  | some x, k => rd x k
def okR : Bool → Option Av → Bool
  | true, some _ => true
  | false, some (.cons _ .nil) => true
  | _, _ => false
def valR : Bool → Option Av → Av
  | true, some x => .agg x
  | false, some (.cons a .nil) => a
  | _, _ => .any
/-- a load; of an element's part: which element it is may be said (a choice) -/
def loadAv (ag : Bool) (sz : Nat) : Av → Rd OutG
  | .pp cs => match Av.mid none 0 sz cs some with
    | some x => valOf none ag x
    | none => .fail
  | .ptr k off => .obj k fun
    | .var cs => match Av.mid none off sz cs some with
      | some x => valOf none ag x
      | none => .fail
    | _ => .fail
  | .rptr k s j off => match Nat.beq s 0 with
    | true => .fail
    | false => .obj k fun
      | .row _ s' n f => match Nat.beq s s' with
        | true => match Nat.beq sz s with
          | true => match Av.mid none off sz (f j) some with
            | some x => valOf (some (j < n)) ag x
            | none => .fail
          | false => .ret (.gh Av [] (fun c => c = f j ∧ j < n ∧ okR ag (Av.mid none off sz c some) = true) (fun c => valR ag (Av.mid none off sz c some)))
        | false => .fail
      | _ => .fail
  | _ => .fail
def hasKey (k : Nat) : List (Nat × Ob) → Bool
  | [] => false
  | (i, _) :: l => match Nat.beq k i with
    | true => true
    | false => hasKey k l
/-- put the cells c into a row's element; a whole element need not be looked at -/
def spliceRow (s off sz : Nat) (cs c : Av) : Option Av := match Nat.beq off 0 with
  | true => match Nat.beq sz s with
    | true => c.hasSz sz none (Av.app some c .nil)
    | false => Av.splice none off sz cs c some
  | false => Av.splice none off sz cs c some
def storeAv (sz : Nat) (v : Av) : Av → Rd OutG
  | .ptr k off => .obj k fun
    | .var cs => cellsK (fun c => match c.flat with
      | true => match Av.splice none off sz cs c some with
        | some l => .ret (.mk ⟨.any, [(k, .var l)], false, none⟩)
        | none => .fail
      | false => .fail) v
    | _ => .fail
  | .rptr k s j off => match Nat.beq s 0 with
    | true => .fail
    | false => .obj k fun
      | .row E s' n f => match Nat.beq s s' with
        | true => thaw v fun v u => match hasKey k u with
          | false => cellsK (fun c => match c.flat with
            | true => match spliceRow s off sz (f j) c with
              | some l => .ret (.mk ⟨.any, u ++ [(k, .row E s n (fun h => if h = j then l else f h))], false, some (j < n)⟩)
              | none => .fail
            | false => .fail) v
          | true => .fail
        | false => .fail
      | _ => .fail
  | _ => .fail
/-- a limb of a canonical number -/
def limbAv (m i : Nat) : Av := .cons (.val (.int .u32 ((limbs m)[i]?.getD 0 : Nat))) .nil
def indexAv (sz : Nat) (j : Int) : Av → Rd OutG
  | .list sz' n f => match Nat.beq sz sz' with
    | true => oneIf (0 ≤ j ∧ j < n) (.pp (f j.toNat))
    | false => .fail
  | .natC m _ => match Nat.beq sz 1 with
    | true => oneIf (0 ≤ j ∧ j < (limbs m).length) (.pp (limbAv m j.toNat))
    | false => .fail
  | .row k => .obj k fun
    | .row _ sz' n _ => match Nat.beq sz sz' with
      | true => match Nat.beq sz 0 with
        | true => .fail
        | false => oneIf (0 ≤ j ∧ j < n) (.rptr k sz j.toNat 0)
      | false => .fail
    | .froz sz' n f => match Nat.beq sz sz' with
      | true => oneIf (0 ≤ j ∧ j < n) (.pp (f j.toNat))
      | false => .fail
    | _ => .fail
  | _ => .fail
def appendAv (dst E sz : Nat) (x y : Av) : Rd OutG :=
  thaw y fun y u => match y with
    | .list sz' m g => match Nat.beq sz sz' with
      | true => match x with
        | .row k => match hasKey k u with
          | false => .obj k fun
            | .row E' sz'' n f => match Nat.beq E E', Nat.beq sz sz'' with
              | true, true => .ret (.mk ⟨.row dst, u ++ [(k, .none), (dst, .row E sz (n + m) (fun i => if i < n then f i else g (i - n)))], true, some (n + m ≤ 1073741824)⟩)
              | _, _ => .fail
            | _ => .fail
          | true => .fail
        | .val (.slice none 0 0) => .ret (.mk ⟨.row dst, u ++ [(dst, .row E sz m g)], true, some (m ≤ 1073741824 ∧ 0 < m)⟩)
        | _ => .fail
      | false => .fail
    | _ => .fail
/-- copy into a row of our own, from its element j on -/
def copyAv (sz : Nat) (x y : Av) : Rd OutG :=
  thaw y fun y u => match y with
    | .list sz' m g => match Nat.beq sz sz' with
      | true => match x with
        | .row k => match hasKey k u with
          | false => .obj k fun
            | .row E sz'' n f => match Nat.beq sz sz'' with
              | true => .ret (.mk ⟨.val (.int .i64 ((min m n : Nat) : Int)), u ++ [(k, .row E sz n (fun i => if i < min m n then g i else f i))], false, none⟩)
              | false => .fail
            | _ => .fail
          | true => .fail
        | .rptr k z j z' => match Nat.beq z 0 with
          | true => match hasKey k u with
            | false => .obj k fun
              | .row E sz'' n f => match Nat.beq sz sz'', Nat.beq sz z' with
                | true, true => .ret (.mk ⟨.val (.int .i64 ((min m (n - j) : Nat) : Int)), u ++ [(k, .row E sz n (fun i => if j ≤ i ∧ i < j + min m (n - j) then g (i - j) else f i))], false, some (j ≤ n)⟩)
                | _, _ => .fail
              | _ => .fail
            | true => .fail
          | false => .fail
        | _ => .fail
      | false => .fail
    | _ => .fail
def callAv (dst : Nat) (sp : Spec) (vs : List Av) : Rd OutG :=
  match vs with
  | .ptr k 0 :: rest => .obj k fun
    | .var cs => thawl (.agg cs :: rest) fun l u => match l with
      | .agg cs :: rest => match hasKey k u with
        | false => match sp (.tup cs :: rest) with
          | .chg p r cs' => .ret (.mk ⟨r, u ++ [(k, .var cs')], false, p⟩)
          | _ => .fail
        | true => .fail
      | _ => .fail
    | _ => .fail
  | vs => thawl vs fun vs u => match sp vs with
    | .res p r => .ret (.mk ⟨r, u, false, p⟩)
    | .gh G p r => .ret (.gh G u p r)
    | .new p cs => .ret (.mk ⟨.ptr dst 0, u ++ [(dst, .var cs)], true, p⟩)
    | .row p T sz n f rest => .ret (.mk ⟨.agg (.cons (.row dst) rest), u ++ [(dst, .row T sz n f)], true, p⟩)
    | _ => .fail
/-- the type of a slice's elements -/
def elemTI (C : Ctx) (T : Nat) : Option (Nat × TI) := match look C.tt T with
  | none => none
  | some i => match i.elem with
    | none => none
    | some E => match look C.tt E with
      | none => none
      | some e => some (E, e)
def aop (C : Ctx) (dst : Nat) : Op → Rd OutG
  | .move x => rd x one
  | .assign x => rd x one
  | .pick c a b => rd c fun
    | .kb true => rd a one
    | .kb false => rd b one
    | _ => .fail
  | .alloc T => match look C.tt T with
    | some ⟨_, _, z, _, _, _, _⟩ => zerosK z fun l => .ret (.mk ⟨.ptr dst 0, [(dst, .var l)], true, none⟩)
    | none => .fail
  | .box T x => match look C.tt T with
    | some _ => rd x fun v => cellsK (fun l => match l.flat with
      | true => .ret (.mk ⟨.ptr dst 0, [(dst, .var l)], true, none⟩)
      | false => .fail) v
    | none => .fail
  | .build T ps => match look C.tt T with
    | some ⟨true, _, z, fs, _, _, _⟩ => match ps with
      | ⟨ps⟩ => zerosK z fun l => fillp fs ps l
    | _ => .fail
  | .buildSlice T n ps => match elemTI C T with
    | some (E, ⟨_, sz, _, _, _, _, _⟩) => match ps with
      | ⟨ps⟩ => match inOrder 0 ps n, Nat.ble (n * sz) 16777216 with
        | true, true => rdl (seconds ps) fun vs => thawl vs fun vs u => cellsl vs fun cs => match sizesOk sz cs with
          | true => .ret (.mk ⟨.row dst, u ++ [(dst, .row E sz n (nthp .nil cs))], true, none⟩)
          | false => .fail
        | _, _ => .fail
    | none => .fail
  | .load T a => match look C.tt T with
    | some ⟨ag, sz, _, _, _, _, _⟩ => rd a (loadAv ag sz)
    | none => .fail
  | .store T a x => match look C.tt T with
    | some ⟨_, sz, _, _, _, _, _⟩ => rd x fun v => rd a (storeAv sz v)
    | none => .fail
  | .nilCheck x => rd x fun
    | .ptr k o => one (.ptr k o)
    | _ => .fail
  | .binOp op T x y _ => rd x fun a => rd y fun b => match asBool a with
    | none => binAv op a b
    | some p => match asBool b with
      | none => .fail
      | some q => match look C.tt T with
        | some ⟨_, _, _, _, _, _, true⟩ => match op with
          | .eql => one (.val (.bool (p == q)))
          | .neq => one (.val (.bool (!(p == q))))
          | _ => .fail
        | _ => .fail
  | .unOp op _ x => rd x fun
    | .kb b => match op with
      | .not => one (.kb !b)
      | _ => .fail
    | .val (.bool b) => match op with
      | .not => one (.val (.bool !b))
      | _ => .fail
    | .val (.int k n) => match op with
      | .neg => one (.val (.int k (k.wrap (0 - n))))
      | _ => .fail
    | _ => .fail
  | .convert S T x => match look C.tt S, look C.tt T with
    | some _, some ⟨_, _, _, _, _, some k, _⟩ => rd x fun
      | .val (.int _ n) => one (.val (.int k (k.wrap n)))
      | _ => .fail
    | _, _ => .fail
  | .makeSlice T l c => match elemTI C T with
    | some (E, ⟨_, sz, z, _, _, _, _⟩) => rd l fun
      | .val (.int .i64 n) => rd c fun
        | .val (.int .i64 m) => zerosK z fun z => match z.flat with
          | true => .ret (.mk ⟨.row dst, [(dst, .row E sz n.toNat (fun _ => z))], true, some (m = n ∧ 0 ≤ n ∧ n ≤ 1073741824)⟩)
          | false => .fail
        | _ => .fail
      | _ => .fail
    | none => .fail
  | .slice T x lo hi none => match elemTI C T with
    | some (_, ⟨_, sz, _, _, _, _, _⟩) => rdo (.val (.int .i64 0)) lo fun
      | .val (.int .i64 a) => rd x fun
        | .list sz' n f => match Nat.beq sz sz' with
          | true => rdo (.val (.int .i64 n)) hi fun
            | .val (.int .i64 b) => oneIf (0 ≤ a ∧ a ≤ b ∧ b ≤ n) (.list sz (b - a).toNat (fun i => f (i + a.toNat)))
            | _ => .fail
          | false => .fail
        | .row k => .obj k fun
          | .row _ sz' n f => match Nat.beq sz sz' with
            | true => match hi with
              | none => oneIf (0 ≤ a ∧ a ≤ n) (.rptr k 0 a.toNat sz)
              | some h => rd h fun
                | .val (.int .i64 b) => .ret (.mk ⟨.list sz (b - a).toNat (fun i => f (i + a.toNat)), [(k, .froz sz n f)], false, some (0 ≤ a ∧ a ≤ b ∧ b ≤ n)⟩)
                | _ => .fail
            | false => .fail
          | .froz sz' n f => match Nat.beq sz sz' with
            | true => rdo (.val (.int .i64 n)) hi fun
              | .val (.int .i64 b) => oneIf (0 ≤ a ∧ a ≤ b ∧ b ≤ n) (.list sz (b - a).toNat (fun i => f (i + a.toNat)))
              | _ => .fail
            | false => .fail
          | _ => .fail
        | _ => .fail
      | _ => .fail
    | none => .fail
  | .fieldAddr T x i => match look C.tt T with
    | some ⟨_, _, _, fs, _, _, _⟩ => match nth fs i with
      | some (off, _) => rd x fun
        | .pp cs => match Av.split none 64 off cs (fun _ y => some y) with
          | some y => one (.pp y)
          | none => .fail
        | .ptr k o => one (.ptr k (o + off))
        | .rptr k s j o => match Nat.beq s 0 with
          | true => .fail
          | false => one (.rptr k s j (o + off))
        | _ => .fail
      | none => .fail
    | none => .fail
  | .field T x i => match look C.tt T with
    | some ⟨_, _, _, fs, _, _, _⟩ => match nth fs i with
      | some (off, sz) => rd x fun
        | .agg cs => match Av.mid none off sz cs some with
          | some y => valOf none (Nat.blt 1 sz) y
          | none => .fail
        | _ => .fail
      | none => .fail
    | none => .fail
  | .indexAddr T x i => match elemTI C T with
    | some (_, ⟨_, sz, _, _, _, _, _⟩) => rd i fun
      | .val (.int .i64 j) => rd x (indexAv sz j)
      | _ => .fail
    | none => .fail
  | .extract x i => rd x fun
    | .tup cs => match Av.split none 64 i cs (fun _ y => some y) with
      | some (.cons a _) => match a.hasSz 1 false true with
        | true => one a
        | false => .fail
      | _ => .fail
    | _ => .fail
  | .call ⟨.builtin .len, ⟨args⟩, ⟨ts⟩⟩ => match ts with
    | [T] => match elemTI C T with
      | some _ => rdl args fun
        | [x] => lenAv x
        | _ => .fail
      | none => .fail
    | _ => .fail
  | .call ⟨.builtin .append, ⟨args⟩, ⟨ts⟩⟩ => match ts with
    | [T, T'] => match Nat.beq T T' with
      | true => match elemTI C T with
        | some (E, ⟨_, sz, _, _, _, _, _⟩) => rdl args fun
          | [x, y] => appendAv dst E sz x y
          | _ => .fail
        | none => .fail
      | false => .fail
    | _ => .fail
  | .call ⟨.builtin .copy, ⟨args⟩, ⟨ts⟩⟩ => match ts with
    | [T, _] => match elemTI C T with
      | some (_, ⟨_, sz, _, _, _, _, _⟩) => rdl args fun
        | [x, y] => copyAv sz x y
        | _ => .fail
      | none => .fail
    | _ => .fail
  | .call ⟨.value (.func f), ⟨args⟩, _⟩ => match look C.sp f with
    | some sp => rdl args (callAv dst sp)
    | none => .fail
  | _ => .fail

def getK.{u} {α : Type} {R : Type u} (d : α) (k : α → R) : List α → Nat → R
  | [], _ => k d
  | a :: _, 0 => k a
  | _ :: l, n + 1 => getK d k l n
def setK {α : Type} {R : Type} (a : α) : List α → Nat → (List α → R) → R
  | [], _, k => k []
  | _ :: l, 0, k => k (a :: l)
  | b :: l, n + 1, k => setK a l n fun l => k (b :: l)
def bit (t : Nat) : Nat := Nat.shiftLeft 1 t
/-- reads are collected as bits: slots at even places, objects at odd ones -/
def runR {α : Type 1} (s : St) (k : α → Nat → Prop) : Rd α → Nat → Prop
  | .ret a, m => k a m
  | .fail, _ => False
  | .slot t c, m => getK .any (fun v => runR s k (c v) (Nat.lor m (bit (2 * t)))) s.tm t
  | .obj i c, m => getK .none (fun v => runR s k (c v) (Nat.lor m (bit (2 * i + 1)))) s.ob i
def St.put (s : St) (dst : Option Nat) (v : Av) (k : St → Prop) : Prop :=
  match dst, s with
  | some d, ⟨tm, ob⟩ => setK v tm d fun tm => k ⟨tm, ob⟩
  | none, s => k s
def St.puts (k : St → Prop) : List (Nat × Ob) → St → Prop
  | [], s => k s
  | (i, o) :: l, ⟨tm, ob⟩ => setK o ob i fun ob => St.puts k l ⟨tm, ob⟩
def isGuard (i : Nat) : List Oper → Bool
  | [] => false
  | ⟨_, _, _, _, _, g⟩ :: l => match g with
    | some (j, _) => match Nat.beq i j with
      | true => true
      | false => isGuard i l
    | none => isGuard i l
/-- is the operation wanted? (the reads' bits behind it) -/
def wantK (all : List Oper) (g : Option (Nat × Bool)) (s : St) (yes skip : Nat → Prop) : Prop :=
  match g with
  | none => yes 0
  | some (j, want) => match nth all j with
    | some ⟨some d, _, _, _, _, _⟩ => getK .any (fun
      | .kb b => match b, want with
        | true, true => yes (bit (2 * d))
        | false, false => yes (bit (2 * d))
        | true, false => skip (bit (2 * d))
        | false, true => skip (bit (2 * d))
      | .tup .nil => skip (bit (2 * d))
      | _ => False) s.tm d
    | _ => False
def St.after (s : St) (dst : Option Nat) (v : Av) (u : List (Nat × Ob)) (k : St → Prop) : Prop := s.put dst v fun s => s.puts k u
def dstN : Option Nat → Nat
  | some d => d
  | none => 0
/-- what an operation reads, writes, names and makes, and what it waits for, as bits -/
structure Rec where
  rd : Nat
  wr : Nat
  ids : Nat
  new : Nat
  af : Nat
def wrObjs (k : Nat → Prop) : List (Nat × Ob) → Nat → Prop
  | [], m => k m
  | (i, _) :: l, m => wrObjs k l (Nat.lor m (bit (2 * i + 1)))
def idObjs (k : Nat → Prop) : List (Nat × Ob) → Nat → Prop
  | [], m => k m
  | (_, o) :: l, m => o.ids (fun m => idObjs k l m) m
def wrDst : Option Nat → Nat
  | some d => bit (2 * d)
  | none => 0
def afters : List Edge → Nat → Nat
  | [], m => m
  | ⟨on, g⟩ :: l, m => match g with
    | .textOnly _ => afters l m
    | .gcOnly _ => afters l m
    | _ => afters l (Nat.lor m (bit on))
def stIds (k : Nat → Prop) : List Av → Nat → Prop
  | [], m => k m
  | v :: l, m => v.ids (fun m => stIds k l m) m
def obIds (k : Nat → Prop) : List Ob → Nat → Prop
  | [], m => k m
  | v :: l, m => v.ids (fun m => obIds k l m) m
/-- nothing names the block d -/
def noBit (d : Nat) (yes : Prop) (m : Nat) : Prop := match Nat.testBit m d with
  | true => False
  | false => yes
def St.free (s : St) (d : Nat) (yes : Prop) : Prop := stIds (fun m => obIds (noBit d yes) s.ob m) s.tm 0
/-- all that an operation waits for: direct ones first (m), then theirs -/
def ancOf (af : Nat) : List Nat → Nat → Nat → Nat
  | [], _, m => m
  | a :: zs, i, m => ancOf af zs (i + 1) (match Nat.testBit af i with
    | true => Nat.lor m a
    | false => m)
def disj (a b : Nat) : Bool := Nat.beq (Nat.land a b) 0
/-- an operation against the earlier ones -/
def okWith (r : Rec) (an : Nat) : List Rec → Nat → Bool
  | [], _ => true
  | p :: l, i => match disj p.ids r.new with
    | false => false
    | true => match Nat.testBit an i with
      | true => okWith r an l (i + 1)
      | false => match disj p.wr (Nat.lor r.rd r.wr), disj r.wr p.rd, disj r.ids p.new with
        | true, true, true => okWith r an l (i + 1)
        | _, _, _ => false
def okAll (base : Nat) : List Rec → List Rec → List Nat → Nat → Bool
  | [], _, _, _ => true
  | r :: l, ps, zs, i => match Nat.blt r.af (bit i), disj r.new base with
    | true, true => match okWith r (ancOf r.af zs 0 r.af) ps 0 with
      | true => okAll base l (ps ++ [r]) (zs ++ [ancOf r.af zs 0 r.af]) (i + 1)
      | false => false
    | _, _ => false
def vcAnd (p : Option Prop) (q : Prop) : Prop :=
  match p with
  | none => q
  | some p => p ∧ q
def newM : Bool → Option Nat → Nat
  | true, some d => bit d
  | _, _ => 0
def inRange {α : Type} : List α → Nat → Bool
  | [], _ => false
  | _ :: _, 0 => true
  | _ :: l, n + 1 => inRange l n
/-- an operation that makes a block: nothing names it yet -/
def isAlloc : Op → Bool
  | .alloc _ => true
  | _ => false
/-- the variables that operations make anew, as bits -/
def allocM : List Oper → Nat → Nat
  | [], m => m
  | ⟨d, op, _, _, _, _⟩ :: l, m => match isAlloc op with
    | true => match d with
      | some d => allocM l (Nat.lor m (bit d))
      | none => allocM l m
    | false => allocM l m
/-- pointers to variables that are to be made anew are forgotten -/
def dropS (m : Nat) : List Av → Nat → (List Av → Prop) → Prop
  | [], _, k => k []
  | v :: l, i, k => match v with
    | .ptr b o => match Nat.testBit m b with
      | true => match Nat.beq b i with
        | true => dropS m l (i + 1) fun l => k (.ptr b o :: l)
        | false => dropS m l (i + 1) fun l => k (.any :: l)
      | false => dropS m l (i + 1) fun l => k (.ptr b o :: l)
    | v => dropS m l (i + 1) fun l => k (v :: l)
def dropK (ops : List Oper) (s : St) (k : St → Prop) : Prop :=
  match Nat.beq (allocM ops 0) 0 with
  | true => k s
  | false => match s with
    | ⟨tm, ob⟩ => dropS (allocM ops 0) tm 0 fun tm => k ⟨tm, ob⟩
/-- the same, but for the slot d itself, which is to be written -/
def St.freeW (s : St) (d : Nat) (yes : Prop) : Prop := setK .any s.tm d fun tm => stIds (fun m => obIds (noBit d yes) s.ob m) tm 0
def freeIf (al nw : Bool) (dst : Option Nat) (s : St) (yes : Prop) : Prop :=
  match nw, dst with
  | false, _ => yes
  | true, some d => match inRange s.tm d with
    | true => match al with
      | true => s.freeW d yes
      | false => s.free d yes
    | false => False
  | true, none => False
/-- the value of an operation that a guard asks: known as true or as false -/
def guardK (g : Bool) (v : Av) (k : Av → Prop) : Prop :=
  match g with
  | false => k v
  | true => match v with
    | .val (.bool c) => (c = true → k (.kb true)) ∧ (c = false → k (.kb false))
    | .kb c => k (.kb c)
    | _ => False
def stepK (s : St) (al g : Bool) (dst : Option Nat) (m af : Nat) (k : Rec → St → Prop) : Out → Prop
  | ⟨v, u, nw, vc⟩ => freeIf al nw dst s (wrObjs (fun wr => vcAnd vc (guardK g v fun v => v.ids (idObjs (fun ids => s.after dst v u (k ⟨m, wr, ids, newM nw dst, af⟩)) u) 0)) u (wrDst dst))
def awpR (C : Ctx) (all : List Oper) (draw : Bool) (base : Nat) (k : St → Prop) : List Oper → Nat → List Rec → St → Prop
  | [], _, rs, s => match draw with
    | false => k s
    | true => okAll base rs.reverse [] [] 0 = true ∧ k s
  | ⟨dst, op, _, _, ⟨af⟩, g⟩ :: os, i, rs, s =>
    wantK all g s
      (fun m => runR s (fun out m => match out with
        | .mk o => stepK s (isAlloc op) (isGuard i all) dst m (afters af 0) (fun r => awpR C all draw base k os (i + 1) (r :: rs)) o
        | .gh G u p r => ∃ x : G, stepK s (isAlloc op) (isGuard i all) dst m (afters af 0) (fun r => awpR C all draw base k os (i + 1) (r :: rs)) ⟨r x, u, false, some (p x)⟩) (aop C (dstN dst) op) m)
      (fun m => s.put dst (.tup .nil) (awpR C all draw base k os (i + 1) (⟨m, wrDst dst, 0, 0, afters af 0⟩ :: rs)))
inductive Ex where
  | normal | ret | exit (i : Nat)
/-- what is said at the head of a loop: a slot, a variable's cells, a row that is known already, a row by a new name -/
inductive It where
  | slot (t : Nat) (v : Av)
  | obj (k : Nat) (cs : Av)
  | mod (k E sz n : Nat) (f : Nat → Av)
  | own (t E sz n : Nat) (f : Nat → Av)
structure LInv where
  X : Type
  ok : X → Prop
  hd : X → List It
  mu : X → Nat
  kl : Nat := 0
/-- the slots that code writes, as bits -/
def wrOps : List Oper → Nat → Nat
  | [], m => m
  | ⟨some d, _, _, _, _, _⟩ :: l, m => wrOps l (Nat.lor m (bit d))
  | ⟨none, _, _, _, _, _⟩ :: l, m => wrOps l m
def wrCode : Code → Nat → Nat
  | .region _ ⟨ops⟩ _, m => wrOps ops m
  | .seq a b, m => wrCode b (wrCode a m)
  | .cond _ a b, m => wrCode b (wrCode a m)
  | .block _ a, m => wrCode a m
  | .loop a, m => wrCode a m
  | .scope a, m => wrCode a m
  | _, m => m
def killS (m : Nat) : List Av → Nat → (List Av → Prop) → Prop
  | [], _, k => k []
  | v :: l, i, k => match Nat.testBit m i with
    | true => killS m l (i + 1) fun l => k (.any :: l)
    | false => killS m l (i + 1) fun l => k (v :: l)
def killO (m : Nat) : List Ob → Nat → (List Ob → Prop) → Prop
  | [], _, k => k []
  | v :: l, i, k => match Nat.testBit m i with
    | true => killO m l (i + 1) fun l => k (.none :: l)
    | false => killO m l (i + 1) fun l => k (v :: l)
/-- the slots and the blocks that are named at the head, as bits -/
def itMasks (c : Nat → Nat → Prop) : List It → Nat → Nat → Prop
  | [], ks, ko => c ks ko
  | .slot t _ :: l, ks, ko => itMasks c l (Nat.lor ks (bit t)) ko
  | .obj k _ :: l, ks, ko => itMasks c l ks (Nat.lor ko (bit k))
  | .mod k _ _ _ _ :: l, ks, ko => itMasks c l ks (Nat.lor ko (bit k))
  | .own t _ _ _ _ :: l, ks, ko => itMasks c l ks (Nat.lor ko (bit t))
/-- what no round changes -/
def baseK (ks ko : Nat) (s : St) (k : St → Prop) : Prop :=
  match s with
  | ⟨tm, ob⟩ => killS ks tm 0 fun tm => killO ko ob 0 fun ob => k ⟨tm, ob⟩
/-- a literal of one limb -/
def lit1 (sz n : Nat) (f : Nat → Av) : Option Nat :=
  match Nat.beq sz 1, Nat.beq n 1 with
  | true, true => match f 0 with
    | .cons (.val (.int .u32 (.ofNat m))) .nil => match Nat.blt 0 m, Nat.blt m 4294967296 with
      | true, true => some m
      | _, _ => none
    | _ => none
  | _, _ => none
def asNat1 : Av → Option (Nat × Nat)
  | .nat m K => some (m, K)
  | .natC m K => some (m, K)
  | .list sz n f => match lit1 sz n f with
    | some m => some (m, 1)
    | none => none
  | .val (.slice none 0 0) => some (0, 0)
  | _ => none
def asInt : Av → Option (Int × Nat)
  | .cons (.int n K) .nil => some (n, K)
  | .cons (.intC n K) .nil => some (n, K)
  | .cons p (.cons d .nil) => match asNat1 d with
    | some (d, K) => match p with
      | .kb true => some (-(d : Int), K)
      | .kb false => some ((d : Int), K)
      | .val (.bool b) => some ((if b then -(d : Int) else (d : Int)), K)
      | _ => none
    | none => none
  | _ => none
def asRat : Av → Option (Rat × Nat)
  | .cons (.rat q K) .nil => some (q, K)
  | .cons (.ratC q K) .nil => some (q, K)
  | .cons a (.cons d .nil) => match asInt (.cons a .nil), asNat1 d with
    | some (n, K), some (d, L) => some (mkRat n d, max (max K L) 1)
    | _, _ => none
  | .cons a (.cons b (.cons d .nil)) => match asInt (.cons a (.cons b .nil)), asNat1 d with
    | some (n, K), some (d, L) => some (mkRat n d, max (max K L) 1)
    | _, _ => none
  | _ => none
/-- the cells h are as wanted -/
def fitC : Av → Av → Prop
  | .any, x => match x with
    | .cons _ .nil => x.hasSz 1 False True
    | _ => False
  | .rat q K, x => match x with
    | .cons (.ratC q' K') .nil => q' = q ∧ (K' ≤ K ∨ Sz q' K)
    | x => match asRat x with
      | some (q', K') => q' = q ∧ K' ≤ K
      | none => False
  | .int q K, x => match x with
    | .cons (.intC q' K') .nil => q' = q ∧ (K' ≤ K ∨ SzI q' K)
    | x => match asInt x with
      | some (q', K') => q' = q ∧ K' ≤ K
      | none => False
  | .nat q K, x => match x with
    | .cons y .nil => match asNat1 y with
      | some (q', K') => q' = q ∧ K' ≤ K
      | none => False
    | _ => False
  | .ratC q K, x => match x with
    | .cons (.ratC q' K') .nil => q' = q ∧ (K' ≤ K ∨ Sz q' K)
    | .cons (.intC n K') (.cons (.natC d L) .nil) => n = q.num ∧ d = q.den ∧ (K' ≤ K ∧ L ≤ K ∨ Sz q K)
    | .cons (.intC n K') (.cons (.list sz m f) .nil) => match lit1 sz m f with
      | some d => n = q.num ∧ d = q.den ∧ (K' ≤ K ∧ 1 ≤ K ∨ Sz q K)
      | none => False
    | _ => False
  | .intC q K, x => match x with
    | .cons (.intC q' K') .nil => q' = q ∧ (K' ≤ K ∨ SzI q' K)
    | .cons (.kb false) (.cons (.natC d L) .nil) => (d : Int) = q ∧ (L ≤ K ∨ SzI q K)
    | _ => False
  | .natC q K, x => match x with
    | .cons (.natC q' K') .nil => q' = q ∧ (K' ≤ K ∨ (limbs q').length ≤ K)
    | .cons (.list sz n f) .nil => match lit1 sz n f with
      | some m => m = q ∧ 1 ≤ K
      | none => False
    | _ => False
  | .kb b, x => match x with
    | .cons (.kb c) .nil => c = b
    | .cons (.val (.bool c)) .nil => c = b
    | _ => False
  | .val v, x => match x with
    | .cons (.val u) .nil => u = v
    | .cons (.kb c) .nil => Value.bool c = v
    | _ => False
  | .list sz n f, x => match x with
    | .cons (.list sz' n' f') .nil => sz' = sz ∧ n' = n ∧ ∀ i, i < n → fitC (f i) (f' i)
    | .cons (.val (.slice none 0 0)) .nil => n = 0
    | _ => False
  | .agg w, x => match x with
    | .cons (.agg h) .nil => fitC w h
    | _ => False
  | .tup w, x => match x with
    | .cons (.tup h) .nil => fitC w h
    | _ => False
  | .nil, x => match x with
    | .nil => True
    | _ => False
  | .cons w r, x => w.szK (fun n => Av.split False 64 n x fun x y => fitC w x ∧ fitC r y) 0
  | _, _ => False
def fits : List Av → List Av → Prop
  | [], [] => True
  | w :: ws, h :: hs => fitC w (.cons h .nil) ∧ fits ws hs
  | _, _ => False
/-- values that may name rows: which row of the state stands for which -/
def fitO (k : List (Nat × Option Nat) → Prop) : Av → Av → List (Nat × Option Nat) → Prop
  | .row t, x, m => match x with
    | .cons (.row i) .nil => k ((t, some i) :: m)
    | .cons (.val (.slice none 0 0)) .nil => k ((t, none) :: m)
    | _ => False
  | .ptr i o, x, m => match x with
    | .cons (.ptr i' o') .nil => match Nat.beq i i', Nat.beq o o' with
      | true, true => k m
      | _, _ => False
    | _ => False
  | .agg w, x, m => match x with
    | .cons (.agg h) .nil => fitO k w h m
    | _ => False
  | .nil, x, m => match x with
    | .nil => k m
    | _ => False
  | .cons w r, x, m => w.szK (fun n => Av.split False 64 n x fun x y => fitO (fun m => fitO k r y m) w x m) 0
  | w, x, m => fitC w x ∧ k m
def rowFit (E sz n : Nat) (f : Nat → Av) : Ob → Prop
  | .row E' sz' n' f' => E' = E ∧ sz' = sz ∧ n' = n ∧ ∀ i, i < n → fitC (f i) (f' i)
  | _ => False
def itsFit (s : St) (c : List (Nat × Option Nat) → Prop) : List It → List (Nat × Option Nat) → Prop
  | [], m => c m
  | .slot t v :: l, m => getK .any (fun h => fitO (fun m => itsFit s c l m) v (.cons h .nil) m) s.tm t
  | .obj k cs :: l, m => getK .none (fun
    | .var h => fitO (fun m => itsFit s c l m) cs h m
    | _ => False) s.ob k
  | .mod k E sz n f :: l, m => getK .none (fun o => rowFit E sz n f o ∧ itsFit s c l ((k, some k) :: m)) s.ob k
  | .own _ _ _ _ _ :: l, m => itsFit s c l m
def ownsFit (s : St) (ko : Nat) (m : List (Nat × Option Nat)) : List It → Prop
  | [] => True
  | .own t E sz n f :: l => (match Nat.testBit ko t with
    | true => match look m t with
      | some (some k) => match Nat.testBit ko k with
        | true => getK .none (rowFit E sz n f) s.ob k
        | false => False
      | some none => n = 0
      | none => False
    | false => False) ∧ ownsFit s ko m l
  | _ :: l => ownsFit s ko m l
/-- no name and no row twice -/
def nodupM : List (Nat × Option Nat) → Nat → Nat → Bool
  | [], _, _ => true
  | (t, o) :: l, a, b => match Nat.testBit a t with
    | true => false
    | false => match o with
      | none => nodupM l (Nat.lor a (bit t)) b
      | some k => match Nat.testBit b k with
        | true => false
        | false => nodupM l (Nat.lor a (bit t)) (Nat.lor b (bit k))
/-- the new names, as bits -/
def ownBits {R : Type} (k : Nat → R) : List It → Nat → R
  | [], m => k m
  | .own t _ _ _ _ :: l, m => ownBits k l (Nat.lor m (bit t))
  | _ :: l, m => ownBits k l m
/-- a row's name is a new one or its own -/
def keysOk (ow : Nat) : List (Nat × Option Nat) → Bool
  | [] => true
  | (t, o) :: l => match Nat.testBit ow t with
    | true => keysOk ow l
    | false => match o with
      | none => false
      | some k => match Nat.beq t k with
        | true => keysOk ow l
        | false => false
def loopFit (s : St) (ko : Nat) (its : List It) : Prop :=
  itsFit s (fun m => ownsFit s ko m its ∧ nodupM m 0 0 = true ∧ ownBits (fun ow => keysOk ow m = true) its 0) its []
def ownsFree (s : St) (c : Prop) : List It → Prop
  | [] => c
  | .own t _ _ _ _ :: l => s.free t (ownsFree s c l)
  | _ :: l => ownsFree s c l
def headK (k : St → Prop) : List It → St → Prop
  | [], s => k s
  | .slot t v :: l, ⟨tm, ob⟩ => setK v tm t fun tm => headK k l ⟨tm, ob⟩
  | .obj i cs :: l, ⟨tm, ob⟩ => setK (.var cs) ob i fun ob => headK k l ⟨tm, ob⟩
  | .mod i E sz n f :: l, ⟨tm, ob⟩ => setK (.row E sz n f) ob i fun ob => headK k l ⟨tm, ob⟩
  | .own i E sz n f :: l, ⟨tm, ob⟩ => setK (.row E sz n f) ob i fun ob => headK k l ⟨tm, ob⟩
def awp (C : Ctx) : Code → St → (Ex → St → Prop) → Prop
  | .skip, s, Q => Q .normal s
  | .region _ ⟨ops⟩ draw, s, Q => dropK ops s fun s => match draw with
    | false => awpR C ops false 0 (Q .normal) ops 0 [] s
    | true => stIds (fun m => obIds (fun m => awpR C ops true m (Q .normal) ops 0 [] s) s.ob m) s.tm 0
  | .seq a b, s, Q => awp C a s fun e s' => match e with
    | .normal => awp C b s' Q
    | .ret => Q .ret s'
    | .exit i => Q (.exit i) s'
  | .cond c a b, s, Q => runR s (fun v _ => match v with
    | ⟨.kb true⟩ => awp C a s Q
    | ⟨.kb false⟩ => awp C b s Q
    | ⟨.val (.bool t)⟩ => (t = true → awp C a s Q) ∧ (t = false → awp C b s Q)
    | _ => False) (rd c fun v => .ret (ULift.up.{1} v)) 0
  | .block id b, s, Q => awp C b s fun e s' => match e with
    | .normal => Q .normal s'
    | .ret => Q .ret s'
    | .exit i => match Nat.beq i id with
      | true => Q .normal s'
      | false => Q (.exit i) s'
  | .exit i, s, Q => Q (.exit i) s
  | .ret, s, Q => Q .ret s
  | .loop b, s, Q => ∃ I : LInv, match I with
    | ⟨X, ok, hd, mu, kl⟩ => ∃ x0 : X, ok x0 ∧ itMasks (fun ks ko => loopFit s ko (hd x0) ∧ baseK ks ko s fun s0 => ∀ x, ok x → ownsFree s0 (headK (fun h => awp C b h fun e s' => match e with
      | .normal => baseK ks ko s' (fun s1 => s1 = s0) ∧ ∃ y, ok y ∧ mu y < mu x ∧ loopFit s' ko (hd y)
      | .ret => Q .ret s'
      | .exit i => Q (.exit i) s') (hd x) s0) (hd x)) (hd x0) (wrCode b 0) (Nat.lor kl (wrCode b 0))
  | _, _, _ => False
/-- what a function returns -/
def resK (C : Ctx) (s : St) : List ResultVar → (List Av → Prop) → Prop
  | [], k => k []
  | .tmp t :: l, k => getK .any (fun v => resK C s l fun vs => k (v :: vs)) s.tm t
  | .cell t T :: l, k => match look C.tt T with
    | some ⟨true, sz, _, _, _, _, _⟩ => getK .any (fun
      | .ptr i 0 => getK .none (fun
        | .var cs => cs.hasSz sz False (resK C s l fun vs => k (.agg cs :: vs))
        | _ => False) s.ob i
      | _ => False) s.tm t
    | _ => False
def avList : List Av → Av
  | [] => .nil
  | v :: l => .cons v (avList l)
/-- the results as one value -/
def resAv : List Av → Av
  | [v] => v
  | vs => .tup (avList vs)
/-- the results, with rows as lists, fit -/
def retK (C : Ctx) (res : List ResultVar) (r : Av) (s : St) : Prop :=
  resK C s res (fun vs => runR s (fun w _ => match w with
    | ⟨vs⟩ => fitC r (.cons (resAv vs) .nil)) (thawl vs fun vs _ => .ret (ULift.up.{1} vs)) 0)
def anysK : Nat → List Av → List Av
  | 0, l => l
  | n + 1, l => anysK n (.any :: l)
def padK (k : List Av → Prop) : List Av → Nat → Prop
  | [], n => k (anysK n [])
  | v :: l, n => padK (fun l => k (v :: l)) l (n - 1)
def nonesK (k : List Ob → Prop) : List Av → List Ob → Prop
  | [], l => k l
  | _ :: vs, l => nonesK k vs (.none :: l)
def fnOk (C : Ctx) (fn : Func) (args : List Av) (r : Av) : Prop :=
  match fn with
  | ⟨_, _, _, _, _, _, n, ⟨res⟩, body, _, _, _, _, _, _, _⟩ => match body with
    | some c => padK (fun tm => nonesK (fun ob => awp C c ⟨tm, ob⟩ fun e s => match e with
      | .normal => retK C res r s
      | .ret => retK C res r s
      | .exit _ => False) tm []) args n
    | none => False
/-- no operation writes slot 0 -/
def nzOps : List Oper → Bool
  | [] => true
  | ⟨d, _, _, _, _, _⟩ :: l => match d with
    | some d => match d with
      | 0 => false
      | _ + 1 => nzOps l
    | none => nzOps l
def nzCode : Code → Bool
  | .region _ ⟨ops⟩ _ => nzOps ops
  | .seq a b => match nzCode a with
    | true => nzCode b
    | false => false
  | .cond _ a b => match nzCode a with
    | true => nzCode b
    | false => false
  | .block _ a => nzCode a
  | .loop a => nzCode a
  | _ => true
/-- a function that is handed a pointer to a variable of its caller's: the variable's cells before and behind -/
def fnOkM (C : Ctx) (fn : Func) (cs : Av) (args : List Av) (r cs' : Av) : Prop :=
  match fn with
  | ⟨_, _, _, _, _, _, n, ⟨res⟩, body, _, _, _, _, _, _, _⟩ => match body with
    | some c => nzCode c = true ∧ padK (fun tm => nonesK (fun ob => match ob with
      | _ :: ob => awp C c ⟨tm, .var cs :: ob⟩ fun e s => match e with
        | .normal => retK C res r s ∧ getK .none (fun
          | .var h => fitC cs' h
          | _ => False) s.ob 0
        | .ret => retK C res r s ∧ getK .none (fun
          | .var h => fitC cs' h
          | _ => False) s.ob 0
        | .exit _ => False
      | [] => False) tm []) (.ptr 0 0 :: args) n
    | none => False
/-- a function that returns a pointer to a new variable -/
def fnOkN (C : Ctx) (fn : Func) (args : List Av) (cs : Av) : Prop :=
  match fn with
  | ⟨_, _, _, _, _, _, n, ⟨res⟩, body, _, _, _, _, _, _, _⟩ => match body with
    | some c => padK (fun tm => nonesK (fun ob => awp C c ⟨tm, ob⟩ fun e s => match e with
      | .normal => resK C s res fun vs => match vs with
        | [.ptr i 0] => getK .none (fun
          | .var h => fitC cs h
          | _ => False) s.ob i
        | _ => False
      | .ret => resK C s res fun vs => match vs with
        | [.ptr i 0] => getK .none (fun
          | .var h => fitC cs h
          | _ => False) s.ob i
        | _ => False
      | .exit _ => False) tm []) args n
    | none => False
/-- what a function returns that returns a struct whose first part is a row of its own -/
def rowK (C : Ctx) (res : List ResultVar) (T sz n : Nat) (f : Nat → Av) (rest : Av) (s : St) : Prop :=
  resK C s res fun vs => match vs with
    | [.agg (.cons (.row k) rs)] => getK .none (fun
      | .row T' sz' n' f' => (T' = T ∧ sz' = sz ∧ n' = n ∧ ∀ i, i < n → fitC (f i) (f' i)) ∧ runR s (fun w _ => match w with
        | ⟨.agg h, false⟩ => fitC rest h
        | _ => False) (thaw (.agg rs) fun v u => .ret (ULift.up.{1} (v, hasKey k u))) 0
      | _ => False) s.ob k
    | _ => False
def fnOkR (C : Ctx) (fn : Func) (args : List Av) (T sz n : Nat) (f : Nat → Av) (rest : Av) : Prop :=
  match fn with
  | ⟨_, _, _, _, _, _, n0, ⟨res⟩, body, _, _, _, _, _, _, _⟩ => match body with
    | some c => padK (fun tm => nonesK (fun ob => awp C c ⟨tm, ob⟩ fun e s => match e with
      | .normal => rowK C res T sz n f rest s
      | .ret => rowK C res T sz n f rest s
      | .exit _ => False) tm []) args n0
    | none => False

def Av.size : Av → Nat
  | .int _ _ => 2
  | .intC _ _ => 2
  | .rat _ _ => 3
  | .ratC _ _ => 3
  | .nil => 0
  | .cons a b => a.size + b.size
  | _ => 1
theorem szK_eq {R : Type} : ∀ (a : Av) (k : Nat → R) (m : Nat), a.szK k m = k (m + a.size) := by
  intro a
  induction a with
  | cons a b iha ihb => intro k m; simp only [Av.szK, Av.size, iha, ihb, Nat.add_assoc]
  | _ => intro k m; rfl
theorem hasSz_eq {R : Type} (a : Av) (n : Nat) (no yes : R) : a.hasSz n no yes = if a.size = n then yes else no := by
  unfold Av.hasSz
  rw [szK_eq, Nat.zero_add]
  by_cases h : a.size = n
  · rw [if_pos h, h, Nat.beq_refl]
  · rw [if_neg h]
    have : Nat.beq a.size n = false := by
      cases hb : Nat.beq a.size n with
      | false => rfl
      | true => exact absurd (Nat.eq_of_beq_eq_true hb) h
    rw [this]
def Av.appV : Av → Av → Av
  | .nil, b => b
  | .cons a l, b => .cons a (l.appV b)
  | a, b => .cons a b
theorem app_eq {R : Type} : ∀ (a b : Av) (k : Av → R), Av.app k a b = k (a.appV b) := by
  intro a
  induction a with
  | cons a l _ ih => intro b k; simp only [Av.app, Av.appV]; exact ih b _
  | _ => intro b k; rfl
def zeroAv : List Value → Av
  | [] => .nil
  | v :: l => match v with
    | .bool b => .cons (.kb b) (zeroAv l)
    | v => .cons (.val v) (zeroAv l)
theorem zerosK_eq.{u} {R : Type u} : ∀ (l : List Value) (k : Av → R), zerosK l k = k (zeroAv l) := by
  intro l
  induction l with
  | nil => intro k; rfl
  | cons v l ih => intro k; cases v <;> exact ih _
def cellsV : Av → Av
  | .agg cs => cs
  | v => .cons v .nil
theorem cellsK_eq.{u} {R : Type u} (k : Av → R) (v : Av) : cellsK k v = k (cellsV v) := by cases v <;> rfl
theorem cellsl_eq.{u} {R : Type u} : ∀ (l : List Av) (k : List Av → R), cellsl l k = k (l.map cellsV) := by
  intro l
  induction l with
  | nil => intro k; rfl
  | cons v l ih => intro k; simp only [cellsl, cellsK_eq, List.map_cons]; exact ih _
theorem getK_eq.{u} {α : Type} {R : Type u} (d : α) (k : α → R) : ∀ (l : List α) (n : Nat), getK d k l n = k (l.getD n d) := by
  intro l
  induction l with
  | nil => intro n; rfl
  | cons a l ih => intro n; cases n with
    | zero => rfl
    | succ n => simp only [getK]; rw [ih]; rfl
theorem setK_eq {α : Type} {R : Type} (a : α) : ∀ (l : List α) (n : Nat) (k : List α → R), setK a l n k = k (l.set n a) := by
  intro l
  induction l with
  | nil => intro n k; rfl
  | cons b l ih => intro n k; cases n with
    | zero => rfl
    | succ n => simp only [setK]; rw [ih]; rfl
theorem nth_eq.{u} {α : Type u} : ∀ (l : List α) (n : Nat), nth l n = l[n]? := by
  intro l
  induction l with
  | nil => intro n; rfl
  | cons a l ih => intro n; cases n with
    | zero => rfl
    | succ n => simp only [nth]; rw [ih]; rfl
theorem look_mem.{u} {α : Type u} : ∀ {l : List (Nat × α)} {n : Nat} {a : α}, look l n = some a → (n, a) ∈ l := by
  intro l
  induction l with
  | nil => intro n a h; cases h
  | cons p l ih =>
    obtain ⟨k, b⟩ := p
    intro n a h
    simp only [look] at h
    cases hb : Nat.beq k n with
    | true =>
      rw [hb] at h
      have := Nat.eq_of_beq_eq_true hb
      subst this
      cases h
      exact List.mem_cons_self
    | false => rw [hb] at h; exact List.mem_cons_of_mem _ (ih h)

/-- the value names the block i of the function's own -/
def Av.names (i : Nat) : Av → Bool
  | .ptr k _ => k == i
  | .rptr k _ _ _ => k == i
  | .row k => k == i
  | .agg c => c.names i
  | .tup c => c.names i
  | .cons a b => a.names i || b.names i
  | _ => false
def Ob.names (i : Nat) : Ob → Bool
  | .var cs => cs.names i
  | _ => false
theorem bit_test (k i : Nat) : (Nat.shiftLeft 1 k).testBit i = (k == i) := by
  show (1 <<< k).testBit i = _
  rw [Nat.testBit_shiftLeft]
  by_cases h : i = k
  · subst h; simp
  · have h2 : (k == i) = false := by simpa using fun e => h e.symm
    rw [h2]
    by_cases h3 : i ≥ k
    · have h4 : Nat.testBit 1 (i - k) = false := by
        have : i - k ≠ 0 := by omega
        exact Nat.testBit_lt_two_pow (Nat.one_lt_two_pow this)
      simp [h4]
    · simp [h3]
theorem bit_tb (k i : Nat) : (bit k).testBit i = (k == i) := bit_test k i
theorem lor_test (a b i : Nat) : (Nat.lor a b).testBit i = (a.testBit i || b.testBit i) := Nat.testBit_or a b i
theorem ids_eq : ∀ (a : Av), ∃ d : Nat, (∀ i, d.testBit i = a.names i) ∧ ∀ (k : Nat → Prop) (m : Nat), ∃ m', a.ids k m = k m' ∧ ∀ i, m'.testBit i = (m.testBit i || a.names i) := by
  intro a
  induction a with
  | ptr k o => exact ⟨_, fun i => bit_test k i, fun c m => ⟨_, rfl, fun i => by rw [lor_test, bit_test]; rfl⟩⟩
  | rptr k _ _ o => exact ⟨_, fun i => bit_test k i, fun c m => ⟨_, rfl, fun i => by rw [lor_test, bit_test]; rfl⟩⟩
  | row k => exact ⟨_, fun i => bit_test k i, fun c m => ⟨_, rfl, fun i => by rw [lor_test, bit_test]; rfl⟩⟩
  | agg c ih => exact ih
  | tup c ih => exact ih
  | cons a b iha ihb =>
    obtain ⟨d1, h1, h2⟩ := iha
    obtain ⟨d2, h3, h4⟩ := ihb
    refine ⟨Nat.lor d1 d2, fun i => by rw [lor_test, h1, h3]; rfl, fun k m => ?_⟩
    obtain ⟨m1, e1, t1⟩ := h2 (fun m => b.ids k m) m
    obtain ⟨m2, e2, t2⟩ := h4 k m1
    refine ⟨m2, ?_, fun i => ?_⟩
    · simp only [Av.ids]; rw [e1, e2]
    · rw [t2, t1]; simp [Av.names, Bool.or_assoc]
  | _ => exact ⟨0, fun i => by simp [Av.names], fun k m => ⟨m, rfl, fun i => by simp [Av.names]⟩⟩
theorem ids_k (a : Av) (k : Nat → Prop) (m : Nat) : ∃ m', a.ids k m = k m' ∧ ∀ i, m'.testBit i = (m.testBit i || a.names i) := by
  obtain ⟨_, _, h⟩ := ids_eq a
  exact h k m
theorem oids_k (o : Ob) (k : Nat → Prop) (m : Nat) : ∃ m', o.ids k m = k m' ∧ ∀ i, m'.testBit i = (m.testBit i || o.names i) := by
  cases o with
  | var cs => exact ids_k cs k m
  | _ => exact ⟨m, rfl, fun i => by simp [Ob.names]⟩
theorem idObjs_k : ∀ (l : List (Nat × Ob)) (k : Nat → Prop) (m : Nat), ∃ m', idObjs k l m = k m' ∧ ∀ i, m'.testBit i = (m.testBit i || l.any (·.2.names i)) := by
  intro l
  induction l with
  | nil => intro k m; exact ⟨m, rfl, fun i => by simp⟩
  | cons p l ih =>
    obtain ⟨j, o⟩ := p
    intro k m
    obtain ⟨m1, e1, t1⟩ := oids_k o (fun m => idObjs k l m) m
    obtain ⟨m2, e2, t2⟩ := ih k m1
    exact ⟨m2, by simp only [idObjs]; rw [e1, e2], fun i => by rw [t2, t1]; simp [Bool.or_assoc]⟩
theorem wrObjs_k : ∀ (l : List (Nat × Ob)) (k : Nat → Prop) (m : Nat), ∃ m', wrObjs k l m = k m' ∧ ∀ i, m'.testBit i = (m.testBit i || l.any (fun p => 2 * p.1 + 1 == i)) := by
  intro l
  induction l with
  | nil => intro k m; exact ⟨m, rfl, fun i => by simp⟩
  | cons p l ih =>
    obtain ⟨j, o⟩ := p
    intro k m
    obtain ⟨m2, e2, t2⟩ := ih k (Nat.lor m (bit (2 * j + 1)))
    exact ⟨m2, by simp only [wrObjs]; rw [e2], fun i => by rw [t2, lor_test, bit_tb]; simp [Bool.or_assoc]⟩
theorem stIds_k : ∀ (l : List Av) (k : Nat → Prop) (m : Nat), ∃ m', stIds k l m = k m' ∧ ∀ i, m'.testBit i = (m.testBit i || l.any (·.names i)) := by
  intro l
  induction l with
  | nil => intro k m; exact ⟨m, rfl, fun i => by simp⟩
  | cons a l ih =>
    intro k m
    obtain ⟨m1, e1, t1⟩ := ids_k a (fun m => stIds k l m) m
    obtain ⟨m2, e2, t2⟩ := ih k m1
    exact ⟨m2, by simp only [stIds]; rw [e1, e2], fun i => by rw [t2, t1]; simp [Bool.or_assoc]⟩
theorem obIds_k : ∀ (l : List Ob) (k : Nat → Prop) (m : Nat), ∃ m', obIds k l m = k m' ∧ ∀ i, m'.testBit i = (m.testBit i || l.any (·.names i)) := by
  intro l
  induction l with
  | nil => intro k m; exact ⟨m, rfl, fun i => by simp⟩
  | cons a l ih =>
    intro k m
    obtain ⟨m1, e1, t1⟩ := oids_k a (fun m => obIds k l m) m
    obtain ⟨m2, e2, t2⟩ := ih k m1
    exact ⟨m2, by simp only [obIds]; rw [e1, e2], fun i => by rw [t2, t1]; simp [Bool.or_assoc]⟩
/-- slots and blocks of a state -/
def St.slot (s : St) (t : Nat) : Av := s.tm.getD t .any
def St.obj (s : St) (k : Nat) : Ob := s.ob.getD k .none
def St.Free (s : St) (d : Nat) : Prop := (∀ t, (s.slot t).names d = false) ∧ ∀ k, (s.obj k).names d = false
theorem any_getD {α : Type} (p : α → Bool) (d : α) (hd : p d = false) (l : List α) (h : l.any p = false) (n : Nat) : p (l.getD n d) = false := by
  rw [List.getD_eq_getElem?_getD]
  cases hn : l[n]? with
  | none => exact hd
  | some a =>
    simp only [List.any_eq_false] at h
    simpa using h a (List.mem_of_getElem? hn)
theorem free_iff (s : St) (d : Nat) (yes : Prop) : s.free d yes → s.Free d ∧ yes := by
  unfold St.free
  intro h
  obtain ⟨m1, e1, t1⟩ := stIds_k s.tm (fun m => obIds (noBit d yes) s.ob m) 0
  rw [e1] at h
  obtain ⟨m2, e2, t2⟩ := obIds_k s.ob (noBit d yes) m1
  rw [e2] at h
  unfold noBit at h
  cases hb : Nat.testBit m2 d with
  | true => rw [hb] at h; exact h.elim
  | false =>
    rw [hb] at h
    rw [t2, t1] at hb
    simp only [Nat.zero_testBit, Bool.false_or, Bool.or_eq_false_iff] at hb
    exact ⟨⟨fun t => any_getD _ _ rfl _ hb.1 t, fun k => any_getD _ _ rfl _ hb.2 k⟩, h⟩

def St.FreeO (al : Bool) (s : St) (d : Nat) : Prop := (∀ t, (al = true ∧ t = d) ∨ (s.slot t).names d = false) ∧ ∀ k, (s.obj k).names d = false
theorem St.Free.o {s : St} {d : Nat} (h : s.Free d) (al : Bool) : s.FreeO al d := ⟨fun t => .inr (h.1 t), h.2⟩
theorem St.FreeO.strict {al : Bool} {s : St} {d : Nat} (h : s.FreeO al d) (e : al = false) : s.Free d := ⟨fun t => (h.1 t).elim (fun hh => by rw [e] at hh; cases hh.1) id, h.2⟩
theorem freeW_iff (s : St) (d : Nat) (yes : Prop) : s.freeW d yes → s.FreeO true d ∧ yes := by
  unfold St.freeW
  rw [setK_eq]
  intro h
  have h1 : (St.mk (s.tm.set d .any) s.ob).free d yes := h
  obtain ⟨hf, hy⟩ := free_iff _ _ _ h1
  refine ⟨⟨fun t => ?_, hf.2⟩, hy⟩
  by_cases e : t = d
  · exact .inl ⟨rfl, e⟩
  · right
    have := hf.1 t
    simp only [St.slot, List.getD_eq_getElem?_getD, List.getElem?_set] at this
    rw [if_neg (fun h => e h.symm)] at this
    simpa [St.slot, List.getD_eq_getElem?_getD] using this
/-- what a reading comes to, and what it reads -/
def Rd.eval {α : Type 1} (s : St) : Rd α → Option α
  | .ret a => some a
  | .fail => none
  | .slot t k => (k (s.slot t)).eval s
  | .obj i k => (k (s.obj i)).eval s
def Rd.reads {α : Type 1} (s : St) : Rd α → Nat → Nat
  | .ret _, m => m
  | .fail, m => m
  | .slot t k, m => (k (s.slot t)).reads s (Nat.lor m (bit (2 * t)))
  | .obj i k, m => (k (s.obj i)).reads s (Nat.lor m (bit (2 * i + 1)))
theorem runR_iff {α : Type 1} (s : St) (k : α → Nat → Prop) : ∀ (r : Rd α) (m : Nat), runR s k r m → ∃ a, r.eval s = some a ∧ k a (r.reads s m) := by
  intro r
  induction r with
  | ret a => intro m h; exact ⟨a, rfl, h⟩
  | fail => intro m h; exact h.elim
  | slot t c ih => intro m h; simp only [runR] at h; rw [getK_eq] at h; exact ih _ _ h
  | obj t c ih => intro m h; simp only [runR] at h; rw [getK_eq] at h; exact ih _ _ h
/-- the states agree where the mask says -/
def Agr (m : Nat) (s s' : St) : Prop := (∀ t, m.testBit (2 * t) = true → s'.slot t = s.slot t) ∧ ∀ i, m.testBit (2 * i + 1) = true → s'.obj i = s.obj i
theorem reads_mono {α : Type 1} (s : St) : ∀ (r : Rd α) (m i : Nat), m.testBit i = true → (r.reads s m).testBit i = true := by
  intro r
  induction r with
  | ret a => intro m i h; exact h
  | fail => intro m i h; exact h
  | slot t c ih => intro m i h; exact ih _ _ _ (by rw [lor_test, h]; rfl)
  | obj t c ih => intro m i h; exact ih _ _ _ (by rw [lor_test, h]; rfl)
theorem eval_frame {α : Type 1} (s s' : St) : ∀ (r : Rd α) (m : Nat), Agr (r.reads s m) s s' → r.eval s' = r.eval s := by
  intro r
  induction r with
  | ret a => intro m h; rfl
  | fail => intro m h; rfl
  | slot t c ih =>
    intro m h
    have e : s'.slot t = s.slot t := h.1 t (reads_mono s (c (s.slot t)) (Nat.lor m (bit (2 * t))) _ (by rw [lor_test, bit_tb]; simp))
    simp only [Rd.eval]
    rw [e]
    exact ih _ _ h
  | obj t c ih =>
    intro m h
    have e : s'.obj t = s.obj t := h.2 t (reads_mono s (c (s.obj t)) (Nat.lor m (bit (2 * t + 1))) _ (by rw [lor_test, bit_tb]; simp))
    simp only [Rd.eval]
    rw [e]
    exact ih _ _ h
/-- an operand's value -/
def opAv (s : St) : Operand → Option Av
  | .tmp t => some (s.slot t)
  | .const v => match v with
    | .bool b => some (.kb b)
    | .agg _ => none
    | v => some (.val v)
  | _ => none
theorem rd_eval {α : Type 1} (s : St) (x : Operand) (k : Av → Rd α) {a : α} (h : (rd x k).eval s = some a) : ∃ v, opAv s x = some v ∧ (k v).eval s = some a := by
  cases x with
  | tmp t => exact ⟨_, rfl, h⟩
  | const v => cases v <;> first | exact ⟨_, rfl, h⟩ | cases h
  | _ => cases h
/-- two lists, element by element -/
inductive All2 {α : Type} {β : Type} (R : α → β → Prop) : List α → List β → Prop where
  | nil : All2 R [] []
  | cons {a : α} {b : β} {l : List α} {m : List β} (h : R a b) (t : All2 R l m) : All2 R (a :: l) (b :: m)
theorem rdl_eval {α : Type 1} (s : St) : ∀ (l : List Operand) (k : List Av → Rd α) {a : α}, (rdl l k).eval s = some a → ∃ vs, All2 (fun x v => opAv s x = some v) l vs ∧ (k vs).eval s = some a := by
  intro l
  induction l with
  | nil => intro k a h; exact ⟨[], .nil, h⟩
  | cons x l ih =>
    intro k a h
    obtain ⟨v, hv, h1⟩ := rd_eval s x _ h
    obtain ⟨vs, hvs, h2⟩ := ih _ h1
    exact ⟨v :: vs, .cons hv hvs, h2⟩
theorem rdo_eval {α : Type 1} (s : St) (d : Av) (x : Option Operand) (k : Av → Rd α) {a : α} (h : (rdo d x k).eval s = some a) : ∃ v, (match x with | none => v = d | some x => opAv s x = some v) ∧ (k v).eval s = some a := by
  cases x with
  | none => exact ⟨d, rfl, h⟩
  | some x => exact rd_eval s x k h
def St.put' (s : St) (dst : Option Nat) (v : Av) : St := match dst with
  | some d => ⟨s.tm.set d v, s.ob⟩
  | none => s
def St.puts' (s : St) : List (Nat × Ob) → St
  | [] => s
  | (i, o) :: l => St.puts' ⟨s.tm, s.ob.set i o⟩ l
theorem put_eq (s : St) (dst : Option Nat) (v : Av) (k : St → Prop) : s.put dst v k = k (s.put' dst v) := by
  cases dst with
  | none => obtain ⟨tm, ob⟩ := s; rfl
  | some d => obtain ⟨tm, ob⟩ := s; simp only [St.put, setK_eq]; rfl
theorem puts_eq (k : St → Prop) : ∀ (l : List (Nat × Ob)) (s : St), St.puts k l s = k (s.puts' l) := by
  intro l
  induction l with
  | nil => intro s; rfl
  | cons p l ih => obtain ⟨i, o⟩ := p; intro s; obtain ⟨tm, ob⟩ := s; simp only [St.puts, setK_eq]; exact ih _
def St.after' (s : St) (dst : Option Nat) (v : Av) (u : List (Nat × Ob)) : St := (s.put' dst v).puts' u
theorem after_eq (s : St) (dst : Option Nat) (v : Av) (u : List (Nat × Ob)) (k : St → Prop) : s.after dst v u k = k (s.after' dst v u) := by
  unfold St.after; rw [put_eq, puts_eq]; rfl

/-- consecutive cells -/
def CellsAt (w : World) (b off : Nat) (us : List Value) : Prop := ∀ j u, us[j]? = some u → w.cell? ⟨b, off + j, none⟩ = some u
def seg (us : List Value) (i sz : Nat) : List Value := (us.drop (i * sz)).take sz
/-- what is known of cells that do not change -/
def Hold (w : World) : Av → List Value → Prop
  | .any, vs => ∃ u, vs = [u]
  | .kb b, vs => vs = [.bool b]
  | .val v, vs => vs = [v]
  | .nat m K, vs => ∃ A xs c, vs = [.slice A xs.length c] ∧ Lim w A c xs ∧ xs.length ≤ K ∧ val xs = m
  | .natC m K, vs => ∃ A c, vs = [.slice A (limbs m).length c] ∧ Lim w A c (limbs m) ∧ (limbs m).length ≤ K
  | .int n K, vs => ∃ b s, vs = [b, s] ∧ IsInt w b s n K
  | .intC n K, vs => ∃ A c, vs = [.bool (decide (n < 0)), .slice A (limbs n.natAbs).length c] ∧ Lim w A c (limbs n.natAbs) ∧ SzI n K
  | .rat q K, vs => ∃ b s t, vs = [b, s, t] ∧ IsRat w b s t q K
  | .ratC q K, vs => ∃ A c B d, vs = [.bool (decide (q.num < 0)), .slice A (limbs q.num.natAbs).length c, .slice B (limbs q.den).length d] ∧ Lim w A c (limbs q.num.natAbs) ∧ Lim w B d (limbs q.den) ∧ Sz q K
  | .list sz n f, vs => ∃ A c, vs = [.slice A n c] ∧ (n ≤ c ∧ c ≤ 9223372036854775807) ∧ (0 < n → ∃ b off us, A = some ⟨b, off, none⟩ ∧ b < w.heap.size ∧ us.length = n * sz ∧ CellsAt w b off us ∧ (∀ u ∈ us, u.oneCell' = true) ∧ ∀ i, i < n → Hold w (f i) (seg us i sz))
  | .pp cs, vs => ∃ b off us, vs = [.pointer (some ⟨b, off, none⟩)] ∧ b < w.heap.size ∧ CellsAt w b off us ∧ (∀ u ∈ us, u.oneCell' = true) ∧ Hold w cs us
  | .agg cs, vs => ∃ us, vs = [.agg us.toArray] ∧ Hold w cs us
  | .tup cs, vs => ∃ us, vs = [.tuple us.toArray] ∧ Hold w cs us
  | .nil, vs => vs = []
  | .cons a b, vs => ∃ x y, vs = x ++ y ∧ Hold w a x ∧ Hold w b y
  | _, _ => False
/-- the world w' is as w was, but for blocks of our own -/
structure Agree (own : Nat → Prop) (w w' : World) : Prop where
  size : w.heap.size ≤ w'.heap.size
  block : ∀ b, b < w.heap.size → ¬ own b → w'.heap[b]? = w.heap[b]?
theorem Agree.refl (own : Nat → Prop) (w : World) : Agree own w w := ⟨Nat.le_refl _, fun _ _ _ => rfl⟩
theorem Agree.trans {own : Nat → Prop} {w w' w'' : World} (h : Agree own w w') (k : Agree own w' w'') : Agree own w w'' :=
  ⟨Nat.le_trans h.size k.size, fun b hb hn => (k.block b (Nat.lt_of_lt_of_le hb h.size) hn).trans (h.block b hb hn)⟩
theorem Agree.sub {own own' : Nat → Prop} {w w' : World} (h : Agree own w w') (hs : ∀ b, b < w.heap.size → own b → own' b) : Agree own' w w' :=
  ⟨h.size, fun b hb hn => h.block b hb fun ho => hn (hs b hb ho)⟩
/-- a fact that no change of our own blocks touches -/
def Rob (own : Nat → Prop) (w : World) (a : Av) (vs : List Value) : Prop := ∀ w', Agree own w w' → Hold w' a vs
theorem Rob.here {own : Nat → Prop} {w : World} {a : Av} {vs : List Value} (h : Rob own w a vs) : Hold w a vs := h w (.refl _ _)
theorem Rob.agree {own : Nat → Prop} {w w' : World} {a : Av} {vs : List Value} (h : Rob own w a vs) (hg : Agree own w w') : Rob own w' a vs := fun w'' h' => h w'' (hg.trans h')
theorem Rob.own {own own' : Nat → Prop} {w : World} {a : Av} {vs : List Value} (h : Rob own w a vs) (hs : ∀ b, b < w.heap.size → own' b → own b) : Rob own' w a vs := fun w'' h' => h w'' (h'.sub hs)
structure Env where
  β : Nat → Nat
  σ : Nat → Value
/-- a row's slice from its element j on; z cells an element -/
def subV (A : Option Addr) (n c j z : Nat) : Value := .slice (if c = j then A else A.map (·.add (j * z))) (n - j) (c - j)
def Ok (E : Env) (own : Nat → Prop) (w : World) : Av → List Value → Prop
  | .ptr k off, vs => vs = [.pointer (some ⟨E.β k, off, none⟩)]
  | .rptr k sz j off, vs => match Nat.beq sz 0 with
    | true => ∃ A n c, E.σ k = .slice A n c ∧ vs = [subV A n c j off]
    | false => ∃ g n c, E.σ k = .slice (some ⟨g, 0, none⟩) n c ∧ vs = [.pointer (some ⟨g, j * sz + off, none⟩)]
  | .row k, vs => vs = [E.σ k] ∧ (E.σ k).oneCell' = true
  | .agg cs, vs => ∃ us, vs = [.agg us.toArray] ∧ Ok E own w cs us
  | .tup cs, vs => ∃ us, vs = [.tuple us.toArray] ∧ Ok E own w cs us
  | .nil, vs => vs = []
  | .cons a b, vs => ∃ x y, vs = x ++ y ∧ Ok E own w a x ∧ Ok E own w b y
  | .any, vs => Rob own w .any vs
  | .kb b, vs => Rob own w (.kb b) vs
  | .val v, vs => Rob own w (.val v) vs
  | .nat m K, vs => Rob own w (.nat m K) vs
  | .natC m K, vs => Rob own w (.natC m K) vs
  | .int m K, vs => Rob own w (.int m K) vs
  | .intC m K, vs => Rob own w (.intC m K) vs
  | .rat m K, vs => Rob own w (.rat m K) vs
  | .ratC m K, vs => Rob own w (.ratC m K) vs
  | .list sz n f, vs => Rob own w (.list sz n f) vs
  | .pp cs, vs => Rob own w (.pp cs) vs
theorem Ok.rp {E : Env} {own : Nat → Prop} {w : World} {k sz j off : Nat} {vs : List Value} (h : Ok E own w (.rptr k sz j off) vs) (hz : Nat.beq sz 0 = false) : ∃ g n c, E.σ k = .slice (some ⟨g, 0, none⟩) n c ∧ vs = [.pointer (some ⟨g, j * sz + off, none⟩)] := by
  unfold Ok at h; rw [hz] at h; exact h
theorem Ok.rp0 {E : Env} {own : Nat → Prop} {w : World} {k sz j off : Nat} {vs : List Value} (h : Ok E own w (.rptr k sz j off) vs) (hz : Nat.beq sz 0 = true) : ∃ A n c, E.σ k = .slice A n c ∧ vs = [subV A n c j off] := by
  unfold Ok at h; rw [hz] at h; exact h
theorem Ok.rp_mk {E : Env} {own : Nat → Prop} {w : World} {k sz j off : Nat} {vs : List Value} (hz : Nat.beq sz 0 = false) (h : ∃ g n c, E.σ k = .slice (some ⟨g, 0, none⟩) n c ∧ vs = [.pointer (some ⟨g, j * sz + off, none⟩)]) : Ok E own w (.rptr k sz j off) vs := by
  unfold Ok; rw [hz]; exact h
theorem Ok.agree {E : Env} {own : Nat → Prop} {w w' : World} (hg : Agree own w w') : ∀ {a : Av} {vs : List Value}, Ok E own w a vs → Ok E own w' a vs := by
  intro a
  induction a with
  | cons a b iha ihb => rintro vs ⟨x, y, e, hx, hy⟩; exact ⟨x, y, e, iha hx, ihb hy⟩
  | agg c ih => rintro vs ⟨us, e, h⟩; exact ⟨us, e, ih h⟩
  | tup c ih => rintro vs ⟨us, e, h⟩; exact ⟨us, e, ih h⟩
  | ptr => intro vs h; exact h
  | rptr => intro vs h; exact h
  | row => intro vs h; exact h
  | nil => intro vs h; exact h
  | _ => intro vs h; exact Rob.agree h hg
theorem Ok.own {E : Env} {own own' : Nat → Prop} {w : World} (hs : ∀ b, b < w.heap.size → own' b → own b) : ∀ {a : Av} {vs : List Value}, Ok E own w a vs → Ok E own' w a vs := by
  intro a
  induction a with
  | cons a b iha ihb => rintro vs ⟨x, y, e, hx, hy⟩; exact ⟨x, y, e, iha hx, ihb hy⟩
  | agg c ih => rintro vs ⟨us, e, h⟩; exact ⟨us, e, ih h⟩
  | tup c ih => rintro vs ⟨us, e, h⟩; exact ⟨us, e, ih h⟩
  | ptr => intro vs h; exact h
  | rptr => intro vs h; exact h
  | row => intro vs h; exact h
  | nil => intro vs h; exact h
  | _ => intro vs h; exact Rob.own h hs
theorem Ok.env {E E' : Env} {own : Nat → Prop} {w : World} : ∀ {a : Av}, (∀ i, a.names i = true → E'.β i = E.β i ∧ E'.σ i = E.σ i) → ∀ {vs : List Value}, Ok E own w a vs → Ok E' own w a vs := by
  intro a
  induction a with
  | cons a b iha ihb =>
    rintro hn vs ⟨x, y, e, hx, hy⟩
    exact ⟨x, y, e, iha (fun i hi => hn i (by simp [Av.names, hi])) hx, ihb (fun i hi => hn i (by simp [Av.names, hi])) hy⟩
  | agg c ih => rintro hn vs ⟨us, e, h⟩; exact ⟨us, e, ih hn h⟩
  | tup c ih => rintro hn vs ⟨us, e, h⟩; exact ⟨us, e, ih hn h⟩
  | ptr k o => intro hn vs h; simp only [Ok] at h ⊢; rw [h, (hn k (by simp [Av.names])).1]
  | rptr k sz j o =>
    intro hn vs h
    unfold Ok at h ⊢
    cases hz : Nat.beq sz 0 <;> rw [hz] at h <;> obtain ⟨g, n, c, h1, h2⟩ := h <;> exact ⟨g, n, c, (hn k (by simp [Av.names])).2.trans h1, h2⟩
  | row k => intro hn vs h; simp only [Ok] at h ⊢; rw [(hn k (by simp [Av.names])).2]; exact h
  | nil => intro hn vs h; exact h
  | _ => intro hn vs h; exact h
theorem Hold.len {w : World} : ∀ {a : Av} {vs : List Value}, Hold w a vs → vs.length = a.size := by
  intro a
  induction a with
  | cons a b iha ihb => rintro vs ⟨x, y, rfl, hx, hy⟩; rw [List.length_append, iha hx, ihb hy]; rfl
  | any => rintro vs ⟨u, rfl⟩; rfl
  | kb => rintro vs h; cases h; rfl
  | val => rintro vs h; cases h; rfl
  | nat => rintro vs ⟨A, xs, c, rfl, _⟩; rfl
  | natC => rintro vs ⟨A, c, rfl, _⟩; rfl
  | int => rintro vs ⟨b, s, rfl, _⟩; rfl
  | intC => rintro vs ⟨A, c, rfl, _⟩; rfl
  | rat => rintro vs ⟨b, s, t, rfl, _⟩; rfl
  | ratC => rintro vs ⟨A, c, B, d, rfl, _⟩; rfl
  | list => rintro vs ⟨A, c, rfl, _⟩; rfl
  | pp => rintro vs ⟨b, off, us, rfl, _⟩; rfl
  | agg => rintro vs ⟨us, rfl, _⟩; rfl
  | tup => rintro vs ⟨us, rfl, _⟩; rfl
  | nil => rintro vs h; cases h; rfl
  | ptr => rintro vs h; exact h.elim
  | rptr => rintro vs h; exact h.elim
  | row => rintro vs h; exact h.elim
theorem Ok.len {E : Env} {own : Nat → Prop} {w : World} : ∀ {a : Av} {vs : List Value}, Ok E own w a vs → vs.length = a.size := by
  intro a
  induction a with
  | cons a b iha ihb => rintro vs ⟨x, y, rfl, hx, hy⟩; rw [List.length_append, iha hx, ihb hy]; rfl
  | agg => rintro vs ⟨us, rfl, _⟩; rfl
  | tup => rintro vs ⟨us, rfl, _⟩; rfl
  | nil => rintro vs h; cases h; rfl
  | ptr => rintro vs h; cases h; rfl
  | rptr k sz j o =>
    intro vs h
    cases hz : Nat.beq sz 0 with
    | true => obtain ⟨_, _, _, _, h⟩ := h.rp0 hz; cases h; rfl
    | false => obtain ⟨_, _, _, _, h⟩ := h.rp hz; cases h; rfl
  | row => rintro vs h; rw [h.1]; rfl
  | _ => intro vs h; exact (Rob.here h).len
theorem Rob.ok {E : Env} {own : Nat → Prop} {w : World} : ∀ {a : Av} {vs : List Value}, Rob own w a vs → Ok E own w a vs := by
  intro a
  induction a with
  | cons a b iha ihb =>
    intro vs h
    obtain ⟨x, y, rfl, hx, hy⟩ := h.here
    have hl := hx.len
    refine ⟨x, y, rfl, iha fun w' hg => ?_, ihb fun w' hg => ?_⟩
    · obtain ⟨x', y', e, hx', hy'⟩ := h w' hg
      have := List.append_inj e (by rw [hl, hx'.len])
      rw [this.1]; exact hx'
    · obtain ⟨x', y', e, hx', hy'⟩ := h w' hg
      have := List.append_inj e (by rw [hl, hx'.len])
      rw [this.2]; exact hy'
  | agg c ih =>
    intro vs h
    obtain ⟨us, rfl, hu⟩ := h.here
    refine ⟨us, rfl, ih fun w' hg => ?_⟩
    obtain ⟨us', e, hu'⟩ := h w' hg
    simp at e
    rw [e]; exact hu'
  | tup c ih =>
    intro vs h
    obtain ⟨us, rfl, hu⟩ := h.here
    refine ⟨us, rfl, ih fun w' hg => ?_⟩
    obtain ⟨us', e, hu'⟩ := h w' hg
    simp at e
    rw [e]; exact hu'
  | nil => intro vs h; exact h.here
  | ptr => intro vs h; exact h.here.elim
  | rptr => intro vs h; exact h.here.elim
  | row => intro vs h; exact h.here.elim
  | _ => intro vs h; exact h
/-- nothing of our own in it -/
def Av.pers : Av → Bool
  | .ptr _ _ => false
  | .rptr _ _ _ _ => false
  | .row _ => false
  | .agg c => c.pers
  | .tup c => c.pers
  | .cons a b => a.pers && b.pers
  | _ => true
theorem Ok.rob {E : Env} {own : Nat → Prop} {w : World} : ∀ {a : Av}, a.pers = true → ∀ {vs : List Value}, Ok E own w a vs → Rob own w a vs := by
  intro a
  induction a with
  | cons a b iha ihb =>
    rintro hp vs ⟨x, y, rfl, hx, hy⟩ w' hg
    simp [Av.pers] at hp
    exact ⟨x, y, rfl, iha hp.1 hx w' hg, ihb hp.2 hy w' hg⟩
  | agg c ih => rintro hp vs ⟨us, rfl, h⟩ w' hg; exact ⟨us, rfl, ih hp h w' hg⟩
  | tup c ih => rintro hp vs ⟨us, rfl, h⟩ w' hg; exact ⟨us, rfl, ih hp h w' hg⟩
  | nil => intro hp vs h w' hg; exact h
  | ptr => intro hp; cases hp
  | rptr => intro hp; cases hp
  | row => intro hp; cases hp
  | _ => intro hp vs h; exact h
theorem Ok.appV {E : Env} {own : Nat → Prop} {w : World} {b : Av} {ys : List Value} (hb : Ok E own w b ys) : ∀ {a : Av} {xs : List Value}, Ok E own w a xs → Ok E own w (a.appV b) (xs ++ ys) := by
  intro a
  induction a with
  | cons a l _ ih => rintro xs ⟨x, y, rfl, hx, hy⟩; exact ⟨x, y ++ ys, List.append_assoc _ _ _, hx, ih hy⟩
  | nil => intro xs h; cases h; exact hb
  | _ => intro xs h; exact ⟨xs, ys, rfl, h, hb⟩

structure SplitOK (n : Nat) (l x y : Av) : Prop where
  ok : ∀ (E : Env) (own : Nat → Prop) (w : World) (vs : List Value), Ok E own w l vs → ∃ p q, vs = p ++ q ∧ p.length = n ∧ Ok E own w x p ∧ Ok E own w y q
  hold : ∀ (w : World) (vs : List Value), Hold w l vs → ∃ p q, vs = p ++ q ∧ p.length = n ∧ Hold w x p ∧ Hold w y q
  flat : l.flat = true → x.flat = true ∧ y.flat = true
  pers : l.pers = true → x.pers = true ∧ y.pers = true
theorem flat_cons {a b : Av} : (Av.cons a b).flat = (a.flat && b.flat) := by
  simp only [Av.flat]
  cases a.flat <;> rfl
theorem SplitOK.step {n m : Nat} {a l x y : Av} (h : SplitOK n l x y) (ha : a.size = m) : SplitOK (n + m) (.cons a l) (.cons a x) y := by
  refine ⟨fun E own w vs ⟨p, q, e, hp, hq⟩ => ?_, fun w vs ⟨p, q, e, hp, hq⟩ => ?_, fun hf => ?_, fun hf => ?_⟩
  · obtain ⟨p', q', e', hl, hx, hy⟩ := h.ok E own w q hq
    refine ⟨p ++ p', q', by rw [e, e', List.append_assoc], ?_, ⟨p, p', rfl, hp, hx⟩, hy⟩
    rw [List.length_append, hl, hp.len, ha, Nat.add_comm]
  · obtain ⟨p', q', e', hl, hx, hy⟩ := h.hold w q hq
    refine ⟨p ++ p', q', by rw [e, e', List.append_assoc], ?_, ⟨p, p', rfl, hp, hx⟩, hy⟩
    rw [List.length_append, hl, hp.len, ha, Nat.add_comm]
  · rw [flat_cons, Bool.and_eq_true] at hf
    have := h.flat hf.2
    exact ⟨by rw [flat_cons, hf.1, this.1]; rfl, this.2⟩
  · simp only [Av.pers, Bool.and_eq_true] at hf
    have := h.pers hf.2
    exact ⟨by simp only [Av.pers, hf.1, this.1]; rfl, this.2⟩
/-- a number in parts -/
theorem SplitOK.intC {n : Nat} {z : Int} {K : Nat} {l x y : Av} (h : SplitOK n (.cons (.val (.bool (decide (z < 0)))) (.cons (.natC z.natAbs K) l)) x y) : SplitOK n (.cons (.intC z K) l) x y := by
  refine ⟨fun E own w vs ⟨p, q, e, hp, hq⟩ => ?_, fun w vs ⟨p, q, e, hp, hq⟩ => ?_, fun hf => ?_, fun hf => ?_⟩
  · obtain ⟨A, c, rfl, _, _⟩ := Rob.here hp
    refine h.ok E own w vs ⟨[_], _ :: q, e, fun w' hg => rfl, [_], q, rfl, fun w' hg => ?_, hq⟩
    obtain ⟨A', c', e', h1, h2⟩ := hp w' hg
    simp at e'
    exact ⟨A', c', by rw [e'.1, e'.2], h1, h2⟩
  · obtain ⟨A, c, rfl, h1, h2⟩ := hp
    exact h.hold w vs ⟨[_], _ :: q, e, rfl, [_], q, rfl, ⟨A, c, rfl, h1, h2⟩, hq⟩
  · rw [flat_cons, Bool.and_eq_true] at hf
    exact h.flat (by rw [flat_cons, flat_cons, hf.2]; rfl)
  · simp only [Av.pers, Bool.and_eq_true] at hf
    exact h.pers (by simp only [Av.pers, hf.2]; rfl)
theorem SplitOK.ratC {n : Nat} {q : Rat} {K : Nat} {l x y : Av} (h : SplitOK n (.cons (.intC q.num K) (.cons (.natC q.den K) l)) x y) : SplitOK n (.cons (.ratC q K) l) x y := by
  refine ⟨fun E own w vs ⟨p, r, e, hp, hq⟩ => ?_, fun w vs ⟨p, r, e, hp, hq⟩ => ?_, fun hf => ?_, fun hf => ?_⟩
  · obtain ⟨A, c, B, d, rfl, _, _, _⟩ := Rob.here hp
    refine h.ok E own w vs ⟨[_, _], _ :: r, e, fun w' hg => ?_, [_], r, rfl, fun w' hg => ?_, hq⟩
    · obtain ⟨A', c', B', d', e', h1, h2, h3⟩ := hp w' hg
      simp at e'
      obtain ⟨⟨rfl, rfl⟩, rfl, rfl⟩ := e'
      exact ⟨A, c, rfl, h1, h3.1⟩
    · obtain ⟨A', c', B', d', e', h1, h2, h3⟩ := hp w' hg
      simp at e'
      obtain ⟨⟨rfl, rfl⟩, rfl, rfl⟩ := e'
      exact ⟨B, d, rfl, h2, h3.2⟩
  · obtain ⟨A, c, B, d, rfl, h1, h2, h3⟩ := hp
    exact h.hold w vs ⟨[_, _], _ :: r, e, ⟨A, c, rfl, h1, h3.1⟩, [_], r, rfl, ⟨B, d, rfl, h2, h3.2⟩, hq⟩
  · rw [flat_cons, Bool.and_eq_true] at hf
    exact h.flat (by rw [flat_cons, flat_cons, hf.2]; rfl)
  · simp only [Av.pers, Bool.and_eq_true] at hf
    exact h.pers (by simp only [Av.pers, hf.2]; rfl)
theorem SplitOK.zero (l : Av) : SplitOK 0 l .nil l :=
  ⟨fun _ _ _ vs h => ⟨[], vs, rfl, rfl, rfl, h⟩, fun _ vs h => ⟨[], vs, rfl, rfl, rfl, h⟩, fun h => ⟨rfl, h⟩, fun h => ⟨rfl, h⟩⟩
theorem split_ok {R : Type} {no : R} (G : R → Prop) (hno : ¬ G no) : ∀ (fu n : Nat) (l : Av) (k : Av → Av → R), G (Av.split no fu n l k) → ∃ x y, SplitOK n l x y ∧ G (k x y) := by
  intro fu
  induction fu with
  | zero => intro n l k h; exact (hno (by simpa only [Av.split] using h)).elim
  | succ fu ih =>
    intro n l k h
    cases n with
    | zero => exact ⟨.nil, l, .zero l, by simpa only [Av.split] using h⟩
    | succ n =>
      cases l with
      | cons a l =>
        cases a with
        | intC z K =>
          cases n with
          | zero => obtain ⟨x, y, hs, hg⟩ := ih _ _ _ h; exact ⟨x, y, hs.intC, hg⟩
          | succ n => obtain ⟨x, y, hs, hg⟩ := ih _ _ _ h; exact ⟨_, y, hs.step (m := 2) (a := (.intC z K)) rfl, hg⟩
        | ratC q K =>
          cases n with
          | zero => obtain ⟨x, y, hs, hg⟩ := ih _ _ _ h; exact ⟨x, y, hs.intC.ratC, hg⟩
          | succ n =>
            cases n with
            | zero => obtain ⟨x, y, hs, hg⟩ := ih _ _ _ h; exact ⟨x, y, hs.ratC, hg⟩
            | succ n => obtain ⟨x, y, hs, hg⟩ := ih _ _ _ h; exact ⟨_, y, hs.step (m := 3) (a := (.ratC q K)) rfl, hg⟩
        | int z K =>
          cases n with
          | zero => exact (hno h).elim
          | succ n => obtain ⟨x, y, hs, hg⟩ := ih _ _ _ h; exact ⟨_, y, hs.step (m := 2) (a := (.int z K)) rfl, hg⟩
        | rat z K =>
          cases n with
          | zero => exact (hno h).elim
          | succ n =>
            cases n with
            | zero => exact (hno h).elim
            | succ n => obtain ⟨x, y, hs, hg⟩ := ih _ _ _ h; exact ⟨_, y, hs.step (m := 3) (a := (.rat z K)) rfl, hg⟩
        | nil => exact (hno h).elim
        | cons => exact (hno h).elim
        | _ => obtain ⟨x, y, hs, hg⟩ := ih _ _ _ h; exact ⟨_, y, hs.step rfl, hg⟩
      | _ => exact (hno h).elim
theorem mid_ok {off n : Nat} {cs z : Av} (h : Av.mid none off n cs some = some z) : ∃ p q r, SplitOK off cs p q ∧ SplitOK n q z r := by
  unfold Av.mid at h
  obtain ⟨p, q, h1, h2⟩ := split_ok (fun o => o = some z) (by simp) _ _ _ _ h
  obtain ⟨x, r, h3, h4⟩ := split_ok (fun o => o = some z) (by simp) _ _ _ _ h2
  simp at h4
  subst h4
  exact ⟨p, q, r, h1, h3⟩
theorem splice_ok {off n : Nat} {cs c z : Av} (h : Av.splice none off n cs c some = some z) : ∃ p q x r, SplitOK off cs p q ∧ SplitOK n q x r ∧ c.size = n ∧ z = p.appV (c.appV r) := by
  unfold Av.splice at h
  obtain ⟨p, q, h1, h2⟩ := split_ok (fun o => o = some z) (by simp) _ _ _ _ h
  obtain ⟨x, r, h3, h4⟩ := split_ok (fun o => o = some z) (by simp) _ _ _ _ h2
  rw [hasSz_eq, app_eq, app_eq] at h4
  by_cases hn : c.size = n
  · rw [if_pos hn] at h4
    simp at h4
    exact ⟨p, q, x, r, h1, h3, hn, h4.symm⟩
  · rw [if_neg hn] at h4; cases h4
/-- a block turned into something else -/
def World.spoil (w : World) (b : Nat) : World := { w with heap := w.heap.setIfInBounds b (.map #[] 0) }
theorem spoil_agree {own : Nat → Prop} {w : World} {b : Nat} (h : own b) : Agree own w (World.spoil w b) := by
  refine ⟨by simp [World.spoil], fun c hc hn => ?_⟩
  simp only [World.spoil]
  rw [Array.getElem?_setIfInBounds_ne]
  intro e; subst e; exact hn h
theorem spoil_cell {w : World} {b o : Nat} (hb : b < w.heap.size) : (World.spoil w b).cell? ⟨b, o, none⟩ = none := by
  simp [World.cell?, World.spoil, hb]
theorem cell_agree {own : Nat → Prop} {w w' : World} (hg : Agree own w w') {b o : Nat} (hb : b < w.heap.size) (hn : ¬ own b) : w'.cell? ⟨b, o, none⟩ = w.cell? ⟨b, o, none⟩ := by
  simp only [World.cell?, hg.block b hb hn]
theorem cellsAt_unique {w : World} {b off : Nat} {us vs : List Value} (h : CellsAt w b off us) (k : CellsAt w b off vs) (hl : us.length = vs.length) : us = vs := by
  apply List.ext_getElem? 
  intro j
  cases hu : us[j]? with
  | none =>
    rw [List.getElem?_eq_none_iff] at hu
    rw [eq_comm, List.getElem?_eq_none_iff]; omega
  | some u =>
    have hj : j < us.length := by
      rcases Nat.lt_or_ge j us.length with h | h
      · exact h
      · rw [List.getElem?_eq_none_iff.2 h] at hu; cases hu
    have h1 := h j u hu
    have h2 := k j vs[j] (List.getElem?_eq_getElem (by omega))
    rw [h1] at h2
    simp at h2
    rw [h2, List.getElem?_eq_getElem (by omega)]
theorem CellsAt.agree {own : Nat → Prop} {w w' : World} (hg : Agree own w w') {b off : Nat} {us : List Value} (hb : b < w.heap.size) (hn : ¬ own b) (h : CellsAt w b off us) : CellsAt w' b off us :=
  fun j u hu => (cell_agree hg hb hn).trans (h j u hu)
theorem Rob.pp {own : Nat → Prop} {w : World} {cs : Av} {vs : List Value} (h : Rob own w (.pp cs) vs) : ∃ b off us, vs = [.pointer (some ⟨b, off, none⟩)] ∧ b < w.heap.size ∧ CellsAt w b off us ∧ (∀ u ∈ us, u.oneCell' = true) ∧ Rob own w cs us := by
  obtain ⟨b, off, us, rfl, hb, hc, h1, hh⟩ := h.here
  refine ⟨b, off, us, rfl, hb, hc, h1, fun w' hg => ?_⟩
  obtain ⟨b', off', us', e, hb', hc', h1', hh'⟩ := h w' hg
  simp at e
  obtain ⟨rfl, rfl⟩ := e
  have hl : us.length = us'.length := by rw [hh.len, hh'.len]
  by_cases hz : us = []
  · subst hz
    have : us' = [] := List.length_eq_zero_iff.1 (by rw [← hl]; rfl)
    rw [this] at hh'; exact hh'
  · have hn : ¬ own b := by
      intro ho
      obtain ⟨b2, off2, us2, e2, _, hc2, _, hh2⟩ := h _ (spoil_agree (b := b) ho)
      simp at e2
      obtain ⟨rfl, rfl⟩ := e2
      have hl2 : us2.length = us.length := by rw [hh.len, hh2.len]
      cases us2 with
      | nil => exact hz (List.length_eq_zero_iff.1 hl2.symm)
      | cons u us2 =>
        have := hc2 0 u rfl
        rw [spoil_cell hb] at this; cases this
    rw [cellsAt_unique (hc.agree hg hb hn) hc' hl]; exact hh'
theorem Rob.lst {own : Nat → Prop} {w : World} {sz n : Nat} {f : Nat → Av} {vs : List Value} (h : Rob own w (.list sz n f) vs) : ∃ A c, vs = [.slice A n c] ∧ (n ≤ c ∧ c ≤ 9223372036854775807) ∧ (0 < n → ∃ b off us, A = some ⟨b, off, none⟩ ∧ b < w.heap.size ∧ us.length = n * sz ∧ (us ≠ [] → ¬ own b) ∧ CellsAt w b off us ∧ (∀ u ∈ us, u.oneCell' = true) ∧ ∀ i, i < n → Rob own w (f i) (seg us i sz)) := by
  obtain ⟨A, c, rfl, hc, hn⟩ := h.here
  refine ⟨A, c, rfl, hc, fun h0 => ?_⟩
  obtain ⟨b, off, us, rfl, hb, hl, hcs, h1, hh⟩ := hn h0
  have hno : us ≠ [] → ¬ own b := by
    intro hz ho
    obtain ⟨A2, c2, e2, _, k2⟩ := h _ (spoil_agree (b := b) ho)
    simp at e2
    obtain ⟨rfl, rfl⟩ := e2
    obtain ⟨b2, off2, us2, e2, _, hl2, hc2, _⟩ := k2 h0
    simp at e2
    obtain ⟨rfl, rfl⟩ := e2
    cases us2 with
    | nil => exact hz (List.length_eq_zero_iff.1 (hl.trans hl2.symm))
    | cons u us2 =>
      have := hc2 0 u rfl
      rw [spoil_cell hb] at this; cases this
  refine ⟨b, off, us, rfl, hb, hl, hno, hcs, h1, fun i hi w' hg => ?_⟩
  obtain ⟨A', c', e, _, k⟩ := h w' hg
  simp at e
  obtain ⟨rfl, rfl⟩ := e
  obtain ⟨b', off', us', e, hb', hl', hc', _, hh'⟩ := k h0
  simp at e
  obtain ⟨rfl, rfl⟩ := e
  by_cases hz : us = []
  · subst hz
    have : us' = [] := List.length_eq_zero_iff.1 (hl'.trans hl.symm)
    rw [this] at hh'; exact hh' i hi
  · rw [cellsAt_unique (hcs.agree hg hb (hno hz)) hc' (hl.trans hl'.symm)]; exact hh' i hi
theorem Rob.lst_mk {own : Nat → Prop} {w : World} {sz n c : Nat} {f : Nat → Av} {A : Option Addr} (hc : n ≤ c ∧ c ≤ 9223372036854775807) (h : 0 < n → ∃ b off us, A = some ⟨b, off, none⟩ ∧ b < w.heap.size ∧ us.length = n * sz ∧ (us ≠ [] → ¬ own b) ∧ CellsAt w b off us ∧ (∀ u ∈ us, u.oneCell' = true) ∧ ∀ i, i < n → Rob own w (f i) (seg us i sz)) : Rob own w (.list sz n f) [.slice A n c] := by
  intro w' hg
  refine ⟨A, c, rfl, hc, fun h0 => ?_⟩
  obtain ⟨b, off, us, rfl, hb, hl, hno, hcs, h1, hh⟩ := h h0
  refine ⟨b, off, us, rfl, Nat.lt_of_lt_of_le hb hg.size, hl, ?_, h1, fun i hi => hh i hi w' hg⟩
  by_cases hz : us = []
  · subst hz; intro j u hu; simp at hu
  · exact hcs.agree hg hb (hno hz)

def Own1 (E : Env) (k b : Nat) : Ob → Prop
  | .var _ => b = E.β k
  | .row _ _ _ _ => (E.σ k).ownBlock = some b
  | _ => False
def ownS (own0 : Nat → Prop) (s : St) (E : Env) (b : Nat) : Prop := own0 b ∨ ∃ k, Own1 E k b (s.obj k)
def ObOk (B : Nat) (E : Env) (own : Nat → Prop) (w : World) (k : Nat) : Ob → Prop
  | .none => True
  | .froz sz n f => Rob own w (.list sz n f) [E.σ k]
  | .var cs => ∃ us T, w.heap[E.β k]? = some (.cells us.toArray T (0, 0)) ∧ Ok E own w cs us
  | .row T sz n f => ∃ xs, w.ownsRow B T sz (E.σ k) n xs ∧ (∀ u ∈ xs, u.oneCell' = true) ∧ ∀ i, i < n → Rob own w (f i) (seg xs i sz)
/-- what was there before is as it was, but for the blocks that were handed over -/
structure Fr (ext : Nat → Prop) (w0 w : World) : Prop where
  os : w.os = w0.os
  tape : w.tape = w0.tape
  output : w.output = w0.output
  size : w0.heap.size ≤ w.heap.size
  block : ∀ b, b < w0.heap.size → ¬ ext b → w.heap[b]? = w0.heap[b]?
structure Con (own0 ext : Nat → Prop) (w0 : World) (s : St) (E : Env) (a : Act) (w : World) : Prop where
  dfs : a.defers = []
  len : a.tmps.size = s.tm.length
  olen : s.ob.length = s.tm.length
  slots : ∀ t, t < s.tm.length → Ok E (ownS own0 s E) w (s.slot t) [a.tmps.getD t undef]
  objs : ∀ k, ObOk w0.heap.size E (ownS own0 s E) w k (s.obj k)
  apart : ∀ k k' b, Own1 E k b (s.obj k) → Own1 E k' b (s.obj k') → k = k'
  new : ∀ k b, Own1 E k b (s.obj k) → (w0.heap.size ≤ b ∨ ext b) ∧ b < w.heap.size ∧ ¬ own0 b
  frame : Fr ext w0 w
  out : ∀ b, own0 b → b < w0.heap.size
  pin : ∀ c, ext c → E.β 0 = c
theorem slot_set (tm : List Av) (ob : List Ob) (d t : Nat) (v : Av) : (St.mk (tm.set d v) ob).slot t = if d = t ∧ d < tm.length then v else (St.mk tm ob).slot t := by
  simp only [St.slot, List.getD_eq_getElem?_getD, List.getElem?_set]
  by_cases h : d = t
  · subst h
    by_cases h2 : d < tm.length
    · simp [h2]
    · simp [h2]
  · simp [h]
theorem obj_set (tm : List Av) (ob : List Ob) (d t : Nat) (v : Ob) : (St.mk tm (ob.set d v)).obj t = if d = t ∧ d < ob.length then v else (St.mk tm ob).obj t := by
  simp only [St.obj, List.getD_eq_getElem?_getD, List.getElem?_set]
  by_cases h : d = t
  · subst h
    by_cases h2 : d < ob.length
    · simp [h2]
    · simp [h2]
  · simp [h]
theorem obj_lt {s : St} {k : Nat} (h : s.obj k ≠ .none) : k < s.ob.length := by
  rcases Nat.lt_or_ge k s.ob.length with h1 | h1
  · exact h1
  · exact absurd (by simp [St.obj, List.getD_eq_getElem?_getD, List.getElem?_eq_none_iff.2 h1]) h
theorem put_getD (a : Act) (d t : Nat) (u : Value) : (a.put (some d) u).tmps.getD t undef = if d = t ∧ d < a.tmps.size then u else a.tmps.getD t undef := by
  simp only [Act.put, Array.getD_eq_getD_getElem?, Array.getElem?_setIfInBounds]
  by_cases h : d = t
  · subst h
    by_cases h2 : d < a.tmps.size
    · simp [h2]
    · simp [h2]
  · simp [h]
theorem ownsRow_move {w w' : World} {B T sz n : Nat} {v : Value} {xs : List Value} (h : w.ownsRow B T sz v n xs) (hb : ∀ b, v.ownBlock = some b → w'.heap[b]? = w.heap[b]?) : w'.ownsRow B T sz v n xs := by
  obtain ⟨hl, h | ⟨g, cap, cur, rfl, h1, h2, h3⟩⟩ := h
  · exact ⟨hl, .inl h⟩
  · exact ⟨hl, .inr ⟨g, cap, cur, rfl, h1, (hb g rfl).trans h2, h3⟩⟩
theorem ObOk.move {B : Nat} {E E' : Env} {own own' : Nat → Prop} {w w' : World} {k : Nat} {o : Ob} (h : ObOk B E own w k o) (he : E'.β k = E.β k ∧ E'.σ k = E.σ k) (hn : ∀ i, o.names i = true → E'.β i = E.β i ∧ E'.σ i = E.σ i)
    (hs : ∀ b, b < w.heap.size → own' b → own b) (hg : Agree own' w w') (hb : ∀ b, Own1 E k b o → w'.heap[b]? = w.heap[b]?) : ObOk B E' own' w' k o := by
  cases o with
  | none => trivial
  | froz sz n f => simp only [ObOk] at h ⊢; rw [he.2]; exact (Rob.own h hs).agree hg
  | var cs =>
    obtain ⟨us, T, h1, h2⟩ := h
    exact ⟨us, T, by rw [he.1, hb _ rfl]; exact h1, ((h2.env hn).own hs).agree hg⟩
  | row T sz n f =>
    obtain ⟨xs, h1, h2, h3⟩ := h
    refine ⟨xs, by rw [he.2]; exact ownsRow_move h1 hb, h2, fun i hi => ((h3 i hi).own hs).agree hg⟩
theorem Own1.env {E E' : Env} {k b : Nat} {o : Ob} (he : E'.β k = E.β k ∧ E'.σ k = E.σ k) : Own1 E' k b o ↔ Own1 E k b o := by
  cases o with
  | var cs => simp only [Own1, he.1]
  | row => simp only [Own1, he.2]
  | none => exact Iff.rfl
  | froz => exact Iff.rfl
theorem Fr.refl (ext : Nat → Prop) (w : World) : Fr ext w w := ⟨rfl, rfl, rfl, Nat.le_refl _, fun _ _ _ => rfl⟩
section
variable {own0 ext : Nat → Prop} {w0 w : World} {s : St} {E : Env} {a : Act}
/-- a slot takes a value -/
theorem Con.put (h : Con own0 ext w0 s E a w) (dst : Option Nat) {v : Av} {u : Value} (hv : Ok E (ownS own0 s E) w v [u]) : Con own0 ext w0 (s.put' dst v) E (a.put dst u) w := by
  cases dst with
  | none => exact h
  | some d =>
    obtain ⟨tm, ob⟩ := s
    refine ⟨h.dfs, by simp [Act.put, St.put', h.len], by simp [St.put', h.olen], fun t ht => ?_, h.objs, h.apart, h.new, h.frame, h.out, h.pin⟩
    simp only [St.put', List.length_set] at ht
    simp only [St.put']
    rw [slot_set, put_getD, h.len]
    by_cases hd : d = t ∧ d < tm.length
    · rw [if_pos hd, if_pos hd]; exact hv
    · rw [if_neg hd, if_neg hd]; exact h.slots t ht
/-- the world has changed elsewhere -/
theorem Con.world {w' : World} (h : Con own0 ext w0 s E a w) (hg : Agree (ownS own0 s E) w w') (hb : ∀ k b, Own1 E k b (s.obj k) → w'.heap[b]? = w.heap[b]?) (hf : Fr ext w0 w') : Con own0 ext w0 s E a w' :=
  ⟨h.dfs, h.len, h.olen, fun t ht => (h.slots t ht).agree hg, fun k => (h.objs k).move ⟨rfl, rfl⟩ (fun _ _ => ⟨rfl, rfl⟩) (fun _ _ h => h) hg (hb k), h.apart,
    fun k b hk => ⟨(h.new k b hk).1, Nat.lt_of_lt_of_le (h.new k b hk).2.1 hg.size, (h.new k b hk).2.2⟩, hf, h.out, h.pin⟩
theorem Fr.drew (h : Fr ext w0 w) : Fr ext w0 w.drew := ⟨h.os, h.tape, h.output, h.size, h.block⟩
theorem Con.drew (h : Con own0 ext w0 s E a w) : Con own0 ext w0 s E a w.drew :=
  h.world ⟨Nat.le_refl _, fun _ _ _ => rfl⟩ (fun _ _ _ => rfl) h.frame.drew
/-- a call that leaves what there was -/
theorem Con.call {w' : World} (h : Con own0 ext w0 s E a w) (hb : Below w.heap.size w w') : Con own0 ext w0 s E a w' :=
  h.world ⟨hb.size, fun b hl _ => hb.block b hl⟩ (fun k b hk => hb.block b (h.new k b hk).2.1)
    ⟨hb.os.trans h.frame.os, hb.tape.trans h.frame.tape, hb.output.trans h.frame.output, Nat.le_trans h.frame.size hb.size, fun b hl hn => (hb.block b (Nat.lt_of_lt_of_le hl h.frame.size)).trans (h.frame.block b hl hn)⟩
theorem seg_len {us : List Value} {n sz i : Nat} (hl : us.length = n * sz) (hi : i < n) : (seg us i sz).length = sz := by
  unfold seg
  rw [List.length_take, List.length_drop, hl]
  have : (i + 1) * sz ≤ n * sz := Nat.mul_le_mul_right sz hi
  rw [Nat.add_mul, Nat.one_mul] at this
  omega
theorem cellsAt_take {w : World} {g : Nat} {cur : Array Value} {T m : Nat} (h : w.heap[g]? = some (.cells cur T (0, 0))) : CellsAt w g 0 (cur.toList.take m) := by
  intro j u hu
  rw [List.getElem?_take] at hu
  by_cases hj : j < m
  · rw [if_pos hj] at hu
    simp only [World.cell?, h]
    simpa using hu
  · rw [if_neg hj] at hu; cases hu
/-- a row changes no more -/
theorem Con.freeze (h : Con own0 ext w0 s E a w) {k T sz n : Nat} {f : Nat → Av} (hk : s.obj k = .row T sz n f) :
    Con own0 ext w0 ⟨s.tm, s.ob.set k (.froz sz n f)⟩ E a w ∧ Rob (ownS own0 ⟨s.tm, s.ob.set k (.froz sz n f)⟩ E) w (.list sz n f) [E.σ k] := by
  have hlt : k < s.ob.length := obj_lt (by rw [hk]; simp)
  have ho : ∀ j, (St.mk s.tm (s.ob.set k (.froz sz n f))).obj j = if k = j then .froz sz n f else s.obj j := by
    intro j; rw [obj_set]; by_cases hj : k = j
    · rw [if_pos ⟨hj, hlt⟩, if_pos hj]
    · rw [if_neg (fun e => hj e.1), if_neg hj]
  have hone : ∀ j b, Own1 E j b ((St.mk s.tm (s.ob.set k (.froz sz n f))).obj j) → k ≠ j ∧ Own1 E j b (s.obj j) := by
    intro j b hj
    rw [ho] at hj
    by_cases e : k = j
    · rw [if_pos e] at hj; exact hj.elim
    · rw [if_neg e] at hj; exact ⟨e, hj⟩
  have hsub : ∀ b, ownS own0 ⟨s.tm, s.ob.set k (.froz sz n f)⟩ E b → ownS own0 s E b := by
    rintro b (hb | ⟨j, hj⟩)
    · exact .inl hb
    · exact .inr ⟨j, (hone j b hj).2⟩
  have hrob : Rob (ownS own0 ⟨s.tm, s.ob.set k (.froz sz n f)⟩ E) w (.list sz n f) [E.σ k] := by
    have hko := h.objs k
    rw [hk] at hko
    obtain ⟨xs, ⟨hl, h1⟩, h2, h3⟩ := hko
    rcases h1 with ⟨h1, rfl⟩ | ⟨g, cap, cur, h1, hB, hh, hnc, hcm, hsz, htk⟩
    · rw [h1]; exact Rob.lst_mk ⟨Nat.le_refl _, by decide⟩ (fun h0 => by omega)
    · rw [h1]
      refine Rob.lst_mk ⟨hnc, by simp only [maxLen] at hcm; omega⟩ fun h0 => ⟨g, 0, xs, rfl, ?_, hl, fun _ hg => ?_, ?_, h2, fun i hi => (h3 i hi).own fun b _ => hsub b⟩
      · have := Array.getElem?_eq_some_iff.1 hh; exact this.1
      · have hown : Own1 E k g (s.obj k) := by rw [hk]; simp only [Own1, h1]; rfl
        rcases hg with hg | ⟨j, hj⟩
        · exact (h.new k g hown).2.2 hg
        · obtain ⟨hne, hj⟩ := hone j g hj
          exact hne (h.apart k j g hown hj)
      · rw [← htk]; exact cellsAt_take hh
  refine ⟨⟨h.dfs, h.len, by simp [h.olen], fun t ht => (h.slots t ht).own fun b _ => hsub b, fun j => ?_, fun j j' b hj hj' => h.apart j j' b (hone j b hj).2 (hone j' b hj').2, fun j b hj => h.new j b (hone j b hj).2, h.frame, h.out, h.pin⟩, hrob⟩
  rw [ho]
  by_cases e : k = j
  · rw [if_pos e, ← e]; exact hrob
  · rw [if_neg e]
    exact (h.objs j).move ⟨rfl, rfl⟩ (fun _ _ => ⟨rfl, rfl⟩) (fun b _ => hsub b) (.refl _ _) (fun _ _ => rfl)
end

def FrozU (s : St) (u : List (Nat × Ob)) : Prop := ∀ p ∈ u, ∃ sz n f, p.2 = .froz sz n f ∧ ((∃ T, s.obj p.1 = .row T sz n f) ∨ s.obj p.1 = .froz sz n f)
theorem set_same {l : List Ob} {k : Nat} {o : Ob} (h : l.getD k .none = o) : l.set k o = l := by
  apply List.ext_getElem?
  intro j
  rw [List.getElem?_set]
  by_cases hj : k = j
  · subst hj
    by_cases hl : k < l.length
    · simp [hl] at h ⊢; rw [h]
    · simp [hl]
  · simp [hj]
section
variable {own0 ext : Nat → Prop} {w0 w : World} {E : Env} {a : Act}
theorem Con.freezes : ∀ (u : List (Nat × Ob)) {s : St}, Con own0 ext w0 s E a w → FrozU s u → Con own0 ext w0 (s.puts' u) E a w ∧ (∀ b, ownS own0 (s.puts' u) E b → ownS own0 s E b) ∧ (∀ k sz n f, s.obj k = .froz sz n f → (s.puts' u).obj k = .froz sz n f) ∧ (∀ p ∈ u, (s.puts' u).obj p.1 = p.2) ∧ (s.puts' u).tm = s.tm := by
  intro u
  induction u with
  | nil => intro s h _; exact ⟨h, fun _ h => h, fun _ _ _ _ h => h, (by intro p hp; cases hp), rfl⟩
  | cons p u ih =>
    intro s h hu
    obtain ⟨k, o⟩ := p
    obtain ⟨sz, n, f, rfl, hk⟩ := hu (k, o) List.mem_cons_self
    have key : Con own0 ext w0 ⟨s.tm, s.ob.set k (.froz sz n f)⟩ E a w ∧ (∀ j, (St.mk s.tm (s.ob.set k (.froz sz n f))).obj j = if k = j then .froz sz n f else s.obj j) := by
      rcases hk with ⟨T, hk⟩ | hk
      · refine ⟨(h.freeze hk).1, fun j => ?_⟩
        have hlt : k < s.ob.length := obj_lt (by simp only at hk; rw [hk]; simp)
        rw [obj_set]
        by_cases hj : k = j
        · rw [if_pos ⟨hj, hlt⟩, if_pos hj]
        · rw [if_neg (fun e => hj e.1), if_neg hj]
      · rw [set_same hk]
        refine ⟨h, fun j => ?_⟩
        by_cases hj : k = j
        · rw [if_pos hj, ← hj]; exact hk
        · rw [if_neg hj]
    obtain ⟨hc, ho⟩ := key
    have hu' : FrozU ⟨s.tm, s.ob.set k (.froz sz n f)⟩ u := by
      intro q hq
      obtain ⟨sz', n', f', e, h'⟩ := hu q (List.mem_cons_of_mem _ hq)
      refine ⟨sz', n', f', e, ?_⟩
      rw [ho]
      by_cases hj : k = q.1
      · rw [if_pos hj]
        right
        rw [← hj] at h'
        simp only at hk
        rcases hk with ⟨T, hk⟩ | hk
        · rw [hk] at h'
          rcases h' with ⟨T', h'⟩ | h'
          · cases h'; rfl
          · cases h'
        · rw [hk] at h'
          rcases h' with ⟨T', h'⟩ | h'
          · cases h'
          · exact h'
      · rw [if_neg hj]; exact h'
    obtain ⟨h1, h2, h3, h4, h5⟩ := ih hc hu'
    refine ⟨h1, fun b hb => ?_, fun j sz' n' f' hj => ?_, fun q hq => ?_, h5⟩
    · rcases h2 b hb with hb | ⟨j, hj⟩
      · exact .inl hb
      · rw [ho] at hj
        by_cases e : k = j
        · rw [if_pos e] at hj; exact hj.elim
        · rw [if_neg e] at hj; exact .inr ⟨j, hj⟩
    · apply h3
      rw [ho]
      by_cases e : k = j
      · rw [if_pos e]
        subst e
        simp only at hk
        rw [hj] at hk
        rcases hk with ⟨T, hk⟩ | hk
        · cases hk
        · exact hk.symm
      · rw [if_neg e]; exact hj
    · rcases List.mem_cons.1 hq with rfl | hq
      · exact h3 k _ _ _ (by rw [ho, if_pos rfl])
      · exact h4 q hq
end
/-- what thawing a value comes to -/
structure Thaw (s : St) (v v' : Av) (u : List (Nat × Ob)) : Prop where
  fro : FrozU s u
  pers : v'.pers = true
  rob : ∀ u', (∀ p ∈ u, p ∈ u') → FrozU s u' → ∀ {own0 ext : Nat → Prop} {w0 w : World} {E : Env} {a : Act}, Con own0 ext w0 s E a w → ∀ vs, Ok E (ownS own0 s E) w v vs → Rob (ownS own0 (s.puts' u') E) w v' vs
theorem FrozU.nil (s : St) : FrozU s [] := by intro p hp; cases hp
theorem FrozU.app {s : St} {u u' : List (Nat × Ob)} (h : FrozU s u) (h' : FrozU s u') : FrozU s (u ++ u') := by
  intro p hp
  rcases List.mem_append.1 hp with hp | hp
  · exact h p hp
  · exact h' p hp
theorem Thaw.plain {s : St} {v : Av} (hp : v.pers = true) : Thaw s v v [] :=
  ⟨.nil s, hp, fun u' _ hu _ _ _ _ _ _ hc _ h => (Ok.rob hp h).own fun b _ => (hc.freezes u' hu).2.1 b⟩
theorem thaw_ok {α : Type 1} {s : St} : ∀ (v : Av) (c : Av → List (Nat × Ob) → Rd α) {o : α}, (thaw v c).eval s = some o → ∃ v' u, Thaw s v v' u ∧ (c v' u).eval s = some o := by
  intro v
  induction v with
  | row k =>
    intro c o h
    simp only [thaw, Rd.eval] at h
    cases hk : s.obj k with
    | row T sz n f =>
      rw [hk] at h
      refine ⟨_, _, ⟨?_, rfl, ?_⟩, h⟩
      · intro p hp
        simp only [List.mem_singleton] at hp
        subst hp
        exact ⟨sz, n, f, rfl, .inl ⟨T, hk⟩⟩
      · intro u' hu' hf own0 ext w0 w E a hc vs hv
        obtain ⟨h1, h2, h3, h4, h5⟩ := hc.freezes u' hf
        have := h1.objs k
        rw [h4 (k, .froz sz n f) (hu' _ List.mem_cons_self)] at this
        simp only [Ok] at hv
        rw [hv.1]; exact this
    | froz sz n f =>
      rw [hk] at h
      refine ⟨_, _, ⟨.nil s, rfl, ?_⟩, h⟩
      intro u' hu' hf own0 ext w0 w E a hc vs hv
      obtain ⟨h1, h2, h3, h4, h5⟩ := hc.freezes u' hf
      have := h1.objs k
      rw [h3 k _ _ _ hk] at this
      simp only [Ok] at hv
      rw [hv.1]; exact this
    | none => rw [hk] at h; cases h
    | var => rw [hk] at h; cases h
  | agg cs ih =>
    intro c o h
    simp only [thaw] at h
    obtain ⟨v', u, ht, h'⟩ := ih _ h
    refine ⟨.agg v', u, ⟨ht.fro, ht.pers, ?_⟩, h'⟩
    rintro u' hu' hf own0 ext w0 w E a hc vs ⟨us, rfl, hv⟩ w' hg
    exact ⟨us, rfl, ht.rob u' hu' hf hc us hv w' hg⟩
  | cons a b iha ihb =>
    intro c o h
    simp only [thaw] at h
    obtain ⟨v1, u1, h1, h'⟩ := iha _ h
    obtain ⟨v2, u2, h2, h'⟩ := ihb _ h'
    refine ⟨_, _, ⟨h1.fro.app h2.fro, by simp only [Av.pers, h1.pers, h2.pers]; rfl, ?_⟩, h'⟩
    rintro u' hu' hf own0 ext w0 w E a hc vs ⟨x, y, rfl, hx, hy⟩ w' hg
    exact ⟨x, y, rfl, h1.rob u' (fun p hp => hu' p (List.mem_append_left _ hp)) hf hc x hx w' hg, h2.rob u' (fun p hp => hu' p (List.mem_append_right _ hp)) hf hc y hy w' hg⟩
  | ptr => intro c o h; cases h
  | rptr => intro c o h; cases h
  | tup => intro c o h; cases h
  | _ => intro c o h; exact ⟨_, _, .plain rfl, h⟩
/-- a list of values -/
structure Thaws (s : St) (vs vs' : List Av) (u : List (Nat × Ob)) : Prop where
  fro : FrozU s u
  rob : ∀ u', (∀ p ∈ u, p ∈ u') → FrozU s u' → ∀ {own0 ext : Nat → Prop} {w0 w : World} {E : Env} {a : Act}, Con own0 ext w0 s E a w → ∀ xs, All2 (fun v x => Ok E (ownS own0 s E) w v [x]) vs xs → All2 (fun v x => Rob (ownS own0 (s.puts' u') E) w v [x]) vs' xs
theorem thawl_ok {α : Type 1} {s : St} : ∀ (vs : List Av) (c : List Av → List (Nat × Ob) → Rd α) {o : α}, (thawl vs c).eval s = some o → ∃ vs' u, Thaws s vs vs' u ∧ (c vs' u).eval s = some o := by
  intro vs
  induction vs with
  | nil =>
    intro c o h
    refine ⟨[], [], ⟨.nil s, ?_⟩, h⟩
    intro u' _ _ _ _ _ _ _ _ _ xs hx
    cases hx
    exact .nil
  | cons v vs ih =>
    intro c o h
    simp only [thawl] at h
    obtain ⟨v1, u1, h1, h'⟩ := thaw_ok v _ h
    obtain ⟨v2, u2, h2, h'⟩ := ih _ h'
    refine ⟨_, _, ⟨h1.fro.app h2.fro, ?_⟩, h'⟩
    intro u' hu' hf own0 ext w0 w E a hc xs hx
    cases hx with
    | cons hx ht => exact .cons (h1.rob u' (fun p hp => hu' p (List.mem_append_left _ hp)) hf hc _ hx) (h2.rob u' (fun p hp => hu' p (List.mem_append_right _ hp)) hf hc _ ht)
theorem puts_tm : ∀ (u : List (Nat × Ob)) (s : St), (s.puts' u).tm = s.tm := by
  intro u
  induction u with
  | nil => intro s; rfl
  | cons p u ih => intro s; exact ih _
theorem puts_app : ∀ (u u' : List (Nat × Ob)) (s : St), s.puts' (u ++ u') = (s.puts' u).puts' u' := by
  intro u
  induction u with
  | nil => intro u' s; rfl
  | cons p u ih => intro u' s; exact ih _ _
theorem puts_put (dst : Option Nat) (v : Av) : ∀ (u : List (Nat × Ob)) (s : St), (s.put' dst v).puts' u = (s.puts' u).put' dst v := by
  intro u
  induction u with
  | nil => intro s; rfl
  | cons p u ih =>
    intro s
    cases dst with
    | none => rfl
    | some d => exact ih ⟨s.tm, s.ob.set p.1 p.2⟩
theorem after_put (s : St) (dst : Option Nat) (v : Av) (u : List (Nat × Ob)) : s.after' dst v u = (s.puts' u).put' dst v := puts_put dst v u s
theorem puts_ob : ∀ (u : List (Nat × Ob)) (s : St) (k : Nat), (s.puts' u).obj k = s.obj k ∨ ∃ o, (k, o) ∈ u ∧ (s.puts' u).obj k = o := by
  intro u
  induction u with
  | nil => intro s k; exact .inl rfl
  | cons p u ih =>
    obtain ⟨i, o⟩ := p
    intro s k
    rcases ih ⟨s.tm, s.ob.set i o⟩ k with h | ⟨o', h1, h2⟩
    · rw [obj_set] at h
      by_cases hk : i = k ∧ i < s.ob.length
      · rw [if_pos hk] at h; obtain ⟨rfl, _⟩ := hk; exact .inr ⟨o, List.mem_cons_self, h⟩
      · rw [if_neg hk] at h; exact .inl h
    · exact .inr ⟨o', List.mem_cons_of_mem _ h1, h2⟩
theorem puts_len : ∀ (u : List (Nat × Ob)) (s : St), (s.puts' u).ob.length = s.ob.length := by
  intro u
  induction u with
  | nil => intro s; rfl
  | cons p u ih => intro s; exact (ih _).trans (by simp)
/-- freezing names nothing -/
theorem Free.freezes {s : St} {d : Nat} {u : List (Nat × Ob)} (h : s.Free d) (hu : FrozU s u) : (s.puts' u).Free d := by
  refine ⟨fun t => ?_, fun k => ?_⟩
  · unfold St.slot; rw [puts_tm]; exact h.1 t
  · rcases puts_ob u s k with e | ⟨o, h1, e⟩
    · rw [e]; exact h.2 k
    · obtain ⟨sz, n, f, e2, _⟩ := hu _ h1
      rw [e]; simp only at e2; rw [e2]; rfl

section
variable {own0 ext : Nat → Prop} {w0 w : World} {s : St} {E : Env} {a : Act}
theorem Fr.below {w' : World} (h : Fr ext w0 w) (hb : Below w.heap.size w w') : Fr ext w0 w' :=
  ⟨hb.os.trans h.os, hb.tape.trans h.tape, hb.output.trans h.output, Nat.le_trans h.size hb.size, fun b hl hn => (hb.block b (Nat.lt_of_lt_of_le hl h.size)).trans (h.block b hl hn)⟩
/-- a block d of our own that is new: its block lies behind all that there was -/
theorem Con.newBlock (h : Con own0 ext w0 s E a w) {d : Nat} (hf : s.FreeO true d) (hd : d < s.tm.length) {E' : Env} {w' : World} {o : Ob} {v : Av} {u : Value}
    (hE : ∀ i, i ≠ d → E'.β i = E.β i ∧ E'.σ i = E.σ i) (hz : ∀ c, ext c → E'.β 0 = E.β 0) (hB : Below w.heap.size w w') (hown : ∀ b, Own1 E' d b o → w.heap.size ≤ b ∧ b < w'.heap.size)
    (ho : (∀ x vs, x.names d = false → Ok E (ownS own0 s E) w x vs → Ok E' (ownS own0 ⟨s.tm, s.ob.set d o⟩ E') w' x vs) → ObOk w0.heap.size E' (ownS own0 ⟨s.tm, s.ob.set d o⟩ E') w' d o)
    (hv : Ok E' (ownS own0 ⟨s.tm, s.ob.set d o⟩ E') w' v [u]) :
    Con own0 ext w0 ⟨s.tm.set d v, s.ob.set d o⟩ E' (a.put (some d) u) w' := by
  have hdo : d < s.ob.length := by rw [h.olen]; exact hd
  have hob : ∀ tm j, (St.mk tm (s.ob.set d o)).obj j = if d = j then o else s.obj j := by
    intro tm j
    rw [obj_set]
    by_cases hj : d = j
    · rw [if_pos ⟨hj, hdo⟩, if_pos hj]
    · rw [if_neg (fun e => hj e.1), if_neg hj]; rfl
  have hone : ∀ j b, d ≠ j → (Own1 E' j b (s.obj j) ↔ Own1 E j b (s.obj j)) := fun j b hj => Own1.env (hE j (fun e => hj e.symm))
  have hS : ownS own0 ⟨s.tm.set d v, s.ob.set d o⟩ E' = ownS own0 ⟨s.tm, s.ob.set d o⟩ E' := by
    funext b; simp only [ownS]; rfl
  have hsub : ∀ b, b < w.heap.size → ownS own0 ⟨s.tm, s.ob.set d o⟩ E' b → ownS own0 s E b := by
    rintro b hb (hb' | ⟨j, hj⟩)
    · exact .inl hb'
    · rw [hob] at hj
      by_cases e : d = j
      · rw [if_pos e, ← e] at hj; have := (hown b hj).1; omega
      · rw [if_neg e] at hj; exact .inr ⟨j, (hone j b e).1 hj⟩
  have hag : Agree (ownS own0 ⟨s.tm, s.ob.set d o⟩ E') w w' := ⟨hB.size, fun b hb _ => hB.block b hb⟩
  have tr : ∀ x vs, x.names d = false → Ok E (ownS own0 s E) w x vs → Ok E' (ownS own0 ⟨s.tm, s.ob.set d o⟩ E') w' x vs := by
    intro x vs hx hk
    refine ((hk.env fun i hi => hE i ?_).own hsub).agree hag
    rintro rfl; rw [hx] at hi; cases hi
  refine ⟨h.dfs, by simp [Act.put, h.len], by simp [h.olen], fun t ht => ?_, fun k => ?_, fun k k' b hk hk' => ?_, fun k b hk => ?_, h.frame.below hB, h.out, fun c hc => (hz c hc).trans (h.pin c hc)⟩
  · rw [hS, slot_set, put_getD, h.len]
    simp only [List.length_set] at ht
    by_cases e : d = t ∧ d < s.tm.length
    · rw [if_pos e, if_pos e]; exact hv
    · rw [if_neg e, if_neg e]; exact tr _ _ ((hf.1 t).elim (fun hh => absurd ⟨hh.2.symm, hd⟩ e) id) (h.slots t ht)
  · rw [hS, hob]
    by_cases e : d = k
    · rw [if_pos e, ← e]; exact ho tr
    · rw [if_neg e]
      refine (h.objs k).move (hE k fun e' => e e'.symm) (fun i hi => hE i ?_) hsub hag (fun b hb => hB.block b (h.new k b hb).2.1)
      rintro rfl; rw [hf.2 k] at hi; cases hi
  · rw [hob] at hk hk'
    by_cases e : d = k
    · by_cases e' : d = k'
      · rw [← e, ← e']
      · rw [if_pos e, ← e] at hk
        rw [if_neg e'] at hk'
        have h1 := (hown b hk).1
        have h2 := (h.new k' b ((hone k' b e').1 hk')).2.1
        omega
    · rw [if_neg e] at hk
      by_cases e' : d = k'
      · rw [if_pos e', ← e'] at hk'
        have h1 := (hown b hk').1
        have h2 := (h.new k b ((hone k b e).1 hk)).2.1
        omega
      · rw [if_neg e'] at hk'
        exact h.apart k k' b ((hone k b e).1 hk) ((hone k' b e').1 hk')
  · rw [hob] at hk
    by_cases e : d = k
    · rw [if_pos e, ← e] at hk
      have h1 := hown b hk
      refine ⟨.inl (Nat.le_trans h.frame.size h1.1), h1.2, fun h0 => ?_⟩
      have := h.out b h0
      have := h.frame.size
      omega
    · rw [if_neg e] at hk
      have h1 := h.new k b ((hone k b e).1 hk)
      exact ⟨h1.1, Nat.lt_of_lt_of_le h1.2.1 hB.size, h1.2.2⟩
theorem Below.newCells (w : World) (o : Obj) : Below w.heap.size w (w.alloc o) := (Below.refl _ _).alloc (Nat.le_refl _) o
/-- a new variable -/
theorem Con.newVar (h : Con own0 ext w0 s E a w) {d : Nat} (hf : s.FreeO true d) (hd : d < s.tm.length) (hz : ∀ c, ext c → d ≠ 0) {cs : Av} {us : List Value} (T : Nat) (hc : Ok E (ownS own0 s E) w cs us) (hn : cs.names d = false) :
    ∃ E', Con own0 ext w0 ⟨s.tm.set d (.ptr d 0), s.ob.set d (.var cs)⟩ E' (a.put (some d) (.pointer (some ⟨w.heap.size, 0, none⟩))) (w.alloc (.cells us.toArray T)) := by
  refine ⟨⟨fun i => if i = d then w.heap.size else E.β i, E.σ⟩, ?_⟩
  refine h.newBlock hf hd (fun i hi => ⟨if_neg hi, rfl⟩) (fun c hc => if_neg (hz c hc).symm) (Below.newCells w _) (fun b hb => ?_) (fun tr => ?_) ?_
  · simp only [Own1, ↓reduceIte] at hb
    subst hb; simp
  · refine ⟨us, T, ?_, tr cs us hn hc⟩
    simp only [↓reduceIte]
    exact heap_alloc_new w _
  · simp only [Ok, ↓reduceIte]
/-- a new row -/
theorem Con.newRow (h : Con own0 ext w0 s E a w) {d : Nat} (hf : s.Free d) (hd : d < s.tm.length) {T sz n c : Nat} {f : Nat → Av} {us : List Value} (hl : us.length = c * sz) (hnc : n ≤ c) (hcm : c ≤ maxLen) (h1 : ∀ u ∈ us, u.oneCell' = true)
    (hr : ∀ i, i < n → Rob (ownS own0 s E) w (f i) (seg us i sz)) :
    ∃ E', Con own0 ext w0 ⟨s.tm.set d (.row d), s.ob.set d (.row T sz n f)⟩ E' (a.put (some d) (.slice (some ⟨w.heap.size, 0, none⟩) n c)) (w.alloc (.cells us.toArray T)) := by
  refine ⟨⟨E.β, fun i => if i = d then .slice (some ⟨w.heap.size, 0, none⟩) n c else E.σ i⟩, ?_⟩
  refine h.newBlock (hf.o true) hd (fun i hi => ⟨rfl, if_neg hi⟩) (fun _ _ => rfl) (Below.newCells w _) (fun b hb => ?_) (fun _ => ?_) ?_
  · simp only [Own1, ↓reduceIte, Value.ownBlock] at hb
    cases hb; simp
  · refine ⟨us.take (n * sz), ⟨?_, .inr ⟨w.heap.size, c, us.toArray, ?_, h.frame.size, heap_alloc_new w _, hnc, hcm, by simp [hl], by simp⟩⟩, fun u hu => h1 u (List.mem_of_mem_take hu), fun i hi => ?_⟩
    · rw [List.length_take, hl]
      exact Nat.min_eq_left (Nat.mul_le_mul_right sz hnc)
    · simp only [↓reduceIte]
    · have e : seg (us.take (n * sz)) i sz = seg us i sz := by
        unfold seg
        have : (i + 1) * sz ≤ n * sz := Nat.mul_le_mul_right sz hi
        rw [Nat.add_mul, Nat.one_mul] at this
        rw [List.drop_take, List.take_take, Nat.min_eq_left (by omega)]
      rw [e]
      have hsub : ∀ b, b < w.heap.size → ownS own0 ⟨s.tm, s.ob.set d (.row T sz n f)⟩ ⟨E.β, fun i => if i = d then .slice (some ⟨w.heap.size, 0, none⟩) n c else E.σ i⟩ b → ownS own0 s E b := by
        rintro b hb (hb' | ⟨j, hj⟩)
        · exact .inl hb'
        · rw [obj_set] at hj
          by_cases e : d = j ∧ d < s.ob.length
          · rw [if_pos e, ← e.1] at hj
            simp only [Own1, ↓reduceIte, Value.ownBlock] at hj
            cases hj; omega
          · rw [if_neg e] at hj
            by_cases e2 : d = j
            · have : s.obj j = .none := by
                have : ¬ j < s.ob.length := fun hl => e ⟨e2, by omega⟩
                simp [St.obj, List.getD_eq_getElem?_getD, List.getElem?_eq_none_iff.2 (Nat.le_of_not_lt this)]
              exact absurd hj (by show ¬ Own1 _ j b (s.obj j); rw [this]; exact id)
            · exact .inr ⟨j, (Own1.env (E := E) (E' := ⟨E.β, fun i => if i = d then .slice (some ⟨w.heap.size, 0, none⟩) n c else E.σ i⟩) ⟨rfl, if_neg fun (e : j = d) => e2 e.symm⟩).1 hj⟩
      exact ((hr i hi).own hsub).agree ⟨by simp, fun b hb _ => Below.heap_alloc _ _ _ hb⟩
  · simp only [Ok, ↓reduceIte]; exact ⟨trivial, rfl⟩
/-- a block of ours has new contents -/
theorem Con.change (h : Con own0 ext w0 s E a w) {k g : Nat} {o : Ob} {w' : World} (hk : Own1 E k g (s.obj k)) (hone : ∀ b, Own1 E k b o ↔ b = g) (hb : ∀ b, b ≠ g → w'.heap[b]? = w.heap[b]?) (hsz : w'.heap.size = w.heap.size) (hos : w'.os = w.os ∧ w'.tape = w.tape ∧ w'.output = w.output)
    (ho : ObOk w0.heap.size E (ownS own0 s E) w' k o) : Con own0 ext w0 ⟨s.tm, s.ob.set k o⟩ E a w' := by
  have hlt : k < s.ob.length := obj_lt (by intro e; rw [e] at hk; exact hk)
  have hob : ∀ j, (St.mk s.tm (s.ob.set k o)).obj j = if k = j then o else s.obj j := by
    intro j
    rw [obj_set]
    by_cases hj : k = j
    · rw [if_pos ⟨hj, hlt⟩, if_pos hj]
    · rw [if_neg (fun e => hj e.1), if_neg hj]
  have hown : ∀ j b, Own1 E j b ((St.mk s.tm (s.ob.set k o)).obj j) → Own1 E j b (s.obj j) := by
    intro j b hj
    rw [hob] at hj
    by_cases e : k = j
    · rw [if_pos e, ← e] at hj; rw [(hone b).1 hj, ← e]; exact hk
    · rw [if_neg e] at hj; exact hj
  have hS : ownS own0 ⟨s.tm, s.ob.set k o⟩ E = ownS own0 s E := by
    funext b
    apply propext
    constructor
    · rintro (h | ⟨j, hj⟩)
      · exact .inl h
      · exact .inr ⟨j, hown j b hj⟩
    · rintro (h' | ⟨j, hj⟩)
      · exact .inl h'
      · refine .inr ⟨j, ?_⟩
        rw [hob]
        by_cases e : k = j
        · rw [if_pos e, ← e]
          rw [← e] at hj
          -- the block of k is g alone
          have : b = g := by
            cases hok : s.obj k with
            | none => rw [hok] at hk; exact hk.elim
            | froz => rw [hok] at hk; exact hk.elim
            | var cs => rw [hok] at hk hj; simp only [Own1] at hk hj; rw [hj, hk]
            | row => rw [hok] at hk hj; simp only [Own1] at hk hj; rw [hk] at hj; cases hj; rfl
          exact (hone b).2 this
        · rw [if_neg e]; exact hj
  have hag : Agree (ownS own0 s E) w w' := ⟨by omega, fun b _ hn => hb b fun e => hn (.inr ⟨k, by rw [e]; exact hk⟩)⟩
  refine ⟨h.dfs, h.len, by simp [h.olen], fun t ht => ?_, fun j => ?_, fun j j' b hj hj' => h.apart j j' b (hown j b hj) (hown j' b hj'), fun j b hj => ?_, ?_, h.out, h.pin⟩
  · rw [hS]; exact (h.slots t ht).agree hag
  · rw [hS, hob]
    by_cases e : k = j
    · rw [if_pos e, ← e]; exact ho
    · rw [if_neg e]
      refine (h.objs j).move ⟨rfl, rfl⟩ (fun _ _ => ⟨rfl, rfl⟩) (fun _ _ h => h) hag (fun b hj => hb b fun eb => ?_)
      rw [eb] at hj
      exact e (h.apart k j g hk hj)
  · rw [hsz]; exact h.new j b (hown j b hj)
  · refine ⟨hos.1.trans h.frame.os, hos.2.1.trans h.frame.tape, hos.2.2.trans h.frame.output, by rw [hsz]; exact h.frame.size, fun b hl hn => (hb b fun e => ?_).trans (h.frame.block b hl hn)⟩
    rw [e] at hl hn
    rcases (h.new k g hk).1 with h1 | h1
    · omega
    · exact hn h1
/-- a row is described anew -/
theorem Con.same (h : Con own0 ext w0 s E a w) {k T sz n : Nat} {f f' : Nat → Av} (hk : s.obj k = .row T sz n f) (he : ∀ i, i < n → f' i = f i) : Con own0 ext w0 ⟨s.tm, s.ob.set k (.row T sz n f')⟩ E a w := by
  have hlt : k < s.ob.length := obj_lt (by rw [hk]; intro e; cases e)
  have hob : ∀ j, (St.mk s.tm (s.ob.set k (.row T sz n f'))).obj j = if k = j then .row T sz n f' else s.obj j := by
    intro j
    rw [obj_set]
    by_cases hj : k = j
    · rw [if_pos ⟨hj, hlt⟩, if_pos hj]
    · rw [if_neg (fun e => hj e.1), if_neg hj]
  have hown : ∀ j b, Own1 E j b ((St.mk s.tm (s.ob.set k (.row T sz n f'))).obj j) ↔ Own1 E j b (s.obj j) := by
    intro j b
    rw [hob]
    by_cases e : k = j
    · rw [if_pos e, ← e, hk]; exact Iff.rfl
    · rw [if_neg e]
  have hS : ownS own0 ⟨s.tm, s.ob.set k (.row T sz n f')⟩ E = ownS own0 s E := by
    funext b
    exact propext (or_congr Iff.rfl (exists_congr fun j => hown j b))
  refine ⟨h.dfs, h.len, by simp [h.olen], fun t ht => by rw [hS]; exact h.slots t ht, fun j => ?_, fun j j' b hj hj' => h.apart j j' b ((hown j b).1 hj) ((hown j' b).1 hj'), fun j b hj => h.new j b ((hown j b).1 hj), h.frame, h.out, h.pin⟩
  rw [hS, hob]
  by_cases e : k = j
  · rw [if_pos e, ← e]
    have := h.objs k
    rw [hk] at this
    obtain ⟨xs, h1, h2, h3⟩ := this
    exact ⟨xs, h1, h2, fun i hi => by rw [he i hi]; exact h3 i hi⟩
  · rw [if_neg e]; exact h.objs j
/-- the same, and there are new blocks -/
theorem Con.change2 (h : Con own0 ext w0 s E a w) {k g : Nat} {o : Ob} {w' : World} (hk : Own1 E k g (s.obj k)) (hone : ∀ b, Own1 E k b o ↔ b = g) (hb : ∀ b, b < w.heap.size → b ≠ g → w'.heap[b]? = w.heap[b]?) (hsz : w.heap.size ≤ w'.heap.size) (hos : w'.os = w.os ∧ w'.tape = w.tape ∧ w'.output = w.output)
    (ho : ObOk w0.heap.size E (ownS own0 s E) w' k o) : Con own0 ext w0 ⟨s.tm, s.ob.set k o⟩ E a w' := by
  have hlt : k < s.ob.length := obj_lt (by intro e; rw [e] at hk; exact hk)
  have hob : ∀ j, (St.mk s.tm (s.ob.set k o)).obj j = if k = j then o else s.obj j := by
    intro j
    rw [obj_set]
    by_cases hj : k = j
    · rw [if_pos ⟨hj, hlt⟩, if_pos hj]
    · rw [if_neg (fun e => hj e.1), if_neg hj]
  have hown : ∀ j b, Own1 E j b ((St.mk s.tm (s.ob.set k o)).obj j) → Own1 E j b (s.obj j) := by
    intro j b hj
    rw [hob] at hj
    by_cases e : k = j
    · rw [if_pos e, ← e] at hj; rw [(hone b).1 hj, ← e]; exact hk
    · rw [if_neg e] at hj; exact hj
  have hS : ownS own0 ⟨s.tm, s.ob.set k o⟩ E = ownS own0 s E := by
    funext b
    apply propext
    constructor
    · rintro (h | ⟨j, hj⟩)
      · exact .inl h
      · exact .inr ⟨j, hown j b hj⟩
    · rintro (h' | ⟨j, hj⟩)
      · exact .inl h'
      · refine .inr ⟨j, ?_⟩
        rw [hob]
        by_cases e : k = j
        · rw [if_pos e, ← e]
          rw [← e] at hj
          -- the block of k is g alone
          have : b = g := by
            cases hok : s.obj k with
            | none => rw [hok] at hk; exact hk.elim
            | froz => rw [hok] at hk; exact hk.elim
            | var cs => rw [hok] at hk hj; simp only [Own1] at hk hj; rw [hj, hk]
            | row => rw [hok] at hk hj; simp only [Own1] at hk hj; rw [hk] at hj; cases hj; rfl
          exact (hone b).2 this
        · rw [if_neg e]; exact hj
  have hag : Agree (ownS own0 s E) w w' := ⟨hsz, fun b hl hn => hb b hl fun e => hn (.inr ⟨k, by rw [e]; exact hk⟩)⟩
  refine ⟨h.dfs, h.len, by simp [h.olen], fun t ht => ?_, fun j => ?_, fun j j' b hj hj' => h.apart j j' b (hown j b hj) (hown j' b hj'), fun j b hj => ?_, ?_, h.out, h.pin⟩
  · rw [hS]; exact (h.slots t ht).agree hag
  · rw [hS, hob]
    by_cases e : k = j
    · rw [if_pos e, ← e]; exact ho
    · rw [if_neg e]
      refine (h.objs j).move ⟨rfl, rfl⟩ (fun _ _ => ⟨rfl, rfl⟩) (fun _ _ h => h) hag (fun b hj => hb b (h.new j b hj).2.1 fun eb => ?_)
      rw [eb] at hj
      exact e (h.apart k j g hk hj)
  · have := h.new j b (hown j b hj); exact ⟨this.1, Nat.lt_of_lt_of_le this.2.1 hsz, this.2.2⟩
  · refine ⟨hos.1.trans h.frame.os, hos.2.1.trans h.frame.tape, hos.2.2.trans h.frame.output, Nat.le_trans h.frame.size hsz, fun b hl hn => (hb b (Nat.lt_of_lt_of_le hl h.frame.size) fun e => ?_).trans (h.frame.block b hl hn)⟩
    rw [e] at hl hn
    rcases (h.new k g hk).1 with h1 | h1
    · omega
    · exact hn h1
end

theorem Hold.pers {w : World} : ∀ {a : Av} {vs : List Value}, Hold w a vs → a.pers = true := by
  intro a
  induction a with
  | cons a b iha ihb => rintro vs ⟨x, y, _, hx, hy⟩; simp only [Av.pers, iha hx, ihb hy]; rfl
  | agg c ih => rintro vs ⟨us, _, h⟩; exact ih h
  | tup c ih => rintro vs ⟨us, _, h⟩; exact ih h
  | ptr => intro vs h; exact h.elim
  | rptr => intro vs h; exact h.elim
  | row => intro vs h; exact h.elim
  | _ => intro vs _; rfl
theorem pers_names : ∀ {a : Av}, a.pers = true → ∀ i, a.names i = false := by
  intro a
  induction a with
  | cons a b iha ihb => intro h i; simp only [Av.pers, Bool.and_eq_true] at h; simp only [Av.names, iha h.1, ihb h.2]; rfl
  | agg c ih => exact ih
  | tup c ih => exact ih
  | ptr => intro h; cases h
  | rptr => intro h; cases h
  | row => intro h; cases h
  | _ => intro _ i; rfl
/-- append: in place, or into a new block -/
theorem append_sharp {P : Program} (w : World) (base : Nat) (t ty e : TypeId) (i : TypeInfo) (z : Value) (size bytes : Nat) (ht : P.underlying t = some (.slice e)) (hi : P.info? e = some i) (hz : i.zero = some z)
    (hsize : i.size = size) (hby : i.bytes = bytes) (hzs : z.cells.size = size) (hsz : 0 < size)
    (v : Value) (n : Nat) (xs : List Value) (hown : w.ownsRow base e size v n xs)
    (a : Addr) (m c : Nat) (news : List Value) (hl : news.length = m * size) (hnews : ∀ j u, news[j]? = some u → w.cell? (a.add j) = some u) (h1 : ∀ u ∈ news, u.oneCell' = true)
    (h63 : n + m ≤ maxLen) (hbytes : (n + m) * bytes ≤ 140737488355328) (hbase : base ≤ w.heap.size) (hm : 0 < m) :
    ∃ v' w', (Builtin.append_ #[t, t] ty #[v, .slice (some a) m c]).run P w = .ok v' w' ∧ w'.ownsRow base e size v' (n + m) (xs ++ news) ∧
      ((v.ownBlock ≠ none ∧ v'.ownBlock = v.ownBlock ∧ w.grownBy w' v.ownBlock) ∨ (v'.ownBlock = some w.heap.size ∧ w.heap.size < w'.heap.size ∧ w.grownBy w' none)) := by
  obtain ⟨v', w', hr, h2, h3, h4, h5⟩ := run_append_own_at (P := P) w base t ty e i z size bytes ht hi hz hsize hby hzs hsz v n xs hown a m c news hl hnews h1 h63 hbytes hbase
  refine ⟨v', w', hr, h2, ?_⟩
  subst hsize
  subst hby
  have hsmall : n + m ≤ 9223372036854775807 := by simp only [maxLen] at h63; omega
  rcases hown.2 with ⟨rfl, rfl⟩ | ⟨g, cap, cur, rfl, hbg, hg, hnc, hcm, hcs, htake⟩
  · have hx : xs = [] := List.eq_nil_of_length_eq_zero (by simpa using hown.1)
    subst hx
    have hq := run_append_nil (P := P) w t ty e i z ht hi hz a m c news hl hnews (by omega) (by omega) (by have hb := hbytes; simp only [Nat.zero_add] at hb; omega)
    rw [hr] at hq
    cases hq
    exact .inr ⟨rfl, by simp, ⟨rfl, rfl, rfl, by simp, fun k hk _ => Below.heap_alloc w.drew _ k hk⟩⟩
  · by_cases hroom : n + m ≤ cap
    · have hfit : n * i.size + news.length ≤ cur.size := by rw [hl, hcs, ← Nat.add_mul]; exact Nat.mul_le_mul_right _ hroom
      have hq := run_append_room (P := P) w t ty e i ht hi g n cap cur hg a m c news hl hnews h1 hroom hfit
      rw [hr] at hq
      cases hq
      exact .inl ⟨by simp [Value.ownBlock], rfl, h3⟩
    · have holds : ∀ j u, xs[j]? = some u → w.cell? ((⟨g, 0, none⟩ : Addr).add j) = some u := hown.cells (g := g) rfl
      have hq := run_append_grow (P := P) w t ty e i z ht hi hz ⟨g, 0, none⟩ n cap xs hown.1 holds a m c news hl hnews (by omega) (by omega) (growslice_fits (by omega) hbytes)
      rw [hr] at hq
      cases hq
      exact .inr ⟨rfl, by simp, ⟨rfl, rfl, rfl, by simp, fun k hk _ => Below.heap_alloc w.drew _ k hk⟩⟩
theorem seg_app_left {xs ys : List Value} {n sz i : Nat} (hl : xs.length = n * sz) (hi : i < n) : seg (xs ++ ys) i sz = seg xs i sz := by
  unfold seg
  have : (i + 1) * sz ≤ n * sz := Nat.mul_le_mul_right sz hi
  rw [Nat.add_mul, Nat.one_mul] at this
  rw [List.drop_append_of_le_length (by omega), List.take_append_of_le_length (by rw [List.length_drop]; omega)]
theorem seg_app_right {xs ys : List Value} {n sz i : Nat} (hl : xs.length = n * sz) (hi : n ≤ i) : seg (xs ++ ys) i sz = seg ys (i - n) sz := by
  unfold seg
  have : n * sz ≤ i * sz := Nat.mul_le_mul_right sz hi
  rw [List.drop_append, List.drop_eq_nil_of_le (by omega), List.nil_append, hl, ← Nat.sub_mul]
theorem ownsRow_one {w : World} {B T sz n : Nat} {v : Value} {xs : List Value} (h : w.ownsRow B T sz v n xs) : v.oneCell' = true := by
  obtain ⟨_, ⟨rfl, _⟩ | ⟨g, cap, cur, rfl, _⟩⟩ := h <;> rfl
section
variable {own0 ext : Nat → Prop} {w0 w : World} {s : St} {E : Env} {a : Act}
theorem Fr.grown {w' : World} {r : Option Nat} (h : Fr ext w0 w) (hb : w.grownBy w' r) (hr : ∀ b, r = some b → w0.heap.size ≤ b ∨ ext b) : Fr ext w0 w' :=
  ⟨hb.os.trans h.os, hb.tape.trans h.tape, hb.output.trans h.output, Nat.le_trans h.size hb.size, fun b hl hn => (hb.block b (Nat.lt_of_lt_of_le hl h.size) fun e => by
    rcases hr b e.symm with h1 | h1
    · omega
    · exact hn h1).trans (h.block b hl hn)⟩
theorem Con.appendRow (h : Con own0 ext w0 s E a w) {d k T sz n m : Nat} {f g : Nat → Av} (hf : s.Free d) (hd : d < s.tm.length) (hkd : k ≠ d) (hk : s.obj k = .row T sz n f) {xs news : List Value} {v' : Value} {w' : World}
    (hx : w.ownsRow w0.heap.size T sz (E.σ k) n xs) (hx1 : ∀ u ∈ xs, u.oneCell' = true) (hxr : ∀ i, i < n → Rob (ownS own0 s E) w (f i) (seg xs i sz))
    (hn1 : ∀ u ∈ news, u.oneCell' = true) (hnr : ∀ i, i < m → Rob (ownS own0 s E) w (g i) (seg news i sz))
    (hr : w'.ownsRow w0.heap.size T sz v' (n + m) (xs ++ news)) (hlies : (v'.ownBlock = (E.σ k).ownBlock ∧ w.grownBy w' (E.σ k).ownBlock) ∨ (v'.ownBlock = some w.heap.size ∧ w.heap.size < w'.heap.size ∧ w.grownBy w' none)) :
    ∃ E', Con own0 ext w0 ⟨s.tm.set d (.row d), (s.ob.set k .none).set d (.row T sz (n + m) (fun i => if i < n then f i else g (i - n)))⟩ E' (a.put (some d) v') w' := by
  refine ⟨⟨E.β, fun i => if i = d then v' else E.σ i⟩, ?_⟩
  generalize hE' : (⟨E.β, fun i => if i = d then v' else E.σ i⟩ : Env) = E'
  have hE : ∀ i, i ≠ d → E'.β i = E.β i ∧ E'.σ i = E.σ i := fun i hi => by rw [← hE']; exact ⟨rfl, if_neg hi⟩
  have hEd : E'.σ d = v' := by rw [← hE']; exact if_pos rfl
  generalize hO : Ob.row T sz (n + m) (fun i => if i < n then f i else g (i - n)) = o
  have hdo : d < s.ob.length := by rw [h.olen]; exact hd
  have hko : k < s.ob.length := obj_lt (by rw [hk]; simp)
  have hob : ∀ tm j, (St.mk tm ((s.ob.set k .none).set d o)).obj j = if d = j then o else if k = j then .none else s.obj j := by
    intro tm j
    rw [obj_set]
    by_cases hj : d = j
    · rw [if_pos ⟨hj, by simpa using hdo⟩, if_pos hj]
    · rw [if_neg (fun e => hj e.1), if_neg hj, obj_set]
      by_cases hj2 : k = j
      · rw [if_pos ⟨hj2, hko⟩, if_pos hj2]
      · rw [if_neg (fun e => hj2 e.1), if_neg hj2]; rfl
  have hone : ∀ tm j b, Own1 E' j b ((St.mk tm ((s.ob.set k .none).set d o)).obj j) → (d = j ∧ v'.ownBlock = some b) ∨ (d ≠ j ∧ k ≠ j ∧ Own1 E j b (s.obj j)) := by
    intro tm j b hj
    rw [hob] at hj
    by_cases e : d = j
    · rw [if_pos e] at hj
      left
      refine ⟨e, ?_⟩
      rw [← hO, ← e] at hj
      simp only [Own1, hEd] at hj
      exact hj
    · rw [if_neg e] at hj
      by_cases e2 : k = j
      · rw [if_pos e2] at hj; exact hj.elim
      · rw [if_neg e2] at hj; exact .inr ⟨e, e2, (Own1.env (hE j fun e' => e e'.symm)).1 hj⟩
  have hkown : ∀ b, (E.σ k).ownBlock = some b → Own1 E k b (s.obj k) := fun b hb => by rw [hk]; exact hb
  have hS : ownS own0 ⟨s.tm.set d (.row d), (s.ob.set k .none).set d o⟩ E' = ownS own0 ⟨s.tm, (s.ob.set k .none).set d o⟩ E' := by
    funext b; simp only [ownS]; rfl
  have hsub : ∀ b, b < w.heap.size → ownS own0 ⟨s.tm, (s.ob.set k .none).set d o⟩ E' b → ownS own0 s E b := by
    rintro b hb (hb' | ⟨j, hj⟩)
    · exact .inl hb'
    · rcases hone _ j b hj with ⟨_, e2⟩ | ⟨_, _, e3⟩
      · rcases hlies with ⟨e, _⟩ | ⟨e, _, _⟩
        · exact .inr ⟨k, hkown b (by rw [← e, e2])⟩
        · rw [e] at e2; cases e2; omega
      · exact .inr ⟨j, e3⟩
  have hvo : ∀ b, v'.ownBlock = some b → ownS own0 ⟨s.tm, (s.ob.set k .none).set d o⟩ E' b := by
    intro b hb
    refine .inr ⟨d, ?_⟩
    rw [hob, if_pos rfl, ← hO]
    simp only [Own1, hEd]; exact hb
  have hsz : w.heap.size ≤ w'.heap.size := by
    rcases hlies with ⟨_, e⟩ | ⟨_, _, e⟩ <;> exact e.size
  have hag : Agree (ownS own0 ⟨s.tm, (s.ob.set k .none).set d o⟩ E') w w' := by
    refine ⟨hsz, fun b hb hn => ?_⟩
    rcases hlies with ⟨e, e2⟩ | ⟨_, _, e2⟩
    · exact e2.block b hb fun e3 => hn (hvo b (by rw [e, ← e3]))
    · exact e2.block b hb (by simp)
  have hblk : ∀ j b, k ≠ j → Own1 E j b (s.obj j) → w'.heap[b]? = w.heap[b]? := by
    intro j b hj hb
    have hlt := (h.new j b hb).2.1
    rcases hlies with ⟨e, e2⟩ | ⟨_, _, e2⟩
    · exact e2.block b hlt fun e3 => hj (h.apart k j b (hkown b e3.symm) hb)
    · exact e2.block b hlt (by simp)
  have tr : ∀ x vs, x.names d = false → Ok E (ownS own0 s E) w x vs → Ok E' (ownS own0 ⟨s.tm, (s.ob.set k .none).set d o⟩ E') w' x vs := by
    intro x vs hx hk
    refine ((hk.env fun i hi => hE i ?_).own hsub).agree hag
    rintro rfl; rw [hx] at hi; cases hi
  have trr : ∀ x vs, Rob (ownS own0 s E) w x vs → Rob (ownS own0 ⟨s.tm, (s.ob.set k .none).set d o⟩ E') w' x vs := fun x vs hx => (hx.own hsub).agree hag
  refine ⟨h.dfs, by simp [Act.put, h.len], by simp [h.olen], fun t ht => ?_, fun j => ?_, fun j j' b hj hj' => ?_, fun j b hj => ?_, ?_, h.out, fun c hc => by rw [← hE']; exact h.pin c hc⟩
  · rw [hS, slot_set, put_getD, h.len]
    simp only [List.length_set] at ht
    by_cases e : d = t ∧ d < s.tm.length
    · rw [if_pos e, if_pos e]; simp only [Ok, hEd]; exact ⟨trivial, ownsRow_one hr⟩
    · rw [if_neg e, if_neg e]; exact tr _ _ (hf.1 t) (h.slots t ht)
  · rw [hS, hob]
    by_cases e : d = j
    · rw [if_pos e, ← e, ← hO]
      refine ⟨xs ++ news, by rw [hEd]; exact hr, fun u hu => ?_, fun i hi => ?_⟩
      · rcases List.mem_append.1 hu with hu | hu
        · exact hx1 u hu
        · exact hn1 u hu
      · rw [hO]
        show Rob _ w' (if i < n then f i else g (i - n)) _
        by_cases hin : i < n
        · rw [if_pos hin, seg_app_left hx.1 hin]; exact trr _ _ (hxr i hin)
        · rw [if_neg hin, seg_app_right hx.1 (Nat.le_of_not_lt hin)]; exact trr _ _ (hnr _ (by omega))
    · rw [if_neg e]
      by_cases e2 : k = j
      · rw [if_pos e2]; trivial
      · rw [if_neg e2]
        refine (h.objs j).move (hE j fun e' => e e'.symm) (fun i hi => hE i ?_) hsub hag (fun b hb => hblk j b e2 hb)
        rintro rfl; rw [hf.2 j] at hi; cases hi
  · have key : ∀ j b, k ≠ j → v'.ownBlock = some b → Own1 E j b (s.obj j) → False := by
      intro j b hj e2 hb
      rcases hlies with ⟨e, _⟩ | ⟨e, _, _⟩
      · exact hj (h.apart k j b (hkown b (by rw [← e, e2])) hb)
      · rw [e] at e2; cases e2; exact absurd (h.new j _ hb).2.1 (by omega)
    rcases hone _ j b hj with ⟨e1, e2⟩ | ⟨e1, e2, e3⟩
    · rcases hone _ j' b hj' with ⟨e1', e2'⟩ | ⟨e1', e2', e3'⟩
      · rw [← e1, ← e1']
      · exact (key j' b e2' e2 e3').elim
    · rcases hone _ j' b hj' with ⟨e1', e2'⟩ | ⟨e1', e2', e3'⟩
      · exact (key j b e2 e2' e3).elim
      · exact h.apart j j' b e3 e3'
  · rcases hone _ j b hj with ⟨e1, e2⟩ | ⟨e1, e2, e3⟩
    · rcases hlies with ⟨e, _⟩ | ⟨e, e', _⟩
      · have h1 := h.new k b (hkown b (by rw [← e, e2]))
        exact ⟨h1.1, Nat.lt_of_lt_of_le h1.2.1 hsz, h1.2.2⟩
      · rw [e] at e2; cases e2
        refine ⟨.inl h.frame.size, e', fun h0 => ?_⟩
        have := h.out _ h0
        have := h.frame.size
        omega
    · have h1 := h.new j b e3
      exact ⟨h1.1, Nat.lt_of_lt_of_le h1.2.1 hsz, h1.2.2⟩
  · rcases hlies with ⟨_, e⟩ | ⟨_, _, e⟩
    · exact h.frame.grown e fun b hb => (h.new k b (hkown b hb)).1
    · exact h.frame.grown e (by simp)
/-- append onto nil -/
theorem Con.appendNil (h : Con own0 ext w0 s E a w) {d T sz m : Nat} {g : Nat → Av} (hf : s.Free d) (hd : d < s.tm.length) {news : List Value} {v' : Value} {w' : World}
    (hn1 : ∀ u ∈ news, u.oneCell' = true) (hnr : ∀ i, i < m → Rob (ownS own0 s E) w (g i) (seg news i sz))
    (hr : w'.ownsRow w0.heap.size T sz v' m news) (hlies : v'.ownBlock = some w.heap.size ∧ w.heap.size < w'.heap.size ∧ w.grownBy w' none) :
    ∃ E', Con own0 ext w0 ⟨s.tm.set d (.row d), s.ob.set d (.row T sz m g)⟩ E' (a.put (some d) v') w' := by
  refine ⟨⟨E.β, fun i => if i = d then v' else E.σ i⟩, ?_⟩
  refine h.newBlock (hf.o true) hd (fun i hi => ⟨rfl, if_neg hi⟩) (fun _ _ => rfl) ⟨hlies.2.2.os, hlies.2.2.tape, hlies.2.2.output, hlies.2.2.size, fun b hb => hlies.2.2.block b hb (by simp)⟩ (fun b hb => ?_) (fun tr => ?_) ?_
  · simp only [Own1, ↓reduceIte, hlies.1] at hb
    cases hb; exact ⟨Nat.le_refl _, hlies.2.1⟩
  · refine ⟨news, by simp only [↓reduceIte]; exact hr, hn1, fun i hi => ?_⟩
    have hp := (hnr i hi).here.pers
    exact (tr _ _ (pers_names hp d) (hnr i hi).ok).rob hp
  · simp only [Ok, ↓reduceIte]; exact ⟨trivial, ownsRow_one hr⟩
end

end Go.Vx
