/- An evaluator in Lean for one goroutine of the program: what it is. -/
import GoSem.Step
import Derived.Test.YtfpmbneglnoojaaGreatDoorProg
set_option linter.all false
/- An evaluator for one goroutine's Go code, on data of its own (abstract addresses; a capacity that is not known is 'open'). -/
namespace Go.Proofs.YtfpmbneglnoojaaGreatDoor.Ab
open Go

inductive Tr (α : Type) | leaf | node (l : Tr α) (v : Option α) (r : Tr α)
namespace Tr
variable {α : Type}
noncomputable def getA (v : Option α) (gl gr : Nat → Option α) (n : Nat) : Option α :=
  match n with
  | 0 => v
  | m + 1 => cond (Nat.beq (Nat.mod m 2) 0) (gl (Nat.div m 2)) (gr (Nat.div m 2))
noncomputable def get (t : Tr α) : Nat → Option α :=
  Tr.rec (motive := fun _ => Nat → Option α) (fun _ => none) (fun _ v _ gl gr n => getA v gl gr n) t
noncomputable def mkL (t : Tr α) (o : Option α) (r : Tr α) : Tr α := match t with | leaf => leaf | .node a b c => .node (.node a b c) o r
noncomputable def mkR (l : Tr α) (o : Option α) (t : Tr α) : Tr α := match t with | leaf => leaf | .node a b c => .node l o (.node a b c)
noncomputable def set2 (v : α) (ih : Nat → Tr α → Tr α) (n : Nat) (l : Tr α) (o : Option α) (r : Tr α) : Tr α :=
  match n with
  | 0 => .node l (some v) r
  | m + 1 => cond (Nat.beq (Nat.mod m 2) 0) (mkL (ih (Nat.div m 2) l) o r) (mkR l o (ih (Nat.div m 2) r))
noncomputable def set1 (v : α) (ih : Nat → Tr α → Tr α) (n : Nat) (t : Tr α) : Tr α :=
  match t with
  | leaf => set2 v ih n .leaf none .leaf
  | .node l o r => set2 v ih n l o r
noncomputable def set (v : α) (fuel : Nat) : Nat → Tr α → Tr α :=
  Nat.rec (motive := fun _ => Nat → Tr α → Tr α) (fun _ t => t) (fun _ ih => set1 v ih) fuel
end Tr

inductive Env | nil | cons (t : Nat) (v : Value) (e : Env)
  deriving Inhabited
noncomputable def Env.get (e : Env) (n : Nat) : Option Value :=
  Env.rec (motive := fun _ => Option Value) none (fun t v _ ih => Bool.rec (motive := fun _ => Option Value) ih (some v) (Nat.beq t n)) e

inductive AObj
  | row (cells : List Value) (elem : TypeId)
  | map (es : List MapEntry) (clock : Nat)
  | loop (st : LoopState) (pend : Option Code) (fn : FuncId) (env : Env) (params : Array Tmp) (assign body : Code)
  | iter (m : Option Nat) (since : Nat) (seen : List Nat) (stepped : Nat)
  | defd
  | chan
  | dead
  deriving Inhabited

structure St where
  n : Nat
  h : Tr AObj
  d : List Deferred
  rk : Option Value

inductive Res | val (v : Value) (n : Nat) (h : Tr AObj) | fail (why : String)
inductive Out
  | norm (e : Env) (s : St) | exit (id : Nat) (e : Env) (s : St) | ret (e : Env) (s : St)
  | pan (v : Value) (e : Env) (s : St) | val (v : Value) (s : St) | fail (why : String)
inductive Req
  | code (fn : FuncId) (c : Code) (e : Env) (s : St)
  | call (f : FuncId) (args : List Value) (s : St)
  | value (f : Value) (args : List Value) (s : St)
  | unwind (f : Func) (e : Env) (ds : List Deferred) (p : Option Value) (s : St)
  | sp (o : Oper) (e : Env) (s : St)
  | spd (d : Deferred) (s : St)

/-- the capacity that is not known -/
noncomputable def OPEN : Nat := 9223372036854775808

noncomputable def nth {α : Type} (l : List α) (n : Nat) : Option α :=
  List.rec (motive := fun _ => Nat → Option α) (fun _ => none) (fun a _ ih n => match n with | 0 => some a | m + 1 => ih m) l n
noncomputable def takeL {α : Type} (n : Nat) (l : List α) : Option (List α) :=
  Nat.rec (motive := fun _ => List α → Option (List α)) (fun _ => some []) (fun _ ih l => match l with | [] => none | a :: r => match ih r with | none => none | some x => some (a :: x)) n l
noncomputable def dropL {α : Type} (n : Nat) (l : List α) : List α :=
  Nat.rec (motive := fun _ => List α → List α) (fun l => l) (fun _ ih l => match l with | [] => [] | _ :: r => ih r) n l
/-- vs over l from place n -/
noncomputable def overL (vs : List Value) (l : List Value) : Option (List Value) :=
  List.rec (motive := fun _ => List Value → Option (List Value)) (fun l => some l) (fun v _ ih l => match l with | [] => none | _ :: r => match ih r with | none => none | some x => some (v :: x)) vs l
noncomputable def spliceL (n : Nat) (vs : List Value) (l : List Value) : Option (List Value) :=
  Nat.rec (motive := fun _ => List Value → Option (List Value)) (fun l => overL vs l) (fun _ ih l => match l with | [] => none | a :: r => match ih r with | none => none | some x => some (a :: x)) n l
noncomputable def cells (v : Value) : List Value := match v with | .agg cs => cs.toList | v => [v]
noncomputable def lenL {α : Type} (l : List α) (k : Nat) : Nat := List.rec (motive := fun _ => Nat → Nat) (fun k => k) (fun _ _ ih k => match k with | 0 => ih 1 | m + 1 => ih (Nat.succ (Nat.succ m))) l k
noncomputable def appL {α : Type} (l m : List α) : List α := List.rec (motive := fun _ => List α) m (fun a _ ih => match ih with | [] => [a] | b :: r => a :: b :: r) l

section
noncomputable abbrev PG : Program := Go.Proofs.Tryz.prog
/-- a value with no address in it -/
noncomputable def allL (f : Value → Bool) (l : List Value) : Bool := List.rec (motive := fun _ => Bool) true (fun v _ r => Bool.rec (motive := fun _ => Bool) false r (f v)) l
noncomputable def closedB (fuel : Nat) : Value → Bool := Nat.rec (motive := fun _ => Value → Bool) (fun _ => false) (fun _ ih v => match v with
  | .bool _ => true | .int _ _ => true | .string _ => true | .nilFunc => true | .nilIface => true
  | .pointer none => true | .slice none _ c => Nat.blt c OPEN | .map none => true | .chan none => true
  | .func (.func _) a b => a.toList.isEmpty && b.toList.isEmpty
  | .iface _ v => ih v
  | .agg cs => allL ih cs.toList
  | .tuple cs => allL ih cs.toList
  | _ => false) fuel
/-- blocks below are read alone -/
noncomputable def BASE : Nat := 33
/-- no block: a count of the evaluator's own (how many values have passed) -/
noncomputable def GK : Nat := 32
/-- how many package variables there are -/
noncomputable def NG : Nat := 7
noncomputable def size (t : TypeId) : Nat := match PG.info? t with | some i => i.size | none => 0
noncomputable def zeroV (t : TypeId) : Option Value := match PG.info? t with | some i => (match i.zero with | some v => cond (closedB 4 v) (some v) none | none => none) | none => none
noncomputable def zero (t : TypeId) : Option (List Value) := match zeroV t with | some v => some (cells v) | none => none
noncomputable def aggD (d : TypeDesc) : Bool := match d with | .struct _ => true | .array .. => true | _ => false
noncomputable def aggOf (t : TypeId) : Option Bool := match PG.underlying t with | some d => some (aggD d) | none => none
noncomputable def desc (t : TypeId) : TypeDesc := match PG.underlying t with | some d => d | none => .invalid
noncomputable def elemT (t : TypeId) : TypeId := match PG.underlying t with | some (.slice e) => e | some (.array _ e) => e | some (.pointer e) => e | some (.map _ e) => e | _ => 0
noncomputable def keyT (t : TypeId) : TypeId := match PG.underlying t with | some (.map k _) => k | _ => 0
noncomputable def fieldAt (t : TypeId) (f : Nat) : Field := match PG.underlying t with | some (.struct fs) => fs.getD f default | _ => default

noncomputable def val (v : Value) (s : St) : Res := match s with | ⟨n, h, _, _⟩ => .val v n h
noncomputable def newB (o : AObj) (s : St) (k : Nat → Value) : Res := match s with | ⟨n, h, _, _⟩ => cond (Nat.blt n 1000000) (match n with
  | 0 => .val (k 0) 1 (Tr.set o 40 0 h)
  | m + 1 => .val (k (Nat.succ m)) (Nat.succ (Nat.succ m)) (Tr.set o 40 (Nat.succ m) h)) (.fail "too many blocks")

noncomputable def fInt (k : IntKind) (z : Int) : Value := match z with
  | .ofNat n => (match n with | 0 => .int k (.ofNat 0) | m + 1 => .int k (.ofNat (Nat.succ m)))
  | .negSucc n => (match n with | 0 => .int k (.negSucc 0) | m + 1 => .int k (.negSucc (Nat.succ m)))
noncomputable def small (z : Int) : Bool := match z with | .ofNat n => Nat.blt n 128 | .negSucc _ => false
noncomputable def wrapI (k : IntKind) (z : Int) : Value := cond (small z) (fInt k z) (fInt k (k.wrap z))
noncomputable def ltI (a b : Int) : Bool := match a, b with
  | .ofNat x, .ofNat y => Nat.blt x y | .ofNat _, .negSucc _ => false | .negSucc _, .ofNat _ => true | .negSucc x, .negSucc y => Nat.blt y x
noncomputable def eqI (a b : Int) : Bool := match a, b with
  | .ofNat x, .ofNat y => Nat.beq x y | .negSucc x, .negSucc y => Nat.beq x y | _, _ => false
noncomputable def eqB (a b : List UInt8) : Bool :=
  List.rec (motive := fun _ => List UInt8 → Bool) (fun b => match b with | [] => true | _ => false) (fun x _ ih b => match b with | [] => false | y :: r => cond (Nat.beq x.toNat y.toNat) (ih r) false) a b
noncomputable def bytesOf (s : ByteArray) : List UInt8 := s.data.toList
noncomputable def ltB (a b : List UInt8) : Bool :=
  List.rec (motive := fun _ => List UInt8 → Bool) (fun b => match b with | [] => false | _ => true) (fun x _ ih b => match b with | [] => false | y :: r => cond (Nat.blt x.toNat y.toNat) true (cond (Nat.beq x.toNat y.toNat) (ih r) false)) a b


noncomputable def kNo (k : IntKind) : Nat := match k with | .i8 => 0 | .i16 => 1 | .i32 => 2 | .i64 => 3 | .u8 => 4 | .u16 => 5 | .u32 => 6 | .u64 => 7
noncomputable def sameK (a b : IntKind) : Bool := Nat.beq (kNo a) (kNo b)
noncomputable def fAdd (x y : Value) : Option Value := match x with
  | .int k a => (match y with | .int k' b => cond (sameK k k') (some (wrapI k (a + b))) none | _ => none)
  | .string a => (match y with | .string b => cond (Nat.blt (lenL (bytesOf a) 0 + lenL (bytesOf b) 0) 9223372036854775807) (some (.string ⟨⟨appL (bytesOf a) (bytesOf b)⟩⟩)) none | _ => none)
  | _ => none
noncomputable def fInt2 (f : Int → Int → Int) (x y : Value) : Option Value := match x with
  | .int k a => (match y with | .int k' b => cond (sameK k k') (some (wrapI k (f a b))) none | _ => none)
  | _ => none
noncomputable def fEq (neg : Bool) (x y : Value) : Option Value := match x with
  | .int k a => (match y with | .int k' b => cond (sameK k k') (some (.bool (Bool.xor neg (eqI a b)))) none | _ => none)
  | .string a => (match y with | .string b => some (.bool (Bool.xor neg (eqB (bytesOf a) (bytesOf b)))) | _ => none)
  | _ => none
noncomputable def fLt (neg : Bool) (x y : Value) : Option Value := match x with
  | .int k a => (match y with | .int k' b => cond (sameK k k') (some (.bool (Bool.xor neg (ltI a b)))) none | _ => none)
  | .string a => (match y with | .string b => some (.bool (Bool.xor neg (ltB (bytesOf a) (bytesOf b)))) | _ => none)
  | _ => none
/-- the common ones -/
noncomputable def bFast (op : BinOp) : Value → Value → Option Value := match op with
  | .add => fAdd
  | .sub => fInt2 (fun a b => a - b)
  | .mul => fInt2 (fun a b => a * b)
  | .eql => fEq false
  | .neq => fEq true
  | .lss => fLt false
  | .gtr => fun x y => fLt false y x
  | .leq => fun x y => fLt true y x
  | .geq => fLt true
  | _ => fun _ _ => none
/-- against nil -/
noncomputable def nilD (d : TypeDesc) : Bool := match d with | .pointer _ => true | .slice _ => true | .map .. => true | .func .. => true | .interface _ => true | _ => false
noncomputable def eqNil1 (x y : Value) : Option Bool := match x, y with
  | .pointer none, .pointer b => some b.isNone
  | .pointer (some _), .pointer none => some false
  | .pointer (some a), .pointer (some b) => cond (Nat.beq a.block b.block && (Nat.beq a.off b.off && (a.spot.isNone && b.spot.isNone))) (some true) none
  | .slice none _ _, .slice b _ _ => some b.isNone
  | .slice (some _) _ _, .slice none _ _ => some false
  | .map none, .map b => some b.isNone
  | .map (some _), .map none => some false
  | .nilFunc, .nilFunc => some true
  | .nilFunc, .func .. => some false
  | .func .., .nilFunc => some false
  | .nilIface, .iface .. => some false
  | .iface .., .nilIface => some false
  | _, _ => none
noncomputable def fits1 (d : TypeDesc) (x : Value) : Bool := match d with
  | .pointer _ => (match x with | .pointer _ => true | _ => false)
  | .slice _ => (match x with | .slice .. => true | _ => false)
  | .map .. => (match x with | .map _ => true | _ => false)
  | .func .. => (match x with | .func .. => true | .nilFunc => true | _ => false)
  | .interface _ => (match x with | .iface .. => true | .nilIface => true | _ => false)
  | _ => false
/-- two pointers that are not nil: their element has a size -/
noncomputable def ptrOk (t : TypeId) (x y : Value) : Bool := match x with
  | .pointer (some _) => (match y with | .pointer (some _) => (PG.info? (elemT t)).isSome | _ => true)
  | _ => true
noncomputable def bNil (neg : Bool) (t : TypeId) (x y : Value) : Option Value := cond (fits1 (desc t) x && ptrOk t x y) (match eqNil1 x y with | some b => some (.bool (Bool.xor neg b)) | none => none) none
noncomputable def bNilOp (op : BinOp) : TypeId → Value → Value → Option Value := match op with
  | .eql => bNil false
  | .neq => bNil true
  | _ => fun _ _ _ => none
/-- the mark of a call of what has no Go body -/
noncomputable def isX (m : Mark) : Bool := match m with
  | .acquire _ => false | .release _ => false | .releaseMerge _ => false | .disable => false | .enable => false | .read _ => false | .write _ => false | .noRoom => false
  | _ => true
/-- a tree that looks at nothing -/
noncomputable def runC : Sem Value → Option Value
  | .pure v => some v
  | .program k => runC (k PG)
  | .mark m k => cond (isX m) (runC k) none
  | _ => none
noncomputable def closedRes (s : St) (r : Option Value) : Res := match r with | some v => cond (closedB 4 v) (val v s) (.fail "closed") | none => .fail "closed"
noncomputable def bSlow (op : BinOp) (t : TypeId) (ox oy : Operand) (x y : Value) (s : St) : Res := cond (closedB 4 x && closedB 4 y) (closedRes s (runC (do Go.eqGuard op t ox oy x y; Go.binOp op t x y))) (.fail "binOp")
noncomputable def bNext (op : BinOp) (t : TypeId) (ox oy : Operand) (x y : Value) (s : St) (r : Option Value) : Res := match r with | some v => val v s | none => bSlow op t ox oy x y s
noncomputable def bTry (op : BinOp) (t : TypeId) (ox oy : Operand) (x y : Value) (s : St) (r : Option Value) : Res := match r with | some v => val v s | none => bNext op t ox oy x y s (bNilOp op t x y)
noncomputable def one1 (v : Value) : Bool := match v with | .agg _ => false | .tuple _ => false | _ => true
noncomputable def oneAll (l : List Value) : Bool := allL one1 l
noncomputable def rowPart (t : TypeId) (off : Nat) (cs : List Value) (s : St) (b : Option Bool) : Res := match b with
  | some true => (match takeL (size t) (dropL off cs) with | some x => val (.agg ⟨x⟩) s | none => .fail "load agg")
  | some false => (match nth cs off with | some v => val v s | none => .fail "load cell")
  | none => .fail "load type"
noncomputable def loadAt (t : TypeId) (a : Addr) (s : St) : Res := match s.h.get a.block with
  | some (.row cs _) => rowPart t a.off cs s (aggOf t)
  | _ => .fail "load no row"
noncomputable def storeAt (t : TypeId) (a : Addr) (v : Value) (s : St) : Res := match s.h.get a.block with
  | some (.row cs e) => cond (Nat.ble BASE a.block && ((Nat.beq (lenL (cells v) 0) (size t) && !Nat.beq (size t) 0) && oneAll (cells v))) (match spliceL a.off (cells v) cs with | some x => .val (.tuple #[]) s.n (Tr.set (.row x e) 40 a.block s.h) | none => .fail "store") (.fail "store read only")
  | _ => .fail "store no row"
noncomputable def fNat (n : Nat) : Nat := match n with | 0 => 0 | m + 1 => Nat.succ m
noncomputable def addr (b : Nat) (o : Nat) : Addr := match o with | 0 => ⟨b, 0, none⟩ | m + 1 => ⟨b, Nat.succ m, none⟩
noncomputable def ptr (b o : Nat) : Value := match o with | 0 => .pointer (some ⟨b, 0, none⟩) | m + 1 => .pointer (some ⟨b, Nat.succ m, none⟩)
noncomputable def slc (b o l c : Nat) : Value := match o, l, c with
  | 0, 0, 0 => .slice (some ⟨b, 0, none⟩) 0 0 | 0, 0, c + 1 => .slice (some ⟨b, 0, none⟩) 0 (Nat.succ c)
  | 0, l + 1, 0 => .slice (some ⟨b, 0, none⟩) (Nat.succ l) 0 | 0, l + 1, c + 1 => .slice (some ⟨b, 0, none⟩) (Nat.succ l) (Nat.succ c)
  | o + 1, 0, 0 => .slice (some ⟨b, Nat.succ o, none⟩) 0 0 | o + 1, 0, c + 1 => .slice (some ⟨b, Nat.succ o, none⟩) 0 (Nat.succ c)
  | o + 1, l + 1, 0 => .slice (some ⟨b, Nat.succ o, none⟩) (Nat.succ l) 0 | o + 1, l + 1, c + 1 => .slice (some ⟨b, Nat.succ o, none⟩) (Nat.succ l) (Nat.succ c)

noncomputable def asNat (v : Value) : Option Nat := match v with | .int _ (.ofNat n) => some n | _ => none
/-- room that is known, in elements, of a slice with open capacity from (b, o) on -/
noncomputable def known (cs : List Value) (o esz : Nat) : Nat := (lenL cs 0 - o) / esz
noncomputable def optNat (d : Nat) (o : Option Value) : Option Nat := match o with | some v => asNat v | none => some d
noncomputable def strSlice (b : ByteArray) (l h : Option Nat) (s : St) : Res := match l with
  | some l => (match h with
    | some h => cond (Nat.ble l h && Nat.ble h (lenL (bytesOf b) 0)) (match takeL (h - l) (dropL l (bytesOf b)) with | some x => val (.string ⟨⟨x⟩⟩) s | none => .fail "slice string") (.fail "slice string bounds")
    | none => .fail "slice string args")
  | none => .fail "slice string args"
/-- b: where it lies; c: the room that is known; o: what is to be the capacity: none: open -/
noncomputable def slcOp (a : Addr) (esz c : Nat) (op full : Bool) (l h m : Nat) (s : St) : Res :=
  cond (Nat.ble l h && (Nat.ble h m && Nat.ble m c))
    (cond (op && !full)
      (cond (Nat.beq l 0 || Nat.blt l c) (val (slc a.block (a.off + l * esz) (h - l) OPEN) s) (val (slc a.block a.off 0 (OPEN + l)) s))
      (cond (Nat.beq m l) (val (slc a.block a.off (h - l) 0) s) (cond (Nat.blt (m - l) OPEN) (val (slc a.block (a.off + l * esz) (h - l) (m - l)) s) (.fail "slice room"))))
    (.fail "slice bounds")
noncomputable def slcOp3 (a : Addr) (esz c : Nat) (op full : Bool) (l h m : Option Nat) (s : St) : Res := match l with
  | some l => (match h with
    | some h => (match m with | some m => slcOp a esz c op full l h m s | none => .fail "slice args")
    | none => .fail "slice args")
  | none => .fail "slice args"
noncomputable def slcNil (l h m : Option Nat) (s : St) : Res := match l with
  | some 0 => (match h with
    | some 0 => (match m with | some 0 => val (.slice none 0 0) s | _ => .fail "slice nil")
    | _ => .fail "slice nil")
  | _ => .fail "slice nil"
noncomputable def slcRow (a : Addr) (esz len cap : Nat) (lo hi mx : Option Value) (o : Option AObj) (s : St) : Res := match o with
  | some (.row cs e) => cond (Nat.blt cap OPEN)
      (slcOp3 a esz cap false mx.isSome (optNat 0 lo) (optNat len hi) (optNat cap mx) s)
      (cond (Nat.beq cap OPEN && Nat.beq (size e) esz) (slcOp3 a esz (known cs a.off esz) true mx.isSome (optNat 0 lo) (optNat len hi) (optNat (known cs a.off esz) mx) s) (.fail "slice of what dangles"))
  | _ => .fail "slice no row"
noncomputable def sliceOp (t : TypeId) (x : Value) (lo hi mx : Option Value) (s : St) : Res := cond (mx.isSome && hi.isNone) (.fail "slice max without high") (match x with
  | .string b => cond mx.isSome (.fail "slice string") (strSlice b (optNat 0 lo) (optNat (lenL (bytesOf b) 0) hi) s)
  | .slice b len cap => cond (Nat.beq (size (elemT t)) 0) (.fail "slice size")
    (match b with
    | none => cond (Nat.beq cap 0 && Nat.beq len 0) (slcNil (optNat 0 lo) (optNat 0 hi) (optNat 0 mx) s) (.fail "slice nil")
    | some a => slcRow a (size (elemT t)) len cap lo hi mx (s.h.get a.block) s)
  | .pointer (some a) => (match desc t with
    | .array n e => cond (Nat.beq (size e) 0) (.fail "slice size") (slcOp3 a (size e) n false mx.isSome (optNat 0 lo) (optNat n hi) (optNat n mx) s)
    | _ => .fail "slice of a pointer")
  | _ => .fail "slice")

noncomputable def repL (n : Nat) (z : List Value) : List Value := Nat.rec (motive := fun _ => List Value) [] (fun _ ih => appL z ih) n
noncomputable def ofByte (c : UInt8) : Value := .int .u8 (.ofNat c.toNat)
/-- an element of this type has a nought of its size, and few bytes -/
noncomputable def okZero (e : TypeId) : Bool := match PG.info? e with | some i => (match i.zero with | some z => Nat.beq z.cells.toList.length i.size && Nat.ble i.bytes 1000 | none => false) | none => false
/-- what is appended: how many elements, their cells -/
noncomputable def appSrc (t : TypeId) (esz : Nat) (y : Value) (s : St) : Option (Nat × List Value) := match y with
  | .slice none n _ => cond (Nat.beq n 0) (some (0, [])) none
  | .slice (some a) n _ => (match s.h.get a.block with | some (.row cs _) => (match takeL (n * esz) (dropL a.off cs) with | some l => some (n, l) | none => none) | _ => none)
  | .string b => cond (Nat.beq esz 1) (some (lenL (bytesOf b) 0, (bytesOf b).map ofByte)) none
  | .int _ (.ofNat n) => cond (Nat.blt n 1000) (match zero (elemT t) with | some z => some (n, repL n z) | none => none) none
  | _ => none
noncomputable def appIn (a : Addr) (esz len k cap : Nat) (e : TypeId) (cs new : List Value) (s : St) : Res :=
  cond (Nat.ble BASE a.block && oneAll new) (match spliceL (a.off + len * esz) new cs with | some c' => .val (slc a.block a.off (len + k) cap) s.n (Tr.set (.row c' e) 40 a.block s.h) | none => .fail "append in place") (.fail "append read only")
noncomputable def appNew (e : TypeId) (need : Nat) (cs : List Value) (s : St) (h : Tr AObj) : Res := newB (.row cs e) { n := s.n, h := h, d := s.d, rk := s.rk } fun id => .slice (some ⟨id, 0, none⟩) need OPEN
noncomputable def appRow (a : Addr) (esz len cap k : Nat) (e' : TypeId) (new : List Value) (o : Option AObj) (s : St) : Res := match o with
  | some (.row cs e) => cond (Nat.beq e e')
      (cond (Nat.blt cap OPEN)
        (cond (Nat.ble (len + k) cap) (appIn a esz len k cap e cs new s) (match takeL (len * esz) (dropL a.off cs) with | some old => appNew e (fNat (len + k)) (appL old new) s s.h | none => .fail "append old"))
        (cond (!Nat.beq cap OPEN) (.fail "append to what dangles") (cond (Nat.ble (len + k) (known cs a.off esz)) (appIn a esz len k cap e cs new s)
          (cond (Nat.ble BASE a.block && (Nat.beq (Nat.mod a.off esz) 0 && oneAll new)) (match takeL (len * esz) (dropL a.off cs) with | some old => appNew e (fNat (len + k)) (appL old new) s (Tr.set .dead 40 a.block s.h) | none => .fail "append old") (.fail "append read only")))))
      (.fail "append another type")
  | _ => .fail "append no row"
noncomputable def appendOp2 (x : Value) (esz : Nat) (e : TypeId) (src : Option (Nat × List Value)) (s : St) : Res := match src with
  | some (k, new) => (match x with
    | .slice b len cap => cond (Nat.blt (len + k) 100000000)
      (match b with
      | none => cond (Nat.beq len 0 && Nat.beq cap 0) (cond (Nat.beq k 0) (val x s) (appNew e (fNat k) new s s.h)) (.fail "append nil")
      | some a => appRow a esz len cap k e new (s.h.get a.block) s)
      (.fail "append too much")
    | _ => .fail "append to what")
  | none => .fail "append what"
/-- what is appended is of the kind that its type says -/
noncomputable def appT (t1 : Option TypeId) (y : Value) : Bool := match t1 with
  | some t => (match desc t with | .int _ => (match y with | .int .. => true | _ => false) | .invalid => false | _ => (match y with | .int .. => false | _ => true))
  | none => false
noncomputable def sliceT (t : TypeId) : Bool := match desc t with | .slice _ => true | _ => false
noncomputable def appendOp (t : TypeId) (t1 : Option TypeId) (x y : Value) (s : St) : Res := cond ((Nat.beq (size (elemT t)) 0 || !okZero (elemT t)) || !(appT t1 y && sliceT t)) (.fail "append size") (appendOp2 x (size (elemT t)) (elemT t) (appSrc t (size (elemT t)) y s) s)

noncomputable def sameKey (d : TypeDesc) (x y : Value) : Option Bool := match d with
  | .int _ => (match x with | .int k a => (match y with | .int k' b => cond (sameK k k') (some (eqI a b)) none | _ => none) | _ => none)
  | .string => (match x with | .string a => (match y with | .string b => some (eqB (bytesOf a) (bytesOf b)) | _ => none) | _ => none)
  | _ => none
/-- where a key stands: none: nothing is known; else its value, or that there is none -/
noncomputable def findK (d : TypeDesc) (k : Value) (es : List MapEntry) : Option (Option Value) :=
  List.rec (motive := fun _ => Option (Option Value)) (some none) (fun e _ ih => match sameKey d k e.key with | some true => some (some e.val) | some false => ih | none => none) es
noncomputable def setK (d : TypeDesc) (k v : Value) (clock : Nat) (es : List MapEntry) : Option (List MapEntry × Bool) :=
  List.rec (motive := fun _ => Option (List MapEntry × Bool)) (some ([⟨k, v, clock⟩], true))
    (fun e r ih => match sameKey d k e.key with | some true => some (⟨k, v, e.born⟩ :: r, false) | some false => (match ih with | some (x, b) => some (e :: x, b) | none => none) | none => none) es

noncomputable def fillL (place : Nat → Nat × Nat) (cs : List Value) (parts : List (Nat × Value)) : Option (List Value) :=
  List.rec (motive := fun _ => List Value → Option (List Value)) (fun cs => some cs) (fun p _ ih cs => match place p.1 with | (o, z) => cond (Nat.beq (lenL (cells p.2) 0) z) (match spliceL o (cells p.2) cs with | some x => ih x | none => none) none) parts cs


noncomputable def mapG (g : Operand → Option Value) (l : List Operand) : Option (List Value) :=
  List.rec (motive := fun _ => Option (List Value)) (some []) (fun x _ ih => match g x with | none => none | some v => match ih with | none => none | some r => some (v :: r)) l
noncomputable def partsG (g : Operand → Option Value) (l : List (Nat × Operand)) : Option (List (Nat × Value)) :=
  List.rec (motive := fun _ => Option (List (Nat × Value))) (some []) (fun x _ ih => match g x.2 with | none => none | some v => match ih with | none => none | some r => some ((x.1, v) :: r)) l
noncomputable def optG (g : Operand → Option Value) (o : Option Operand) : Option (Option Value) := match o with | none => some none | some y => (match g y with | none => none | some v => some (some v))
noncomputable def oMove (x : Option Value) (s : St) : Res := match x with | some v => val v s | none => .fail "move"
noncomputable def oPick (c : Option Value) (g : Operand → Option Value) (a b : Operand) (s : St) : Res := match c with | some (.bool t) => oMove (g (cond t a b)) s | _ => .fail "pick"
noncomputable def oAlloc (elem : TypeId) (s : St) : Res := match zero elem with | some z => newB (.row z elem) s (fun id => .pointer (some ⟨id, 0, none⟩)) | none => .fail "alloc"
noncomputable def oBox (elem : TypeId) (x : Option Value) (s : St) : Res := match x with | some v => newB (.row (cells v) elem) s fun id => .pointer (some ⟨id, 0, none⟩) | none => .fail "box"
noncomputable def placeOf (t : TypeId) (i : Nat) : Nat × Nat := match desc t with | .struct fs => ((fs.getD i default).offset, size (fs.getD i default).type) | .array _ e => (i * size e, size e) | _ => (0, 0)
noncomputable def oBuild (t : TypeId) (ps : Option (List (Nat × Value))) (s : St) : Res := match ps with
  | some ps => (match zero t with | some z => (match fillL (placeOf t) z ps with | some cs => val (.agg ⟨cs⟩) s | none => .fail "build") | none => .fail "build")
  | none => .fail "build args"
noncomputable def oBuildSlice (t : TypeId) (len : Nat) (ps : Option (List (Nat × Value))) (s : St) : Res := match ps with
  | some ps => (match zero (elemT t) with | some z => (match fillL (fun i => (i * size (elemT t), size (elemT t))) (repL len z) ps with | some cs => newB (.row cs (elemT t)) s (fun id => .slice (some ⟨id, 0, none⟩) len len) | none => .fail "buildSlice") | none => .fail "buildSlice")
  | none => .fail "buildSlice args"
noncomputable def oLoad (t : TypeId) (a : Option Value) (s : St) : Res := match a with | some (.pointer (some a)) => loadAt t a s | _ => .fail "load"
noncomputable def oStore (t : TypeId) (a x : Option Value) (s : St) : Res := match a with | some (.pointer (some a)) => (match x with | some v => storeAt t a v s | none => .fail "store") | _ => .fail "store"
noncomputable def oNil (x : Option Value) (s : St) : Res := match x with | some (.pointer (some a)) => val (.pointer (some a)) s | some (.func (.func f) a b) => val (.func (.func f) a b) s | _ => .fail "nilCheck"
noncomputable def oBin (op : BinOp) (t : TypeId) (ox oy : Operand) (x y : Option Value) (s : St) : Res := match x with | some a => (match y with | some b => bTry op t ox oy a b s (bFast op a b) | none => .fail "binOp args") | none => .fail "binOp args"
noncomputable def oUn (op : UnOp) (x : Option Value) (s : St) : Res := match op with
  | .not => (match x with | some (.bool b) => val (.bool (!b)) s | _ => .fail "unOp")
  | .neg => (match x with | some (.int k n) => val (wrapI k (0 - n)) s | _ => .fail "unOp")
  | _ => .fail "unOp"
noncomputable def toByte (v : Value) : UInt8 := match v with | .int _ (.ofNat n) => UInt8.ofNat n | _ => 0
noncomputable def isByteT (e : TypeId) : Bool := match desc e with | .int k => sameK k .u8 && Nat.beq (size e) 1 | _ => false
noncomputable def byteSlice (t : TypeId) : Bool := match desc t with | .slice e => isByteT e | _ => false
noncomputable def byteV (v : Value) : Bool := match v with | .int k _ => sameK k .u8 | _ => false
/-- the address of a box that is seen as a pointer to anything, and back -/
noncomputable def cvU (d : TypeDesc) (a : Addr) (s : St) (o : Option AObj) : Res := match o with
  | some (.row cs _) => (match d with
    | .pointer t => cond (Nat.ble BASE a.block && (Nat.blt a.off (lenL cs 0) && (!Nat.beq (size t) 0 && (PG.info? t).isSome))) (val (.pointer (some a)) s) (.fail "convert")
    | _ => .fail "convert")
  | _ => .fail "convert"
noncomputable def cvP (d : TypeDesc) (u : TypeId) (a : Addr) (s : St) (o : Option AObj) : Res := match o with
  | some (.row cs e) => (match d with
    | .unsafePointer => cond (Nat.ble BASE a.block && (Nat.beq e u && (Nat.beq a.off 0 && (Nat.ble (size u) (lenL cs 0) && (!Nat.beq (size u) 0 && (PG.info? u).isSome))))) (val (.pointer (some a)) s) (.fail "convert")
    | _ => .fail "convert")
  | _ => .fail "convert"
noncomputable def oConvert (src dst : TypeId) (x : Option Value) (s : St) : Res := match desc dst with
  | .int k => (match x with | some (.int _ n) => val (wrapI k n) s | _ => .fail "convert")
  | .string => (match x with
    | some (.string b) => val (.string b) s
    | some (.slice (some a) n _) => (match s.h.get a.block with | some (.row cs _) => (match takeL n (dropL a.off cs) with | some l => cond (byteSlice src && allL byteV l) (val (.string ⟨⟨l.map toByte⟩⟩) s) (.fail "convert") | none => .fail "convert") | _ => .fail "convert")
    | _ => .fail "convert")
  | .unsafePointer => (match x with | some (.pointer (some a)) => cvU (desc src) a s (s.h.get a.block) | _ => .fail "convert")
  | .pointer u => (match x with | some (.pointer (some a)) => cvP (desc src) u a s (s.h.get a.block) | _ => .fail "convert")
  | .slice e => (match x with | some (.string b) => cond (isByteT e) (newB (.row ((bytesOf b).map ofByte) e) s (fun id => .slice (some ⟨id, 0, none⟩) (fNat (lenL (bytesOf b) 0)) OPEN)) (.fail "convert") | _ => .fail "convert")
  | _ => .fail "convert"
noncomputable def oIface (t : TypeId) (x : Option Value) (s : St) : Res := match x with | some v => val (.iface t v) s | none => .fail "makeInterface"
noncomputable def oFunc (fn : Fn) (first captured : Option (List Value)) (s : St) : Res := match first with | some a => (match captured with | some b => val (.func fn ⟨a⟩ ⟨b⟩) s | none => .fail "makeFunc") | none => .fail "makeFunc"
noncomputable def oMakeMap (s : St) : Res := newB (.map [] 0) s fun id => .map (some id)
noncomputable def oMakeChan (x : Option Value) (s : St) : Res := match x with | some (.int _ (.ofNat 0)) => newB .chan s fun id => .chan (some id) | _ => .fail "makeChan"
noncomputable def oMakeSlice (t : TypeId) (l c : Option Value) (s : St) : Res := match l with
  | some (.int _ (.ofNat l)) => (match c with
    | some (.int _ (.ofNat c)) => cond (Nat.ble l c && Nat.ble c 1000) (match zero (elemT t) with | some z => newB (.row (repL c z) (elemT t)) s (fun id => .slice (some ⟨id, 0, none⟩) l c) | none => .fail "makeSlice") (.fail "makeSlice")
    | _ => .fail "makeSlice")
  | _ => .fail "makeSlice"
noncomputable def oSlice (t : TypeId) (x : Option Value) (lo hi mx : Option (Option Value)) (s : St) : Res := match x with
  | some v => (match lo with | some a => (match hi with | some b => (match mx with | some c => sliceOp t v a b c s | none => .fail "slice args") | none => .fail "slice args") | none => .fail "slice args")
  | none => .fail "slice"
noncomputable def okSl (d : TypeDesc) (x : Option Value) : Bool := match x with
  | some (.string _) => (match d with | .string => true | _ => false)
  | some (.slice ..) => (match d with | .slice _ => true | _ => false)
  | _ => true
noncomputable def oSliceT (t : TypeId) (x : Option Value) (lo hi mx : Option (Option Value)) (s : St) : Res := cond (okSl (desc t) x) (oSlice t x lo hi mx s) (.fail "slice type")
noncomputable def oFieldAddr (t : TypeId) (x : Option Value) (f : Nat) (s : St) : Res := match x with | some (.pointer (some a)) => cond (Nat.beq (size (fieldAt t f).type) 0) (.fail "fieldAddr") (val (ptr a.block (a.off + (fieldAt t f).offset)) s) | _ => .fail "fieldAddr"
noncomputable def partOf (t : TypeId) (off : Nat) (cs : List Value) (s : St) : Res := rowPart t off cs s (aggOf t)
noncomputable def oField (t : TypeId) (x : Option Value) (f : Nat) (s : St) : Res := match x with | some (.agg cs) => partOf (fieldAt t f).type (fieldAt t f).offset cs.toList s | _ => .fail "field"
noncomputable def oIndexAddr (t : TypeId) (x i : Option Value) (s : St) : Res := match i with
  | some (.int _ (.ofNat i)) => (match x with
    | some (.slice (some a) len _) => (match desc t with | .slice e => cond (Nat.blt i len && !Nat.beq (size e) 0) (val (ptr a.block (a.off + i * size e)) s) (.fail "indexAddr bounds") | _ => .fail "indexAddr")
    | some (.pointer (some a)) => (match desc t with | .array n e => cond (Nat.blt i n && !Nat.beq (size e) 0) (val (ptr a.block (a.off + i * size e)) s) (.fail "indexAddr bounds") | _ => .fail "indexAddr")
    | _ => .fail "indexAddr")
  | _ => .fail "indexAddr"
noncomputable def oIndex (t : TypeId) (x i : Option Value) (s : St) : Res := match i with
  | some (.int _ (.ofNat i)) => (match x with
    | some (.string b) => (match desc t with | .string => (match nth (bytesOf b) i with | some c => val (fInt .u8 (.ofNat c.toNat)) s | none => .fail "index string") | _ => .fail "index")
    | some (.agg cs) => (match desc t with | .array n e => cond (Nat.blt i n && !Nat.beq (size e) 0) (partOf e (i * size e) cs.toList s) (.fail "index bounds") | _ => .fail "index")
    | _ => .fail "index")
  | _ => .fail "index"
noncomputable def entriesOf (m : Option Nat) (s : St) : Option (List MapEntry) := match m with | none => some [] | some b => (match s.h.get b with | some (.map es _) => some es | _ => none)
noncomputable def lookZero (e : TypeId) (ok : Bool) (s : St) : Res := match zeroV e with | some z => val (cond ok (.tuple #[z, .bool false]) z) s | none => .fail "lookup zero"
noncomputable def lookIn (k e : TypeId) (key : Value) (ok : Bool) (s : St) (es : Option (List MapEntry)) : Res := match es with
  | some es => (match findK (desc k) key es with
    | some (some v) => val (cond ok (.tuple #[v, .bool true]) v) s
    | some none => lookZero e ok s
    | none => .fail "lookup key")
  | none => .fail "lookup map"
noncomputable def keyIs (d : TypeDesc) (x : Value) : Bool := match d with
  | .int _ => (match x with | .int _ _ => true | _ => false)
  | .string => (match x with | .string _ => true | _ => false)
  | _ => false
noncomputable def look2 (k e : TypeId) (m : Option Nat) (key : Value) (ok : Bool) (s : St) : Res := cond (keyIs (desc k) key) (lookIn k e key ok s (entriesOf m s)) (.fail "lookup key type")
noncomputable def look1 (d : TypeDesc) (m : Option Nat) (key : Option Value) (ok : Bool) (s : St) : Res := match d with
  | .map k e => (match key with | some key => look2 k e m key ok s | none => .fail "lookup")
  | _ => .fail "lookup type"
noncomputable def oLookup (t : TypeId) (x k : Option Value) (ok : Bool) (s : St) : Res := match x with
  | some (.map m) => look1 (desc t) m k ok s
  | _ => .fail "lookup"
noncomputable def upd3 (b : Nat) (s : St) (c : Nat) (r : Option (List MapEntry × Bool)) : Res := match r with
  | some (es', nw) => .val (.tuple #[]) s.n (Tr.set (.map es' (cond nw (fNat (c + 1)) c)) 40 b s.h)
  | none => .fail "mapUpdate key"
noncomputable def upd2 (k : TypeId) (b : Nat) (key v : Value) (s : St) (o : Option AObj) : Res := match o with
  | some (.map es c) => cond (keyIs (desc k) key && Nat.ble BASE b) (upd3 b s c (setK (desc k) key v c es)) (.fail "mapUpdate key type")
  | _ => .fail "mapUpdate map"
noncomputable def upd1 (d : TypeDesc) (b : Nat) (key x : Option Value) (s : St) : Res := match d with
  | .map k _ => (match key with | some key => (match x with | some v => upd2 k b key v s (s.h.get b) | none => .fail "mapUpdate") | none => .fail "mapUpdate")
  | _ => .fail "mapUpdate type"
noncomputable def oUpdate (t : TypeId) (m k x : Option Value) (s : St) : Res := match m with
  | some (.map (some b)) => upd1 (desc t) b k x s
  | _ => .fail "mapUpdate"
noncomputable def oRange (t : TypeId) (x : Option Value) (s : St) : Res := match desc t with
  | .map _ _ => (match x with
    | some (.map none) => newB (.iter none 0 [] 0) s fun id => .pointer (some ⟨id, 0, none⟩)
    | some (.map (some b)) => (match s.h.get b with | some (.map _ c) => newB (.iter (some b) c [] c) s fun id => .pointer (some ⟨id, 0, none⟩) | _ => .fail "range")
    | _ => .fail "range")
  | _ => .fail "range"
noncomputable def oNext (x : Option Value) (str : Bool) (s : St) : Res := match str, x with
  | false, some (.pointer (some ⟨r, 0, _⟩)) => cond (Nat.ble BASE r) (match s.h.get r with
    | some (.iter none _ _ _) => val (.tuple #[.bool false]) s
    | some (.iter (some m) since seen last) => (match s.h.get m with
      | some (.map es c) =>
        cond (!seen.isEmpty && (!es.isEmpty && es.all (Nat.ble last ·.born))) (.fail "next")
          (match es.filter (fun e => !seen.any (Nat.beq e.born ·)) with
          | [] => val (.tuple #[.bool false]) s
          | [e] => cond (Nat.blt e.born since) (.val (.tuple #[.bool true, e.key, e.val]) s.n (Tr.set (.iter (some m) since (appL seen [e.born]) c) 40 r s.h)) (.fail "next new")
          | _ => .fail "next many")
      | _ => .fail "next")
    | _ => .fail "next") (.fail "next")
  | _, _ => .fail "next"
noncomputable def lastN (l : List Nat) : Option Nat := List.rec (motive := fun _ => Option Nat → Option Nat) (fun o => o) (fun x _ ih _ => ih (some x)) l none
noncomputable def findE (k : Nat) (es : List MapEntry) : Option MapEntry := List.rec (motive := fun _ => Option MapEntry) none (fun e _ ih => cond (Nat.beq e.born k) (some e) ih) es
noncomputable def entry3 (c step : Nat) (s : St) (e : Option MapEntry) : Res := match e with
  | some e => cond (Nat.beq c step) (val (.tuple #[e.key, e.val]) s) (.fail "entry")
  | none => .fail "entry"
noncomputable def entry2 (k : Option Nat) (step : Nat) (s : St) (o : Option AObj) : Res := match o with
  | some (.map es c) => (match k with | some k => entry3 c step s (findE k es) | none => .fail "entry")
  | _ => .fail "entry"
noncomputable def entry1 (s : St) (o : Option AObj) : Res := match o with
  | some (.iter (some m) _ seen step) => entry2 (lastN seen) step s (s.h.get m)
  | _ => .fail "entry"
noncomputable def oEntry (x : Option Value) (s : St) : Res := match x with
  | some (.pointer (some ⟨r, 0, _⟩)) => cond (Nat.ble BASE r) (entry1 s (s.h.get r)) (.fail "entry")
  | _ => .fail "entry"
noncomputable def oAssert (asserted : TypeId) (x : Option Value) (ok : Bool) (s : St) : Res := match desc asserted with
  | .interface _ => .fail "typeAssert"
  | .invalid => .fail "typeAssert"
  | _ => (match x with
    | some .nilIface => cond ok ((match zeroV asserted with | some z => val (.tuple #[z, .bool false]) s | none => .fail "typeAssert")) (.fail "typeAssert")
    | some (.iface t v) => cond (Nat.beq t asserted) (val (cond ok (.tuple #[v, .bool true]) v) s) (cond ok ((match zeroV asserted with | some z => val (.tuple #[z, .bool false]) s | none => .fail "typeAssert")) (.fail "typeAssert"))
    | _ => .fail "typeAssert")
noncomputable def oExtract (x : Option Value) (i : Nat) (s : St) : Res := match x with | some (.tuple vs) => oMove (nth vs.toList i) s | _ => .fail "extract"

noncomputable def op1 (o : Op) : (Operand → Option Value) → St → Res := match o with
  | .move x => fun g s => oMove (g x) s
  | .assign x => fun g s => oMove (g x) s
  | .pick c a b => fun g s => oPick (g c) g a b s
  | .alloc elem => fun g s => oAlloc elem s
  | .box elem x => fun g s => oBox elem (g x) s
  | .build t parts => fun g s => oBuild t (partsG g parts.toList) s
  | .buildSlice t len parts => fun g s => oBuildSlice t len (partsG g parts.toList) s
  | .load t a => fun g s => oLoad t (g a) s
  | .store t a x => fun g s => oStore t (g a) (g x) s
  | .nilCheck x => fun g s => oNil (g x) s
  | .binOp op t x y _ => fun g s => oBin op t x y (g x) (g y) s
  | .unOp op _ x => fun g s => oUn op (g x) s
  | .convert src dst x => fun g s => oConvert src dst (g x) s
  | .makeInterface t x => fun g s => oIface t (g x) s
  | .makeFunc fn first captured => fun g s => oFunc fn (mapG g first.toList) (mapG g captured.toList) s
  | .makeMap _ _ => fun g s => oMakeMap s
  | .makeChan _ x => fun g s => oMakeChan (g x) s
  | .makeSlice t l c => fun g s => oMakeSlice t (g l) (g c) s
  | .slice t x lo hi mx => fun g s => oSliceT t (g x) (optG g lo) (optG g hi) (optG g mx) s
  | .fieldAddr t x f => fun g s => oFieldAddr t (g x) f s
  | .field t x f => fun g s => oField t (g x) f s
  | .indexAddr t x i => fun g s => oIndexAddr t (g x) (g i) s
  | .index t x i => fun g s => oIndex t (g x) (g i) s
  | .lookup t x k ok => fun g s => oLookup t (g x) (g k) ok s
  | .mapUpdate t m k x => fun g s => oUpdate t (g m) (g k) (g x) s
  | .insert t m k x => fun g s => oUpdate t (g m) (g k) (g x) s
  | .range t x => fun g s => oRange t (g x) s
  | .next x b => fun g s => oNext (g x) b s
  | .entry x => fun g s => oEntry (g x) s
  | .typeAssert x _ asserted ok => fun g s => oAssert asserted (g x) ok s
  | .extract x i => fun g s => oExtract (g x) i s
  | _ => fun _ _ => .fail "op"

noncomputable def lenOp (d : TypeDesc) (v : Value) (s : St) : Res := match v with
  | .slice _ n _ => (match d with | .slice _ => val (fInt .i64 (.ofNat n)) s | _ => .fail "len")
  | .string b => (match d with | .string => val (fInt .i64 (.ofNat (lenL (bytesOf b) 0))) s | _ => .fail "len")
  | .map none => (match d with | .map .. => val (.int .i64 (.ofNat 0)) s | _ => .fail "len")
  | .map (some b) => (match d with | .map .. => (match s.h.get b with | some (.map es _) => val (fInt .i64 (.ofNat (lenL es 0))) s | _ => .fail "len map") | _ => .fail "len")
  | _ => .fail "len"
noncomputable def capOp (d : TypeDesc) (v : Value) (s : St) : Res := match v with
  | .slice a _ c => (match d with
    | .slice _ => (match a with | none => cond (Nat.beq c 0) (val (.int .i64 (.ofNat 0)) s) (.fail "cap") | some _ => cond (Nat.blt c OPEN) (val (fInt .i64 (.ofNat c)) s) (.fail "cap of an open slice"))
    | _ => .fail "cap")
  | _ => .fail "cap"
noncomputable def maxL (mx : Bool) (vs : List Value) : Option Value := match vs with
  | [] => none
  | v :: r => List.rec (motive := fun _ => Value → Option Value) (fun v => some v) (fun w _ ih v => match v, w with
      | .int k a, .int _ b => ih (cond (cond mx (ltI a b) (ltI b a)) (.int k b) (.int k a)) | _, _ => none) r v
/-- a copy of nothing -/
noncomputable def copyOp (d : TypeDesc) (x y : Value) (s : St) : Res := match d with
  | .slice e => (match x with
    | .slice _ _ _ => (match y with | .slice none l _ => cond (Nat.beq l 0 && (PG.info? e).isSome) (val (.int .i64 (.ofNat 0)) s) (.fail "copy") | _ => .fail "copy")
    | _ => .fail "copy")
  | _ => .fail "copy"
/-- where an open slice of which something is known begins -/
noncomputable def usdRow (a : Addr) (s : St) (o : Option AObj) : Res := match o with
  | some (.row cs e) => cond (Nat.blt 0 ((lenL cs 0 - a.off) / size e)) (val (.pointer (some a)) s) (.fail "unsafe.SliceData")
  | _ => .fail "unsafe.SliceData"
noncomputable def usdOp (x : Value) (s : St) : Res := match x with
  | .slice (some a) _ c => cond (Nat.beq c OPEN) (usdRow a s (s.h.get a.block)) (.fail "unsafe.SliceData")
  | _ => .fail "unsafe.SliceData"
/-- bytes that nobody writes any more are a string -/
noncomputable def usRow (el : TypeId) (a : Addr) (n : Nat) (s : St) (o : Option AObj) : Res := match o with
  | some (.row cs e) => cond (Nat.ble BASE a.block && (Nat.beq e el && (isByteT el && Nat.blt 0 n))) (match takeL n (dropL a.off cs) with
    | some l => cond (allL byteV l) (.val (.string ⟨⟨l.map toByte⟩⟩) s.n (Tr.set .dead 40 a.block s.h)) (.fail "unsafe.String")
    | none => .fail "unsafe.String") (.fail "unsafe.String")
  | _ => .fail "unsafe.String"
noncomputable def usOp (d : TypeDesc) (x y : Value) (s : St) : Res := match d with
  | .pointer el => (match x with
    | .pointer (some a) => (match y with | .int _ (.ofNat n) => cond (Nat.blt n 100000) (usRow el a n s (s.h.get a.block)) (.fail "unsafe.String") | _ => .fail "unsafe.String")
    | _ => .fail "unsafe.String")
  | _ => .fail "unsafe.String"
noncomputable def builtinOp (b : Builtin) (ts : Array TypeId) (args : List Value) (s : St) : Res := match b with
  | .copy => cond (Nat.blt 0 ts.size) (match args with | [x, y] => copyOp (desc (ts.getD 0 0)) x y s | _ => .fail "builtin") (.fail "builtin")
  | .unsafeSliceData => (match args with | [x] => usdOp x s | _ => .fail "builtin")
  | .unsafeString => cond (Nat.blt 0 ts.size) (match args with | [x, y] => usOp (desc (ts.getD 0 0)) x y s | _ => .fail "builtin") (.fail "builtin")
  | .len => (match args with | [x] => lenOp (desc (ts.getD 0 0)) x s | _ => .fail "builtin")
  | .append => (match args with | [x, y] => appendOp (ts.getD 0 0) ts[1]? x y s | _ => .fail "builtin")
  | .cap => (match args with | [x] => capOp (desc (ts.getD 0 0)) x s | _ => .fail "builtin")
  | .max => (match maxL true args with | some v => val v s | none => .fail "max")
  | .min => (match maxL false args with | some v => val v s | none => .fail "min")
  | _ => .fail "builtin"

noncomputable def countB (c : Nat) (l : List UInt8) : Nat → Nat := List.rec (motive := fun _ => Nat → Nat) (fun i => i) (fun x _ ih i => cond (Nat.beq x.toNat c) (match i with | 0 => ih 1 | m + 1 => ih (Nat.succ (Nat.succ m))) (ih i)) l
noncomputable def COUNT : FuncId := 65
noncomputable def SCAN : FuncId := 36
noncomputable def INDEX : FuncId := 267
noncomputable def indexB (c : Nat) (l : List UInt8) : Nat → Option Nat := List.rec (motive := fun _ => Nat → Option Nat) (fun _ => none) (fun x _ ih i => cond (Nat.beq x.toNat c) (some i) (match i with | 0 => ih 1 | m + 1 => ih (Nat.succ (Nat.succ m)))) l
noncomputable def indexV (o : Option Nat) : Value := match o with | some i => fInt .i64 (.ofNat i) | none => .int .i64 (.negSucc 0)
noncomputable def externOp1 (f : FuncId) (args : List Value) (s : St) : Res := match args with

  | [.string b, .int k (.ofNat c)] =>
    cond (sameK k .u8 && Nat.blt c 256) (cond (Nat.beq f COUNT) (val (fInt .i64 (.ofNat (countB c (bytesOf b) 0))) s) (cond (Nat.beq f INDEX) (val (indexV (indexB c (bytesOf b) 0)) s) (.fail "extern"))) (.fail "extern")
  | _ => .fail "extern"


noncomputable def NOESC : FuncId := 206
noncomputable def MKNZ : FuncId := 207
noncomputable def BYTE : TypeId := 5
noncomputable def noEsc (args : List Value) (s : St) : Res := match args with | [x] => val x s | _ => .fail "extern"
noncomputable def mkNZ (args : List Value) (s : St) : Res := match args with
  | [.int k (.ofNat n)] => cond (sameK k .i64 && Nat.blt n 100000) (newB (.row [] BYTE) s fun id => .slice (some ⟨id, 0, none⟩) n OPEN) (.fail "extern")
  | _ => .fail "extern"
noncomputable def externOp (f : FuncId) (args : List Value) (s : St) : Res := cond (Nat.beq f NOESC) (noEsc args s) (cond (Nat.beq f MKNZ) (mkNZ args s) (externOp1 f args s))
noncomputable def opnd (e : Env) (x : Operand) : Option Value := match x with
  | .tmp t => e.get t
  | .const v => cond (closedB 4 v) (some v) none
  | .global g => cond (Nat.blt g NG) (some (.pointer (some ⟨g, 0, none⟩))) none
  | .func f => some (.func (.func f) #[] #[])
noncomputable def dstOf (ops : Array Oper) (j : Nat) : Option Tmp := (ops[j]?).bind (·.dst)
noncomputable def guardIs (t : Option Tmp) (want : Bool) (e : Env) : Option Bool := match t with
  | some t => (match e.get t with | some v => some (match v with | .bool b => cond b want (!want) | _ => false) | none => none)
  | none => some false
noncomputable def guardOk (ops : Array Oper) (g : Option (Nat × Bool)) (e : Env) : Option Bool := match g with
  | none => some true
  | some (j, want) => guardIs (dstOf ops j) want e
noncomputable def put (d : Option Tmp) (v : Value) (e : Env) : Env := match d with | some t => .cons t v e | none => e
noncomputable def callOf (o : Op) : Option Call := match o with | .call c => some c | _ => none
noncomputable def panicOf (o : Op) : Option Operand := match o with | .panic x => some x | _ => none
noncomputable def deferOf (o : Op) : Option Call := match o with | .defer c => some c | _ => none

noncomputable def afterRes (d : Option Tmp) (k : Env → St → Out) (e : Env) (s : St) (r : Res) : Out := match r with
  | .val v n h => (match s with | ⟨_, _, ds, rk⟩ => k (put d v e) ⟨n, h, ds, rk⟩)
  | .fail w => .fail w
noncomputable def afterOut (d : Option Tmp) (k : Env → St → Out) (e : Env) (s : St) (r : Out) : Out := match r with
  | .val v s' => (match s, s' with | ⟨_, _, ds, rk⟩, ⟨n, h, _, _⟩ => k (put d v e) ⟨n, h, ds, rk⟩)
  | .pan v _ s' => .pan v e { n := s'.n, h := s'.h, d := s.d, rk := s.rk }
  | .fail w => .fail w
  | _ => .fail "call"
noncomputable def callValue (ih : Req → Out) (d : Option Tmp) (f : Option Value) (args : List Value) (k : Env → St → Out) (e : Env) (s : St) : Out := match f with
  | some fv => afterOut d k e s (ih (.value fv args (match s with | ⟨n, h, _, _⟩ => ⟨n, h, [], none⟩)))
  | none => .fail "callee"
/-- what no list of deferred calls bears: the mark of a round of loop l -/
noncomputable def poison (l : Nat) : Deferred := { target := .nil, args := #[.func (.yield l) #[] #[]] }
noncomputable def roundL (d : List Deferred) : Option Nat := match d with | [x] => (match x.args.toList with | [.func (.yield l) _ _] => some l | _ => none) | _ => none
noncomputable def isLoop (o : Option AObj) : Bool := match o with | some (.loop ..) => true | _ => false
/-- not within a round of a loop over a function -/
noncomputable def clean (d : List Deferred) : Bool := match d with | x :: _ => (match x.target with | .nil => false | _ => true) | [] => true
noncomputable def doRecover (d : Option Tmp) (k : Env → St → Out) (e : Env) (s : St) : Out := cond (clean s.d) (match s.rk with
  | some v => k (put d v e) { n := s.n, h := s.h, d := s.d, rk := none }
  | none => k (put d .nilIface e) s) (.fail "recover in a round")
noncomputable def opCall1 (ih : Req → Out) (d : Option Tmp) (c : Call) (args : List Value) (k : Env → St → Out) (e : Env) (s : St) : Out := match c.callee with
  | .builtin b => (match b with
    | .recover => doRecover d k e s
    | b => afterRes d k e s (builtinOp b c.argTypes args s))
  | .value f => callValue ih d (opnd e f) args k e s
  | .invoke .. => .fail "invoke"
noncomputable def opCall (ih : Req → Out) (d : Option Tmp) (c : Call) (args : Option (List Value)) (k : Env → St → Out) (e : Env) (s : St) : Out := match args with
  | none => .fail "call args"
  | some args => opCall1 ih d c args k e s
noncomputable def opDefer1 (d : Option Tmp) (f : Option Value) (args : List Value) (k : Env → St → Out) (e : Env) (s : St) : Out := match f with
  | some (.func fn first cap) => cond (clean s.d) (k (put d (.tuple #[]) e) { n := s.n, h := s.h, d := { target := .fn fn cap, args := ⟨appL first.toList args⟩ } :: s.d, rk := s.rk }) (.fail "defer in a round")
  | _ => .fail "defer"
noncomputable def opDefer (d : Option Tmp) (c : Call) (args : Option (List Value)) (k : Env → St → Out) (e : Env) (s : St) : Out := match args with
  | none => .fail "defer args"
  | some args => (match c.callee with | .value f => opDefer1 d (opnd e f) args k e s | _ => .fail "defer")
/-- a value of an error's own, or of another type that is no interface -/
noncomputable def doPanic (x : Option Value) (e : Env) (s : St) : Out := match x with | some v => (match v with | .iface .. => .pan v e s | _ => .fail "panic of nil") | none => .fail "panic"
noncomputable def opExec3 (d : Option Tmp) (o : Op) (p : Option Operand) (k : Env → St → Out) (e : Env) (s : St) : Out := match p with
  | some x => doPanic (opnd e x) e s
  | none => afterRes d k e s (op1 o (opnd e) s)
noncomputable def opExec2 (d : Option Tmp) (o : Op) (c : Option Call) (k : Env → St → Out) (e : Env) (s : St) : Out := match c with
  | some c => opDefer d c (mapG (opnd e) c.args.toList) k e s
  | none => opExec3 d o (panicOf o) k e s
noncomputable def opExec (ih : Req → Out) (d : Option Tmp) (o : Op) (c : Option Call) (k : Env → St → Out) (e : Env) (s : St) : Out := match c with
  | some c => opCall ih d c (mapG (opnd e) c.args.toList) k e s
  | none => opExec2 d o (deferOf o) k e s
/-- what goes out of the goroutine -/
noncomputable def isSp (o : Op) : Bool := match o with | .go _ => true | .recv .. => true | .select .. => true | .defer c => (match c.callee with | .builtin _ => true | _ => false) | _ => false
noncomputable def afterSp (d : Option Tmp) (k : Env → St → Out) (e : Env) (r : Out) : Out := match r with
  | .val v s' => k (put d v e) s'
  | .fail w => .fail w
  | _ => .fail "sp"
noncomputable def opStep (ih : Req → Out) (ops : Array Oper) (o : Oper) (k : Env → St → Out) (e : Env) (s : St) : Out :=
  match guardOk ops o.guard e with
  | some true => cond (isSp o.op) (afterSp o.dst k e (ih (.sp o e s))) (opExec ih o.dst o.op (callOf o.op) k e s)
  | some false => k (put o.dst (.tuple #[]) e) s
  | none => .fail "guard"
/-- the operations of a region, in the text's order -/
noncomputable def opsRun (ih : Req → Out) (ops : Array Oper) (l : List Oper) : Env → St → Out :=
  List.rec (motive := fun _ => Env → St → Out) (fun e s => .norm e s) (fun o _ k e s => opStep ih ops o k e s) l

/-! a region that draws its order -/
/-- 0: looks at nothing; 1: looks at memory; 2: makes a block; 3: all else -/
noncomputable def kindOf (o : Op) : Nat := match o with
  | .move _ | .assign _ | .pick .. | .nilCheck _ | .binOp .. | .unOp .. | .makeInterface .. | .makeFunc .. | .fieldAddr .. | .field .. | .indexAddr .. | .index .. | .typeAssert .. | .extract .. | .build .. => 0
  | .load .. | .lookup .. | .slice .. => 1
  | .alloc _ | .box .. | .buildSlice .. | .makeMap .. | .makeSlice .. | .makeChan .. => 2
  | .call c => (match c.callee with | .builtin .len => 1 | .builtin .max => 0 | .builtin .min => 0 | .builtin .cap => 0 | _ => 3)
  | _ => 3
structure Item1 where
  o : Oper
  idx : Nat
  kind : Nat
  mask : Nat
  bit : Nat
noncomputable def subMask (a b : Nat) : Bool := Nat.beq (Nat.land a b) a
noncomputable def hasBit (m b : Nat) : Bool := cond (Nat.beq (Nat.land m b) 0) false true
/-- one of those left that may come now and is no loud one; else the first that may come -/
noncomputable def pickQuiet (done : Nat) (l : List Item1) : Option (Item1 × List Item1) :=
  List.rec (motive := fun _ => Option (Item1 × List Item1)) none (fun x r ih => cond (subMask x.mask done && Nat.blt x.kind 3) (some (x, r)) (match ih with | none => none | some (y, r') => some (y, x :: r'))) l
noncomputable def pickLoud (done : Nat) (l : List Item1) : Option (Item1 × List Item1) :=
  List.rec (motive := fun _ => Option (Item1 × List Item1)) none (fun x r ih => cond (subMask x.mask done) (some (x, r)) (match ih with | none => none | some (y, r') => some (y, x :: r'))) l
noncomputable def ordGo (fuel : Nat) : Nat → List Item1 → List Nat :=
  Nat.rec (motive := fun _ => Nat → List Item1 → List Nat) (fun _ _ => []) (fun _ ih done l => match pickQuiet done l with
    | some (x, r) => x.idx :: ih (fNat (done + x.bit)) r
    | none => (match pickLoud done l with | some (x, r) => x.idx :: ih (fNat (done + x.bit)) r | none => [])) fuel
noncomputable def namesOf (ops : Array Oper) (o : Oper) : List Tmp := o.op.operands.toList.filterMap (fun | .tmp t => some t | _ => none) ++ (match o.guard with | some (j, _) => (dstOf ops j).toList | none => [])
noncomputable def inL (t : Option Tmp) (l : List Tmp) : Bool := match t with | none => false | some t => l.any (Nat.beq t)
/-- its temporary is named by one that does not wait for it -/
noncomputable def lateOp (ops : Array Oper) (bef : Array Nat) (i : Nat) : Bool := (List.range ops.size).any fun j => !Nat.beq j i && (inL (dstOf ops i) (namesOf ops (ops.getD j default)) && !Nat.testBit (bef.getD j 0) i)
noncomputable def item (ops : Array Oper) (bef : Array Nat) (i : Nat) : Item1 := let o := ops.getD i default; { o, idx := i, kind := cond (lateOp ops bef i) 3 (kindOf o.op), mask := bef.getD i 0, bit := 2 ^ i }
noncomputable def items (ops : Array Oper) (l : List Nat) : List Item1 := l.map (item ops (Region.before ops))
noncomputable def isLoud (x : Item1) : Bool := Nat.beq x.kind 3
noncomputable def sameDst (a b : Option Tmp) : Bool := match a, b with | some a, some b => Nat.beq a b | _, _ => false
/-- x is taken ahead of y -/
noncomputable def pairOk (ops : Array Oper) (x y : Item1) : Bool :=
  (hasBit y.mask x.bit || (!(isLoud x && isLoud y) && !inL x.o.dst (namesOf ops y.o))) && ((!inL y.o.dst (namesOf ops x.o) || (isLoud y && hasBit y.mask x.bit)) && (!sameDst x.o.dst y.o.dst && !Nat.beq x.idx y.idx))
noncomputable def pairsOk (ops : Array Oper) (l : List Item1) : Bool := List.rec (motive := fun _ => Bool) true (fun x r ih => r.all (pairOk ops x) && ih) l
/-- what is left waits for one that is left -/
noncomputable def waitsFor (l : List Item1) (y : Item1) : Bool := y.o.after.toList.any fun e => Region.binds .any e && l.any fun z => Nat.beq z.idx e.on
noncomputable def loudFirst (l : List Item1) : Bool := List.rec (motive := fun _ => Bool) true (fun x r ih => (!isLoud x || r.all (waitsFor (x :: r))) && ih) l
/-- the masks are closed -/
noncomputable def maskOk (ops : Array Oper) (bef : Array Nat) (i : Nat) : Bool :=
  (List.range ops.size).all fun j => !Nat.testBit (bef.getD i 0) j || ((ops.getD i default).after.toList.any fun e => Region.binds .any e && (Nat.beq e.on j || Nat.testBit (bef.getD e.on 0) j))
/-- what each one waits for comes ahead of it; a quiet one does not name its own temporary -/
noncomputable def topo (ops : Array Oper) (l : List Item1) : List Nat → Bool :=
  List.rec (motive := fun _ => List Nat → Bool) (fun _ => true) (fun x _ ih done => (x.o.after.toList.all fun e => !Region.binds .any e || done.any (Nat.beq e.on)) && ((isLoud x || !inL x.o.dst (namesOf ops x.o)) && (!isSp x.o.op && (Nat.blt x.idx ops.size && ih (x.idx :: done))))) l
noncomputable def permOk (n : Nat) (l : List Nat) : Bool := Nat.beq l.length n && (List.range n).all fun i => l.any (Nat.beq i)
noncomputable def plan (ops : Array Oper) : Option (List Item1) :=
  let o := ordGo ops.size 0 (items ops (List.range ops.size))
  let l := items ops o
  cond (permOk ops.size o && (pairsOk ops l && (loudFirst l && (topo ops l [] && (List.range ops.size).all (maskOk ops (Region.before ops)))))) (some l) none

structure Seen1 where
  x : Item1
  e : Env
  v : Value
noncomputable def sameV (fuel : Nat) : Value → Value → Bool :=
  Nat.rec (motive := fun _ => Value → Value → Bool) (fun _ _ => false) (fun _ ih a b => match a, b with
    | .bool x, .bool y => cond x y (!y)
    | .int j x, .int k y => decide (j = k) && eqI x y
    | .string x, .string y => eqB (bytesOf x) (bytesOf y)
    | .pointer none, .pointer none => true
    | .pointer (some x), .pointer (some y) => Nat.beq x.block y.block && (Nat.beq x.off y.off && (x.spot.isNone && y.spot.isNone))
    | .slice none l c, .slice none m d => Nat.beq l m && Nat.beq c d
    | .slice (some x) l c, .slice (some y) m d => (Nat.beq x.block y.block && (Nat.beq x.off y.off && (x.spot.isNone && y.spot.isNone))) && (Nat.beq l m && Nat.beq c d)
    | .map none, .map none => true
    | .map (some x), .map (some y) => Nat.beq x y
    | .nilFunc, .nilFunc => true
    | .func (.func f) x u, .func (.func g) y w => Nat.beq f g && (sameL ih x.toList y.toList && sameL ih u.toList w.toList)
    | .nilIface, .nilIface => true
    | .iface t x, .iface u y => Nat.beq t u && ih x y
    | .agg x, .agg y => sameL ih x.toList y.toList
    | .tuple x, .tuple y => sameL ih x.toList y.toList
    | _, _ => false) fuel
where sameL (ih : Value → Value → Bool) (a b : List Value) : Bool :=
  List.rec (motive := fun _ => List Value → Bool) (fun b => match b with | [] => true | _ => false) (fun x _ r b => match b with | [] => false | y :: q => ih x y && r q) a b
/-- an operation that only looks, looked at once more -/
noncomputable def lookOp (o : Oper) (e : Env) (s : St) : Res := match callOf o.op with
  | some c => (match c.callee with
    | .builtin b => (match mapG (opnd e) c.args.toList with | some args => builtinOp b c.argTypes args s | none => .fail "look")
    | _ => .fail "look")
  | none => op1 o.op (opnd e) s
noncomputable def still (loud : Item1) (s : St) (p : Seen1) : Bool := cond (hasBit loud.mask p.x.bit) true (match lookOp p.x.o p.e s with | .val v _ _ => sameV 8 v p.v | _ => false)
noncomputable def stills (loud : Item1) (s : St) (l : List Seen1) : Bool := List.rec (motive := fun _ => Bool) true (fun p _ ih => cond (still loud s p) ih false) l
noncomputable def lastOf (d : Option Tmp) (e : Env) : Value := match d with | none => .tuple #[] | some _ => (match e with | .cons _ v _ => v | .nil => .tuple #[])
/-- behind one operation -/
noncomputable def drawNext (ops : Array Oper) (x : Item1) (pend : List Seen1) (k : List Seen1 → Env → St → Out) (e0 : Env) (e : Env) (s : St) : Out :=
  match x.kind with
  | 0 => k pend e s
  | 1 => (match guardOk ops x.o.guard e0 with | some true => k ({ x, e := e0, v := lastOf x.o.dst e } :: pend) e s | _ => k pend e s)
  | 2 => k pend e s
  | _ => cond (stills x s pend) (k pend e s) (.fail "drawn region a look that does not stand")
noncomputable def drawRun (ih : Req → Out) (ops : Array Oper) (l : List Item1) : List Seen1 → Env → St → Out :=
  List.rec (motive := fun _ => List Seen1 → Env → St → Out) (fun _ e s => cond (Nat.blt s.n 1000000) (.norm e s) (.fail "too many blocks"))
    (fun x _ k pend e s => cond (Nat.blt s.n 1000000) (opStep ih ops x.o (drawNext ops x pend k e) e s) (.fail "too many blocks")) l
noncomputable def dropDst (ops : Array Oper) (e : Env) : Env := Env.rec (motive := fun _ => Env) .nil (fun t v _ r => cond (ops.toList.any fun o => inL o.dst [t]) r (match r with | .nil => .cons t v .nil | .cons u w q => .cons t v (.cons u w q))) e
/-- where a drawn region panics, what has been reckoned is not known -/
noncomputable def fixPan (ops : Array Oper) (e : Env) (r : Out) : Out := match r with
  | .pan v _ s => .pan v (dropDst ops e) s
  | r => r
noncomputable def ntOf (fn : FuncId) : Nat := match PG.funcs[fn]? with | some f => f.ntmps | none => 0
noncomputable def isStruct (t : TypeId) (f : Nat) : Bool := match desc t with | .struct fs => Nat.blt f fs.size | _ => false
noncomputable def okOp (nt : Nat) (o : Oper) : Bool := (match o.dst with | some t => Nat.blt t nt | none => true) && (match o.op with
  | .field t _ f => isStruct t f
  | .fieldAddr t _ f => isStruct t f
  | .makeInterface t _ => (match desc t with | .interface _ => false | .invalid => false | _ => true)
  | .makeFunc fn _ _ => (match fn with | .yield _ => false | _ => true)
  | .makeMap _ r => r.isNone
  | .build t parts => (match desc t with
    | .struct fs => (fs.toList.all fun f => (PG.info? f.type).isSome) && parts.toList.all fun p => Nat.blt p.1 fs.size
    | .array _ e => (PG.info? e).isSome
    | _ => false)
  | .buildSlice t len _ => (match desc t with | .slice e => okZero e && (Nat.ble (len * size e) 16777216 && Nat.ble len 16777216) | _ => false)
  | .makeSlice t _ _ => (match desc t with | .slice e => okZero e | _ => false)
  | .makeChan t _ => (match desc t with | .chan _ e => (PG.info? e).isSome | _ => false)
  | .convert src _ _ => (match desc src with | .invalid => false | _ => true)
  | .call c => (match c.callee with | .builtin b => (match b with | .len => Nat.blt 0 c.argTypes.size | .cap => Nat.blt 0 c.argTypes.size | .append => Nat.blt 0 c.argTypes.size | _ => true) | _ => true)
  | _ => true)
noncomputable def okRegion (fn : FuncId) (ops : Array Oper) : Bool := ops.toList.all (okOp (ntOf fn))
noncomputable def regionRun (ih : Req → Out) (fn : FuncId) (ops : Array Oper) (draw : Bool) (e : Env) (s : St) : Out :=
  cond (okRegion fn ops) (cond draw (match plan ops with | some l => fixPan ops e (drawRun ih ops l [] e s) | none => .fail "drawn region no plan") (opsRun ih ops ops.toList e s)) (.fail "region")

noncomputable def entry (args : List Value) : Env := List.rec (motive := fun _ => Nat → Env) (fun _ => .nil) (fun a _ ih i => match i with | 0 => .cons 0 a (ih 1) | m + 1 => .cons (Nat.succ m) a (ih (Nat.succ (Nat.succ m)))) args 0
noncomputable def setParams (ps : List Tmp) : List Value → Env → Option Env := List.rec (motive := fun _ => List Value → Env → Option Env) (fun l e => match l with | [] => some e | _ => none) (fun p _ ih l e => match l with | [] => none | a :: r => ih r (.cons p a e)) ps

noncomputable def result1 (r : ResultVar) (e : Env) (s : St) : Option Value := match r with
  | .tmp t => (match e.get t with | some v => some v | none => none)
  | .cell a t => (match e.get a with | some (.pointer (some a)) => (match loadAt t a s with | .val v _ _ => some v | _ => none) | _ => none)
noncomputable def results1 (l : List ResultVar) (e : Env) (s : St) : Option (List Value) :=
  List.rec (motive := fun _ => Option (List Value)) (some []) (fun r _ ih => match result1 r e s with | none => none | some v => match ih with | none => none | some x => some (v :: x)) l
noncomputable def results (f : Func) (e : Env) (s : St) : Out := match results1 f.results.toList e s with
  | some [v] => .val v s
  | some vs => .val (.tuple ⟨vs⟩) s
  | none => .fail "results"

/-- the tmps of a function that are looked at outside the region that sets them -/
noncomputable def isIn (t : Nat) (l : List Nat) : Bool := List.rec (motive := fun _ => Bool) false (fun a _ r => Bool.rec (motive := fun _ => Bool) r true (Nat.beq a t)) l
noncomputable def addTo (t : Nat) (l : List Nat) : List Nat := Bool.rec (motive := fun _ => List Nat) (match t with | 0 => 0 :: l | m + 1 => Nat.succ m :: l) l (isIn t l)
noncomputable def addOps (x : List Operand) (defd acc : List Nat) : List Nat := List.rec (motive := fun _ => List Nat → List Nat) (fun acc => acc) (fun o _ ih acc => match o with | .tmp t => ih (Bool.rec (motive := fun _ => List Nat) (addTo t acc) acc (isIn t defd)) | _ => ih acc) x acc
noncomputable def addRegion (ops : List Oper) (acc : List Nat) : List Nat := List.rec (motive := fun _ => List Nat → List Nat → List Nat) (fun _ acc => acc) (fun o _ ih defd acc => ih (match o.dst with | some t => t :: defd | none => defd) (addOps o.op.operands.toList defd acc)) ops [] acc
noncomputable def addCode (c : Code) : List Nat → List Nat := match c with
  | .region _ ops _ => addRegion ops.toList
  | .seq a b => fun acc => addCode b (addCode a acc)
  | .cond c a b => fun acc => addCode b (addCode a (addOps [c] [] acc))
  | .rangeFunc f _ a b => fun acc => addCode b (addCode a (addOps [f] [] acc))
  | .block _ c => addCode c
  | .loop c => addCode c
  | .scope c => addCode c
  | _ => fun acc => acc
noncomputable def addResults (l : List ResultVar) (acc : List Nat) : List Nat := List.rec (motive := fun _ => List Nat → List Nat) (fun acc => acc) (fun r _ ih acc => ih (match r with | .tmp t => addTo t acc | .cell a _ => addTo a acc)) l acc
noncomputable def keepOf (fn : FuncId) : List Nat := match PG.funcs[fn]? with | some f => (match f.body with | some c => addCode c (addResults f.results.toList []) | none => []) | none => []
noncomputable def keep (l : List Nat) (e : Env) : Env := List.rec (motive := fun _ => Env) .nil (fun t _ ih => match ih with
  | .nil => (match e.get t with | some v => .cons t v .nil | none => .nil)
  | .cons u w r => (match e.get t with | some v => .cons t v (.cons u w r) | none => .cons u w r)) l
noncomputable def prune (fn : FuncId) (e : Env) : Env := keep (keepOf fn) e

noncomputable def xSeq (ih : Req → Out) (fn : FuncId) (b : Code) (r : Out) : Out := match r with
  | .norm e s => ih (.code fn b e s)
  | r => r
noncomputable def xCond (ih : Req → Out) (fn : FuncId) (c : Option Value) (a b : Code) (e : Env) (s : St) : Out := match c with
  | some (.bool t) => ih (.code fn (cond t a b) e s)
  | _ => .fail "cond"
noncomputable def xBlock (id : Nat) (r : Out) : Out := match r with
  | .exit id' e s => cond (Nat.beq id id') (.norm e s) (.exit id' e s)
  | r => r
noncomputable def xEndRange (ih : Req → Out) (fn : FuncId) (l : Nat) (e : Env) (d : List Deferred) (rk : Option Value) (r : Out) : Out := match r with
  | .val _ s' => (match s'.h.get l with
    | some (.loop st pend _ _ _ _ _) => (match st with
      | .busy => .fail "range over func busy"
      | _ => (match pend with
        | none => .norm e { n := s'.n, h := Tr.set .dead 40 l s'.h, d := d, rk := rk }
        | some c => ih (.code fn c e { n := s'.n, h := Tr.set .dead 40 l s'.h, d := d, rk := rk })))
    | _ => .fail "range over func")
  | .pan v _ s' => .pan v e { n := s'.n, h := s'.h, d := d, rk := rk }
  | .fail w => .fail w
  | _ => .fail "range over func"
noncomputable def okParams (fn : FuncId) (ps : List Tmp) : Bool := ps.all fun t => Nat.blt t (ntOf fn)
noncomputable def xRange2 (ih : Req → Out) (fn : FuncId) (fv : Value) (params : Array Tmp) (assign body : Code) (e : Env) (d : List Deferred) (rk : Option Value) (n : Nat) (h : Tr AObj) : Out :=
  xEndRange ih fn n e d rk (ih (.value fv [.func (.yield n) #[] #[]] { n := Nat.succ n, h := Tr.set (.loop .ready none fn (prune fn e) params assign body) 40 n h, d := [], rk := none }))
noncomputable def xRange1 (ih : Req → Out) (fn : FuncId) (fv : Value) (params : Array Tmp) (assign body : Code) (e : Env) (s : St) : Out :=
  cond (clean s.d)
    (match s.n with
      | 0 => .fail "range over func"
      | m + 1 => xRange2 ih fn fv params assign body e ({ target := .collected (Nat.succ m), args := #[] } :: s.d) s.rk (Nat.succ (Nat.succ m)) (Tr.set .defd 40 (Nat.succ m) s.h))
    (match roundL s.d with
      | some l => cond (isLoop (s.h.get l)) (xRange2 ih fn fv params assign body e s.d s.rk s.n s.h) (.fail "a round of no loop")
      | none => .fail "a round of no loop")
noncomputable def xRange (ih : Req → Out) (fn : FuncId) (f : Option Value) (params : Array Tmp) (assign body : Code) (e : Env) (s : St) : Out := match f with
  | some fv => cond (okParams fn params.toList && Nat.blt s.n 1000000) (xRange1 ih fn fv params assign body e s) (.fail "range over func")
  | none => .fail "range over func"
noncomputable def xCode (c : Code) : (Req → Out) → FuncId → Env → St → Out := match c with
  | .skip => fun _ _ e s => .norm e s
  | .label _ => fun _ _ e s => .norm e s
  | .seq a b => fun ih fn e s => xSeq ih fn b (ih (.code fn a e s))
  | .cond c a b => fun ih fn e s => xCond ih fn (opnd e c) a b e s
  | .block id body => fun ih fn e s => xBlock id (ih (.code fn body e s))
  | .loop body => fun ih fn e s => xSeq ih fn (.loop body) (ih (.code fn body (prune fn e) s))
  | .scope body => fun ih fn e s => ih (.code fn body e s)
  | .exit id => fun _ _ e s => .exit id e s
  | .goto _ => fun _ _ _ _ => .fail "goto"
  | .ret => fun _ _ e s => .ret e s
  | .region _ ops draw => fun ih fn e s => regionRun ih fn ops draw e s
  | .rangeFunc f params assign body => fun ih fn e s => xRange ih fn (opnd e f) params assign body e s
  | .refuse w => fun _ _ _ _ => .fail w
noncomputable def setLoop (l : Nat) (o : AObj) (s : St) : St := { n := s.n, h := Tr.set o 40 l s.h, d := s.d, rk := s.rk }
noncomputable def xRound3 (l : Nat) (b : Bool) (st : LoopState) (jump : Option Code) (s : St) (o : Option AObj) : Out := match o with
  | some (.loop _ _ fn env params assign body) => .val (.bool b) (setLoop l (.loop st jump fn env params assign body) s)
  | _ => .fail "round"
noncomputable def xRound2 (l : Nat) (r : Out) : Out := match r with
  | .norm _ s => xRound3 l true .ready none s (s.h.get l)
  | .exit id _ s => xRound3 l false .done (some (.exit id)) s (s.h.get l)
  | .ret _ s => xRound3 l false .done (some .ret) s (s.h.get l)
  | .pan v e s => .pan v e s
  | .fail w => .fail w
  | _ => .fail "round"
noncomputable def xRound1 (ih : Req → Out) (l : Nat) (fn : FuncId) (body : Code) (r : Out) : Out := match r with
  | .norm e s => (match s.h.get l with
    | some (.loop .ready pend fn' env params assign body') => xRound2 l (ih (.code fn body e (setLoop l (.loop .busy pend fn' env params assign body') s)))
    | _ => .fail "round")
  | _ => .fail "round"
noncomputable def xYield1 (ih : Req → Out) (l : Nat) (s : St) (fn : FuncId) (assign body : Code) (e : Option Env) : Out := match e with
  | some e => xRound1 ih l fn body (ih (.code fn assign e { n := s.n, h := s.h, d := [poison l], rk := none }))
  | none => .fail "yield"
noncomputable def xYield (ih : Req → Out) (l : Nat) (args : List Value) (s : St) (o : Option AObj) : Out := match o with
  | some (.loop _ _ fn env params assign body) => cond (Nat.ble BASE l) (xYield1 ih l s fn assign body (setParams params.toList args env)) (.fail "yield")
  | _ => .fail "yield"
noncomputable def xValue (ih : Req → Out) (f : Value) (args : List Value) (s : St) : Out := match f with
  | .func fn first cap => (match fn with
    | .func f => ih (.call f (appL first.toList (appL args cap.toList)) s)
    | .yield l => xYield ih l (appL first.toList args) s (s.h.get l)
    | _ => .fail "call of a method")
  | _ => .fail "call of no function"
noncomputable def xBody (ih : Req → Out) (fn : Func) (r : Out) : Out := match r with
  | .norm e s => ih (.unwind fn e s.d none s)
  | .ret e s => ih (.unwind fn e s.d none s)
  | .pan v e s => ih (.unwind fn e s.d (some v) s)
  | .fail w => .fail (fn.name ++ " " ++ w)
  | _ => .fail "body"
noncomputable def xExtern (name : String) (r : Res) (s : St) : Out := match r with
  | .val v n h => .val v { n, h, d := s.d, rk := s.rk }
  | _ => .fail ("extern " ++ name)
noncomputable def xFunc (ih : Req → Out) (f : FuncId) (fn : Func) (args : List Value) (s : St) : Out := match fn.body with
  | some c => xBody ih fn (ih (.code f c (entry args) s))
  | none => xExtern fn.name (externOp f args s) s
noncomputable def xCall (ih : Req → Out) (f : FuncId) (args : List Value) (s : St) : Out := match PG.funcs[f]? with
  | some fn => xFunc ih f fn args s
  | none => .fail "no function"
noncomputable def xDeferred (ih : Req → Out) (fn : Func) (e : Env) (rest : List Deferred) (rk : Option Value) (r : Out) : Out := match r with
  | .val _ s => (match s.rk with
    | none => ih (.unwind fn e rest none { n := s.n, h := s.h, d := s.d, rk := rk })
    | some v => ih (.unwind fn e rest (some v) { n := s.n, h := s.h, d := s.d, rk := rk }))
  | .fail w => .fail w
  | _ => .fail "a deferred call"
noncomputable def hasBody (f : FuncId) : Bool := match PG.funcs[f]? with | some fn => fn.body.isSome | none => false
noncomputable def xSpd (ih : Req → Out) (fn : Func) (e : Env) (rest : List Deferred) (p : Option Value) (s : St) (r : Out) : Out := match r with
  | .val _ s' => ih (.unwind fn e rest p { n := s'.n, h := s'.h, d := s.d, rk := s.rk })
  | .fail w => .fail w
  | _ => .fail "a deferred call"
noncomputable def xUnwind (ih : Req → Out) (fn : Func) (e : Env) (ds : List Deferred) (p : Option Value) (s : St) : Out := match ds with
  | [] => (match p with
    | none => results fn e s
    | some v => .pan v e s)
  | d :: rest => (match d.target with
    | .fn (.func f) cap => cond (hasBody f) (xDeferred ih fn e rest s.rk (ih (.call f (appL d.args.toList cap.toList) { n := s.n, h := s.h, d := [], rk := p }))) (.fail "a deferred call of no Go function")
    | .builtin .. => xSpd ih fn e rest p s (ih (.spd d s))
    | .collected b => (match s.h.get b with | some .defd => ih (.unwind fn e rest p { n := s.n, h := Tr.set .dead 40 b s.h, d := s.d, rk := s.rk }) | _ => .fail "a mark among the deferred calls")
    | _ => .fail "a deferred call")
noncomputable def step (hk : Oper → Env → St → Out) (hd : Deferred → St → Out) (ih : Req → Out) (q : Req) : Out := match q with
  | .code fn c e s => xCode c ih fn e s
  | .call f args s => xCall ih f args s
  | .value f args s => xValue ih f args s
  | .unwind fn e ds p s => xUnwind ih fn e ds p s
  | .sp o e s => hk o e s
  | .spd d s => hd d s

noncomputable def ev (hk : Oper → Env → St → Out) (hd : Deferred → St → Out) (n : Nat) : Req → Out :=
  Nat.rec (motive := fun _ => Req → Out) (fun _ => .fail "fuel") (fun _ ih => step hk hd ih) n

/-! what goes out of a goroutine: the hooks -/
noncomputable def isClose (b : Builtin) : Bool := match b with | .close => true | _ => false
noncomputable def isConst (x : Operand) : Bool := match x with | .const _ => true | _ => false
noncomputable def hkDefer (o : Oper) (c : Call) (e : Env) (s : St) : Out := match c.callee with
  | .builtin b => cond (isClose b) (match mapG (opnd e) c.args.toList with
    | some args => cond (clean s.d) (.val (.tuple #[]) { n := s.n, h := s.h, d := { target := .builtin b c.argTypes o.type (c.args.map isConst), args := ⟨args⟩ } :: s.d, rk := s.rk }) (.fail "defer in a round")
    | none => .fail "defer args") (.fail "defer")
  | _ => .fail "defer"
noncomputable def count (o : Option AObj) : Option Nat := match o with | some (.iter none j _ _) => some j | _ => none
/-- a select of two cases: the value is the one that is next -/
noncomputable def hkSel3 (y : Option Value) (j : Nat) (v : Value) (zq : Option Value) (z0 : Option Value) (s : St) : Out := match y with
  | some y => (match zq with
    | some zq => (match z0 with
      | some _ => cond (closedB 4 v && sameV 4 v y) (.val (.tuple #[.int .i64 (.ofNat 0), .bool false, zq]) { n := s.n, h := Tr.set (.iter none (fNat (j + 1)) [] 0) 40 GK s.h, d := s.d, rk := s.rk }) (.fail "select another value")
      | none => .fail "select")
    | none => .fail "select")
  | none => .fail "select no more"
noncomputable def hkSel2 (bc bq : Nat) (Tk : List Value) (x0 x1 v : Option Value) (el0 el1 : TypeId) (s : St) : Out := match x0, x1, v with
  | some (.chan (some b0)), some (.chan (some b1)), some v => cond (Nat.beq b0 bc && Nat.beq b1 bq) (match count (s.h.get GK) with
    | some j => hkSel3 (nth Tk j) j v (zeroV el1) (zeroV el0) s
    | none => .fail "select") (.fail "select")
  | _, _, _ => .fail "select"
noncomputable def hkS (bc bq : Nat) (Tk : List Value) (o : Oper) (e : Env) (s : St) : Out := match o.op with
  | .select cs bl => (match bl, cs.toList with
    | true, [⟨c0, some x, el0⟩, ⟨c1, none, el1⟩] => hkSel2 bc bq Tk (opnd e c0) (opnd e c1) (opnd e x) el0 el1 s
    | _, _ => .fail "select")
  | .defer c => hkDefer o c e s
  | _ => .fail "hook"
noncomputable def noSpd (_ : Deferred) (_ : St) : Out := .fail "a deferred builtin"
/-! goroutine 0: a go statement, what it receives, the close of the other channel -/
noncomputable def ITEM : TypeId := 92
noncomputable def ghost (s : St) (o : AObj) (h : Tr AObj) : St := { n := s.n, h := Tr.set o 40 GK h, d := s.d, rk := s.rk }
noncomputable def hkGo3 (bc bq : Nat) (o0 o1 g : Option AObj) (s : St) : Out := match o0, o1, g with
  | some .chan, some .chan, none => .val (.tuple #[]) (ghost s (.iter none 0 [bc, bq] 0) (Tr.set .dead 40 bc (Tr.set .dead 40 bq s.h)))
  | _, _, _ => .fail "go"
noncomputable def hkGo2 (T : ByteArray) (x : Option (List Value)) (s : St) : Out := match x with
  | some [t, .chan (some bc), .chan (some bq)] => cond (sameV 1 t (.string T) && (Nat.ble BASE bc && (Nat.ble BASE bq && !Nat.beq bc bq))) (hkGo3 bc bq (s.h.get bc) (s.h.get bq) (s.h.get GK) s) (.fail "go args")
  | _ => .fail "go"
noncomputable def isScan (o : Option Value) : Bool := match o with
  | some (.func (.func k) first cap) => Nat.beq k SCAN && (first.toList.isEmpty && cap.toList.isEmpty)
  | _ => false
noncomputable def hkGo (T : ByteArray) (c : Call) (e : Env) (s : St) : Out := match c.callee with
  | .value f => cond (isScan (opnd e f)) (hkGo2 T (mapG (opnd e) c.args.toList) s) (.fail "go")
  | _ => .fail "go"
noncomputable def hkRecv3 (y : Option Value) (j bc bq : Nat) (z : Value) (s : St) : Out := match y with
  | some y => cond (closedB 4 y) (.val (.tuple #[y, .bool true]) (ghost s (.iter none (fNat (j + 1)) [bc, bq] 0) s.h)) (.fail "recv")
  | none => .val (.tuple #[z, .bool false]) (ghost s (.iter none 0 [bc, bq] 1) s.h)
noncomputable def hkRecv2 (Tk : List Value) (b : Nat) (z : Option Value) (s : St) (g : Option AObj) : Out := match g, z with
  | some (.iter none j [bc, bq] 0), some z => cond (Nat.beq b bc) (hkRecv3 (nth Tk j) j bc bq z s) (.fail "recv")
  | _, _ => .fail "recv"
noncomputable def chanEl (d : TypeDesc) : Option TypeId := match d with | .chan _ el => some el | _ => none
noncomputable def hkRecv (Tk : List Value) (ty : TypeId) (ok : Bool) (x : Option Value) (s : St) : Out := match x, chanEl (desc ty) with
  | some (.chan (some b)), some el => cond (ok && Nat.beq el ITEM) (hkRecv2 Tk b (zeroV ITEM) s (s.h.get GK)) (.fail "recv")
  | _, _ => .fail "recv"
noncomputable def hkM (T : ByteArray) (Tk : List Value) (o : Oper) (e : Env) (s : St) : Out := match o.op with
  | .go c => hkGo T c e s
  | .recv ty x ok => hkRecv Tk ty ok (opnd e x) s
  | .defer c => hkDefer o c e s
  | _ => .fail "hook"
noncomputable def hdM2 (b : Nat) (s : St) (g : Option AObj) : Out := match g with
  | some (.iter none 0 [bc, bq] 1) => cond (Nat.beq b bq) (.val (.tuple #[]) (ghost s (.iter none 0 [bc, bq] 2) s.h)) (.fail "close")
  | _ => .fail "close"
noncomputable def hdM (d : Deferred) (s : St) : Out := match d.target, d.args.toList with
  | .builtin b _ _ _, [.chan (some x)] => cond (isClose b) (hdM2 x s (s.h.get GK)) (.fail "close")
  | _, _ => .fail "close"
/-! pieces of a run: a heap of which only some blocks are known; tests of equality; a table of calls that are known -/
noncomputable def sameVL (a b : List Value) : Bool := sameV.sameL (sameV 8) a b
noncomputable def sameNL (a b : List Nat) : Bool := List.rec (motive := fun _ => List Nat → Bool) (fun b => match b with | [] => true | _ => false) (fun x _ r b => match b with | [] => false | y :: q => cond (Nat.beq x y) (r q) false) a b
noncomputable def sameON (a b : Option Nat) : Bool := match a with
  | none => (match b with | none => true | some _ => false)
  | some x => (match b with | some y => Nat.beq x y | none => false)
noncomputable def sameEn (a b : MapEntry) : Bool := cond (sameV 8 a.key b.key) (cond (sameV 8 a.val b.val) (Nat.beq a.born b.born) false) false
noncomputable def sameEs (a b : List MapEntry) : Bool := List.rec (motive := fun _ => List MapEntry → Bool) (fun b => match b with | [] => true | _ => false) (fun x _ r b => match b with | [] => false | y :: q => cond (sameEn x y) (r q) false) a b
noncomputable def sameO (a b : AObj) : Bool := match a with
  | .row c t => (match b with | .row d u => cond (Nat.beq t u) (sameVL c d) false | _ => false)
  | .map c t => (match b with | .map d u => cond (Nat.beq t u) (sameEs c d) false | _ => false)
  | .iter m i l k => (match b with | .iter m' i' l' k' => cond (sameON m m') (cond (Nat.beq i i') (cond (sameNL l l') (Nat.beq k k') false) false) false | _ => false)
  | .defd => (match b with | .defd => true | _ => false)
  | .chan => (match b with | .chan => true | _ => false)
  | .dead => (match b with | .dead => true | _ => false)
  | .loop .. => false
noncomputable def sameOO (a b : Option AObj) : Bool := match a with
  | none => (match b with | none => true | some _ => false)
  | some x => (match b with | some y => sameO x y | none => false)
noncomputable def sameE (a b : Env) : Bool := Env.rec (motive := fun _ => Env → Bool) (fun b => match b with | .nil => true | .cons _ _ _ => false) (fun t v _ r b => match b with | .nil => false | .cons u w q => cond (Nat.beq t u) (cond (sameV 8 v w) (r q) false) false) a b
inductive Mk | any | leaf | node (l : Mk) (v : Option (Option AObj)) (r : Mk)
noncomputable def lft (t : Tr AObj) : Tr AObj := match t with | .leaf => .leaf | .node l _ _ => l
noncomputable def rgt (t : Tr AObj) : Tr AObj := match t with | .leaf => .leaf | .node _ _ r => r
noncomputable def vlu (t : Tr AObj) : Option AObj := match t with | .leaf => none | .node _ v _ => v
noncomputable def skv (v : Option (Option AObj)) (t : Tr AObj) : Option AObj := match v with | some x => x | none => vlu t
noncomputable def ske (m : Mk) : Tr AObj → Tr AObj :=
  Mk.rec (motive := fun _ => Tr AObj → Tr AObj) (fun t => t) (fun _ => .leaf) (fun _ v _ il ir t => .node (il (lft t)) (skv v t) (ir (rgt t))) m
noncomputable def exM (t : Tr AObj) : Mk := Tr.rec (motive := fun _ => Mk) .leaf (fun _ v _ a b => .node a (some v) b) t
noncomputable def chkV (v : Option (Option AObj)) (x : Option AObj) : Bool := match v with | none => true | some y => sameOO x y
noncomputable def chkM (m : Mk) : Tr AObj → Bool :=
  Mk.rec (motive := fun _ => Tr AObj → Bool) (fun _ => true) (fun t => match t with | .leaf => true | .node _ _ _ => false)
    (fun _ v _ il ir t => match t with | .leaf => false | .node a x b => cond (chkV v x) (cond (il a) (ir b) false) false) m
noncomputable def mkI (m : Mk) (k : Mk → Option (Option AObj) → Mk → Mk) : Mk := match m with | .any => k .any none .any | .leaf => k .any none .any | .node l v r => k l v r
/-- what is known of block b -/
noncomputable def insM (x : Option AObj) (fuel : Nat) : Nat → Mk → Mk :=
  Nat.rec (motive := fun _ => Nat → Mk → Mk) (fun _ m => m) (fun _ ih n m => mkI m fun l v r => match n with
    | 0 => .node l (some x) r
    | j + 1 => cond (Nat.beq (Nat.mod j 2) 0) (.node (ih (Nat.div j 2) l) v r) (.node l v (ih (Nat.div j 2) r))) fuel
/-- n blocks stand -/
noncomputable def fullM (fuel : Nat) : Nat → Mk :=
  Nat.rec (motive := fun _ => Nat → Mk) (fun _ => .any) (fun _ ih n => match n with
    | 0 => .leaf
    | j + 1 => .node (ih (Nat.div (Nat.succ j) 2)) none (ih (Nat.div j 2))) fuel
noncomputable def kn (l : List (Nat × AObj)) (m : Mk) : Mk := List.rec (motive := fun _ => Mk) m (fun p _ r => insM (some p.2) 40 p.1 r) l
/-- n blocks; those of l are known -/
noncomputable def mask (n : Nat) (l : List (Nat × AObj)) : Mk := kn l (fullM 40 n)
noncomputable def stOf (n : Nat) (m : Mk) (t : Tr AObj) : St := { n := n, h := ske m t, d := [], rk := none }
noncomputable def trOf (l : List (Nat × AObj)) : Tr AObj := List.rec (motive := fun _ => Tr AObj) .leaf (fun p _ r => Tr.set p.2 40 p.1 r) l
noncomputable def scanT2 (len : Nat) (l : List Value) (c : Option Nat) : Bool := match l with
  | [.chan (some x)] => cond (Nat.beq x 33) (match c with | some k => Nat.beq k len | none => false) false
  | _ => false
noncomputable def scanT1 (len : Nat) (s : St) : Bool := match s.d with
  | [d] => (match d.target with | .builtin b _ _ _ => cond (match b with | .close => true | _ => false) (scanT2 len d.args.toList (match s.h.get GK with | some (.iter none j _ _) => some j | _ => none)) false | _ => false)
  | _ => false
noncomputable def scanT (len : Nat) (o : Out) : Bool := match o with
  | .norm _ s => scanT1 len s
  | .ret _ s => scanT1 len s
  | _ => false
noncomputable def cA (c : Code) : Code := match c with | .seq a _ => a | _ => .skip
noncomputable def cB (c : Code) : Code := match c with | .seq _ b => b | _ => .skip
noncomputable def cK (c : Code) : Code := match c with | .block _ b => b | _ => .skip
noncomputable def cL (c : Code) : Code := match c with | .loop b => b | _ => .skip
noncomputable def cS (c : Code) : Code := match c with | .scope b => b | _ => .skip
noncomputable def bodyOf (f : FuncId) : Code := match PG.funcs[f]? with | some fn => (match fn.body with | some c => c | none => .skip) | none => .skip
noncomputable def allN (p : Nat → Bool) (n : Nat) : Bool := Nat.rec (motive := fun _ => Bool) true (fun i r => cond (p i) r false) n
noncomputable def emp {α : Type} (l : List α) : Bool := match l with | [] => true | _ :: _ => false
noncomputable def non {α : Type} (o : Option α) : Bool := match o with | none => true | some _ => false
noncomputable def chkS (n : Nat) (m : Mk) (s : St) : Bool := cond (Nat.beq n s.n) (cond (chkM m s.h) (cond (emp s.d) (non s.rk) false) false) false
/-- k: 0: on; 1: a return; k + 2: an exit -/
noncomputable def chkK (k : Nat) (e : Env) (n : Nat) (m : Mk) (o : Out) : Bool := match o with
  | .norm e' s => cond (Nat.beq k 0) (cond (sameE e e') (chkS n m s) false) false
  | .ret e' s => cond (Nat.beq k 1) (cond (sameE e e') (chkS n m s) false) false
  | .exit i e' s => cond (Nat.beq k (i + 2)) (cond (sameE e e') (chkS n m s) false) false
  | _ => false
/-- as far as e goes -/
noncomputable def weakE (e e' : Env) : Bool := Env.rec (motive := fun _ => Bool) true (fun t v _ r => cond (match e'.get t with | some w => sameV 8 v w | none => false) r false) e
noncomputable def chkW (e : Env) (n : Nat) (m : Mk) (o : Out) : Bool := match o with
  | .norm e' s => cond (weakE e e') (chkS n m s) false
  | _ => false
noncomputable def chkR (v : Value) (n : Nat) (m : Mk) (o : Out) : Bool := match o with
  | .val w s => cond (sameV 8 v w) (chkS n m s) false
  | _ => false
/-- a call that is known: what it is called with, what it comes to -/
structure Ent where
  ix : Nat
  f : FuncId
  args : List Value
  n0 : Nat
  m0 : Mk
  v : Value
  n1 : Nat
  m1 : Mk
noncomputable def entHit (h : Tr AObj → Tr AObj) (e : Ent) (args : List Value) (s : St) : Option Out := cond (sameVL args e.args) (cond (chkS e.n0 e.m0 s) (some (.val e.v { n := e.n1, h := ske e.m1 (h s.h), d := [], rk := none })) none) none
noncomputable def lookE (H : Nat → Tr AObj → Tr AObj) (f : FuncId) (args : List Value) (s : St) (l : List Ent) : Option Out :=
  List.rec (motive := fun _ => Option Out) none (fun e _ ih => cond (Nat.beq s.n e.n0) (cond (Nat.beq f e.f) (entHit (H e.ix) e args s) ih) ih) l
noncomputable def tabT (H : Nat → Tr AObj → Tr AObj) (l : List Ent) (q : Req) : Option Out := match q with
  | .call f args s => lookE H f args s l
  | _ => none
noncomputable def evT1 (hk : Oper → Env → St → Out) (hd : Deferred → St → Out) (ih : Req → Out) (q : Req) (o : Option Out) : Out := match o with | some o => o | none => step hk hd ih q
noncomputable def evT (tab : Req → Option Out) (hk : Oper → Env → St → Out) (hd : Deferred → St → Out) (n : Nat) : Req → Out :=
  Nat.rec (motive := fun _ => Req → Out) (fun _ => .fail "fuel") (fun _ ih q => evT1 hk hd ih q (tab q)) n
end
end Go.Proofs.YtfpmbneglnoojaaGreatDoor.Ab
