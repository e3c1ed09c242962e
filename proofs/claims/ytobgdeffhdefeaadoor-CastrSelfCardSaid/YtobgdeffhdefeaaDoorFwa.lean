import Derived.WalkKit
import Derived.ControlIn
import Derived.TacticsIn
import Derived.OrdersHeld
import Derived.RangeFuncCalls
/- A small logic of resources for walks: what is known of the slots, and one step of an operation in whatever mode the walk is. -/
namespace Go.Proofs.YtobgdeffhdefeaaDoor
set_option linter.unusedSimpArgs false
set_option linter.unusedVariables false
open Go.RowKit

/-- What is known of the slots. -/
structure Reg (a : Act) (N : Nat) (l : List (Nat × Value)) : Prop where
  dfr : a.defers = []
  size : a.tmps.size = N
  get : ∀ i v, l.lookup i = some v → a.tmps.getD i undef = v

def ev (l : List (Nat × Value)) : Operand → Option Value
  | .tmp t => l.lookup t
  | .const v => some v
  | .global g => some (.pointer (some ⟨g, 0, none⟩))
  | .func f => some (.func (.func f) #[] #[])
def evs (l : List (Nat × Value)) : List Operand → Option (List Value)
  | [] => some []
  | x :: xs => match ev l x, evs l xs with
    | some v, some vs => some (v :: vs)
    | _, _ => none

theorem Reg.ev {a : Act} {N : Nat} {l : List (Nat × Value)} (h : Reg a N l) {x : Operand} {v : Value} (hx : ev l x = some v) : a.eval x = v := by
  cases x with
  | tmp t => exact h.get t v hx
  | const c => simpa [YtobgdeffhdefeaaDoor.ev, Act.eval] using hx
  | global g => simpa [YtobgdeffhdefeaaDoor.ev, Act.eval] using hx
  | func f => simpa [YtobgdeffhdefeaaDoor.ev, Act.eval] using hx

theorem Reg.evs {a : Act} {N : Nat} {l : List (Nat × Value)} (h : Reg a N l) : ∀ {xs : List Operand} {vs : List Value}, evs l xs = some vs → xs.map a.eval = vs
  | [], vs, hx => by simpa [YtobgdeffhdefeaaDoor.evs] using hx
  | x :: xs, vs, hx => by
    simp only [YtobgdeffhdefeaaDoor.evs] at hx
    cases h1 : YtobgdeffhdefeaaDoor.ev l x with
    | none => simp [h1] at hx
    | some v =>
      cases h2 : YtobgdeffhdefeaaDoor.evs l xs with
      | none => simp [h1, h2] at hx
      | some us =>
        simp only [h1, h2] at hx
        obtain rfl := Option.some.inj hx
        rw [List.map_cons, h.ev h1, h.evs h2]

theorem Reg.put {a : Act} {N : Nat} {l : List (Nat × Value)} (h : Reg a N l) {d : Nat} (hd : d < N) (v : Value) : Reg (a.put (some d) v) N ((d, v) :: l) := by
  refine ⟨h.dfr, by simp [Act.put, h.size], fun i u hu => ?_⟩
  simp only [List.lookup] at hu
  by_cases hid : i = d
  · subst hid
    simp only [BEq.rfl] at hu
    obtain rfl := Option.some.inj hu
    simp [Act.put, Array.getD, h.size, hd]
  · have : (i == d) = false := by simpa using hid
    simp only [this] at hu
    have := h.get i u hu
    simp only [Act.put]
    rw [← this]
    simp [Ne.symm hid]
theorem Reg.put_none {a : Act} {N : Nat} {l : List (Nat × Value)} (h : Reg a N l) (v : Value) : Reg (a.put none v) N l := h
theorem Reg.nil {a : Act} {N : Nat} {l : List (Nat × Value)} (h : Reg a N l) : Reg a N [] := ⟨h.dfr, h.size, fun _ _ hu => by simp at hu⟩
theorem Reg.cons {a : Act} {N : Nat} {l l' : List (Nat × Value)} (h : Reg a N l) (h' : Reg a N l') {i : Nat} {v : Value} (hv : l.lookup i = some v) : Reg a N ((i, v) :: l') :=
  ⟨h.dfr, h.size, fun j u hu => by
    simp only [List.lookup] at hu
    by_cases hji : j = i
    · subst hji
      simp only [BEq.rfl] at hu
      obtain rfl := Option.some.inj hu
      exact h.get _ _ hv
    · have : (j == i) = false := by simpa using hji
      simp only [this] at hu
      exact h'.get j u hu⟩
theorem Reg.start (args : Array Value) (N : Nat) (hN : args.size ≤ N) : ∀ l, (∀ i v, l.lookup i = some v → (args ++ Array.replicate (N - args.size) undef).getD i undef = v) →
    Reg { tmps := args ++ Array.replicate (N - args.size) undef, defers := [] } N l :=
  fun _ h => ⟨rfl, by simp; omega, h⟩

/-- A step of one operation: from what the operation does, with what follows (Next), to what is to be shown (X). -/
structure SteV (P : Program) (X : Prop) (Next : Act → World → Prop) (o : Oper) (a : Act) (w : World) : Prop where
  val : ∀ v w', (execOp a.eval o).run P w = .ok (.value v) w' → Next (a.put o.dst v) w' → X
structure Ste (P : Program) (X : Prop) (Next : Act → World → Prop) (o : Oper) (a : Act) (w : World) : Prop extends SteV P X Next o a w where
  skip : ∀ w', (execOp a.eval o).run P w = .ok .skip w' → Next (a.put o.dst undef) w' → X
  enter : ∀ f args w', (execOp a.eval o).run P w = .ok (.enter f args) w' → Calls P f args w' (fun e w'' => ∃ v, e = .returned v ∧ Next (a.put o.dst v) w'') → X

section
variable {P : Program} {ops : Array Oper} {Q : Exit → Act → World → Prop} {a : Act} {w : World} {rest : List Oper} {o : Oper}

theorem calls_next {Q' : Exit → Act → World → Prop} {Next : Act → World → Prop} {dst : Option Tmp} {f : FuncId} {args : Array Value} {w' : World}
    (h : Calls P f args w' (fun e w'' => ∃ v, e = .returned v ∧ Next (a.put dst v) w'')) :
    Calls P f args w' fun
      | .returned v, w'' => Next (a.put dst v) w''
      | .panicked chain, w'' => Q' (.panic chain) a w''
      | .outgrown, _ => LetsOut Q' :=
  h.mono fun e w'' he => by
    obtain ⟨v, rfl, hv⟩ := he
    exact hv

theorem st_list_w (hw : Region.wanted o (yielded ops a.tmps) = true) : Ste P (wpList P ops Q (o :: rest) a w) (wpList P ops Q rest) o a w where
  val v w' hr h := by
    unfold wpList
    rw [if_pos hw]
    refine .inl ?_
    unfold Oper.wp
    rw [hr]
    exact h
  skip w' hr h := by
    unfold wpList
    rw [if_pos hw]
    refine .inl ?_
    unfold Oper.wp
    rw [hr]
    exact h
  enter f args w' hr h := by
    unfold wpList
    rw [if_pos hw]
    refine .inl ?_
    unfold Oper.wp
    rw [hr]
    exact calls_next h
theorem st_list (hg : o.guard = none) : Ste P (wpList P ops Q (o :: rest) a w) (wpList P ops Q rest) o a w :=
  st_list_w (by simp [Region.wanted, hg])
theorem st_listV (hg : o.guard = none) : SteV P (wpList P ops Q (o :: rest) a w) (wpList P ops Q rest) o a w := (st_list hg).toSteV
theorem st_listV_w (hw : Region.wanted o (yielded ops a.tmps) = true) : SteV P (wpList P ops Q (o :: rest) a w) (wpList P ops Q rest) o a w := (st_list_w hw).toSteV
/-- What an operation yields, by its rule. -/
theorem st_yield {N : Nat} {l : List (Nat × Value)} {d : Nat} {V : Value} (hR : Reg a N l) (hd : o.dst = some d) (hdN : d < N) :
    SteV P ((execOp a.eval o).run P w = .ok (.value V) w) (fun a' w' => a'.tmps.getD d undef = V ∧ w' = w) o a w :=
  ⟨fun v w' hr h => by
    obtain ⟨h1, rfl⟩ := h
    rw [hd] at h1
    have h2 := (hR.put hdN v).get d v (by simp [List.lookup])
    rw [h2] at h1
    rw [hr, h1]⟩
/-- An operation of a region that draws its order. -/
theorem st_op {K : Act → World → Prop} {i : Nat} (hi : ops[i]? = some o) (hw : Region.wanted o (yielded ops a.tmps) = true) : Ste P (wpOp P ops Q i K a w) K o a w where
  val v w' hr h := by
    unfold wpOp
    simp only [hi]
    rw [if_pos hw]
    refine .inl ?_
    unfold Oper.wp
    rw [hr]
    exact h
  skip w' hr h := by
    unfold wpOp
    simp only [hi]
    rw [if_pos hw]
    refine .inl ?_
    unfold Oper.wp
    rw [hr]
    exact h
  enter f args w' hr h := by
    unfold wpOp
    simp only [hi]
    rw [if_pos hw]
    refine .inl ?_
    unfold Oper.wp
    rw [hr]
    exact calls_next h
theorem st_opV {K : Act → World → Prop} {i : Nat} (hi : ops[i]? = some o) (hw : Region.wanted o (yielded ops a.tmps) = true) : SteV P (wpOp P ops Q i K a w) K o a w := (st_op hi hw).toSteV
theorem want_n (hg : o.guard = none) : Region.wanted o (yielded ops a.tmps) = true := by simp [Region.wanted, hg]
/-- An operation that is passed over. -/
theorem st_pass (hw : Region.wanted o (yielded ops a.tmps) = false) (h : wpList P ops Q rest (a.put o.dst undef) w) : wpList P ops Q (o :: rest) a w := wpList_skip hw h

/-- The fence that lets all in: at a function's own code (none), in a round of a loop over a function (some). -/
def wf (ro : Option Nat) : Fence := { Fence.wide with round := ro }
theorem st_listIn_w {ro : Option Nat} (hnd : ∀ c, o.op ≠ .defer c) (hw : Region.wanted o (yielded ops a.tmps) = true) :
    Ste P (wpListIn (wf ro) 0 P ops Q (o :: rest) a w) (wpListIn (wf ro) 0 P ops Q rest) o a w where
  val v w' hr h := by
    unfold wpListIn
    rw [if_pos hw]
    refine ⟨fun _ _ => trivial, ?_⟩
    rw [Oper.semAt_eq _ _ _ hnd, hr]
    exact h
  skip w' hr h := by
    unfold wpListIn
    rw [if_pos hw]
    refine ⟨fun _ _ => trivial, ?_⟩
    rw [Oper.semAt_eq _ _ _ hnd, hr]
    exact h
  enter f args w' hr h := by
    unfold wpListIn
    rw [if_pos hw]
    refine ⟨fun _ _ => trivial, ?_⟩
    rw [Oper.semAt_eq _ _ _ hnd, hr]
    refine ⟨fun hd => by simp [wf, Fence.wide] at hd, ?_⟩
    have hc := callsIn_wide (n := 0).2 (calls_next (Q' := Q) h)
    cases ro with
    | none => exact hc
    | some l => exact CallsIn.inRound l hc
end
end Go.Proofs.YtobgdeffhdefeaaDoor
