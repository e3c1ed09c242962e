import Derived.WalkKit
import Derived.ControlIn
import Derived.TacticsIn
import Derived.OrdersHeld
import Derived.RangeFuncCalls
import Derived.IntWalk
import Derived.Laws.StructEq
import Derived.Maps.AppendAt
import Derived.Deep.LoopGhost
import Derived.Test.YtobgdeffhdefeaaDoorProg
/- A small logic of resources for walks: what is known of the slots, and one step of an operation in whatever mode the walk is. -/
namespace Go.Proofs.YtobgdeffhdefeaaDoor
set_option linter.unusedSimpArgs false
set_option linter.unusedVariables false
open Go.RowKit

/-- What is known of the slots; under the number 1000000: what is known of the activation's deferred calls: none (false), or the mark of a loop over a function (the number of its block). -/
structure Reg (a : Act) (N : Nat) (l : List (Nat × Value)) : Prop where
  dfr : l.lookup 1000000 = some (.bool false) → a.defers = []
  dfr1 : ∀ D : Nat, l.lookup 1000000 = some (.int .i64 (D : Int)) → a.defers = [{ target := .collected D, args := #[] }]
  top : N ≤ 1000000
  size : a.tmps.size = N
  get : ∀ i v, i ≠ 1000000 → l.lookup i = some v → a.tmps.getD i undef = v

def ev (l : List (Nat × Value)) : Operand → Option Value
  | .tmp t => cond (Nat.beq t 1000000) none (l.lookup t)
  | .const v => some v
  | .global g => some (.pointer (some ⟨g, 0, none⟩))
  | .func f => some (.func (.func f) #[] #[])
def evs (l : List (Nat × Value)) : List Operand → Option (List Value)
  | [] => some []
  | x :: xs => match ev l x, evs l xs with
    | some v, some vs => some (v :: vs)
    | _, _ => none

theorem Reg.ev {a : Act} {N : Nat} {l : List (Nat × Value)} (h : Reg a N l) {x : Operand} {v : Value} (hx : ev l x = some v) : a.eval x = v := by
  cases x with
  | tmp t =>
    have hx' : cond (Nat.beq t 1000000) none (l.lookup t) = some v := hx
    cases hb : Nat.beq t 1000000 with
    | true =>
      rw [hb] at hx'
      cases hx'
    | false =>
      rw [hb] at hx'
      refine h.get t v (fun e => ?_) hx'
      rw [e] at hb
      exact absurd hb (by decide)
  | const c => simpa [YtobgdeffhdefeaaDoor.ev, Act.eval] using hx
  | global g => simpa [YtobgdeffhdefeaaDoor.ev, Act.eval] using hx
  | func f => simpa [YtobgdeffhdefeaaDoor.ev, Act.eval] using hx

theorem Reg.evs {a : Act} {N : Nat} {l : List (Nat × Value)} (h : Reg a N l) : ∀ {xs : List Operand} {vs : List Value}, evs l xs = some vs → xs.map a.eval = vs
  | [], vs, hx => by simpa [YtobgdeffhdefeaaDoor.evs] using hx
  | x :: xs, vs, hx => by
    simp only [YtobgdeffhdefeaaDoor.evs] at hx
    cases h1 : YtobgdeffhdefeaaDoor.ev l x with
    | none => simp [h1] at hx
    | some v =>
      cases h2 : YtobgdeffhdefeaaDoor.evs l xs with
      | none => simp [h1, h2] at hx
      | some us =>
        simp only [h1, h2] at hx
        obtain rfl := Option.some.inj hx
        rw [List.map_cons, h.ev h1, h.evs h2]

theorem lookup_eq {i : Nat} {v : Value} {l : List (Nat × Value)} : ((i, v) :: l).lookup i = some v := by simp [List.lookup]
theorem lookup_ne {i j : Nat} {v : Value} {l : List (Nat × Value)} (h : j ≠ i) : ((i, v) :: l).lookup j = l.lookup j := by
  have : (j == i) = false := by simpa using h
  simp [List.lookup, this]
theorem Reg.put {a : Act} {N : Nat} {l : List (Nat × Value)} (h : Reg a N l) {d : Nat} (hd : d < N) (v : Value) : Reg (a.put (some d) v) N ((d, v) :: l) := by
  have hk : (1000000 : Nat) ≠ d := by have := h.top; omega
  refine ⟨fun q => h.dfr (by rwa [lookup_ne hk] at q), fun D q => h.dfr1 D (by rwa [lookup_ne hk] at q), h.top, by simp [Act.put, h.size], fun i u hi hu => ?_⟩
  by_cases hid : i = d
  · subst hid
    rw [lookup_eq] at hu
    obtain rfl := Option.some.inj hu
    simp [Act.put, Array.getD, h.size, hd]
  · rw [lookup_ne hid] at hu
    have := h.get i u hi hu
    simp only [Act.put]
    rw [← this]
    simp [Ne.symm hid]
theorem Reg.put_none {a : Act} {N : Nat} {l : List (Nat × Value)} (h : Reg a N l) (v : Value) : Reg (a.put none v) N l := ⟨h.dfr, h.dfr1, h.top, h.size, h.get⟩
theorem Reg.nil {a : Act} {N : Nat} {l : List (Nat × Value)} (h : Reg a N l) : Reg a N [] := ⟨fun q => (by simp at q), fun _ q => (by simp at q), h.top, h.size, fun _ _ _ hu => by simp at hu⟩
theorem Reg.cons {a : Act} {N : Nat} {l l' : List (Nat × Value)} (h : Reg a N l) (h' : Reg a N l') {i : Nat} {v : Value} (hv : l.lookup i = some v) : Reg a N ((i, v) :: l') := by
  refine ⟨fun q => ?_, fun D q => ?_, h.top, h.size, fun j u hj hu => ?_⟩
  · by_cases hk : (1000000 : Nat) = i
    · subst hk
      rw [lookup_eq] at q
      exact h.dfr (hv.trans q)
    · rw [lookup_ne hk] at q
      exact h'.dfr q
  · by_cases hk : (1000000 : Nat) = i
    · subst hk
      rw [lookup_eq] at q
      exact h.dfr1 D (hv.trans q)
    · rw [lookup_ne hk] at q
      exact h'.dfr1 D q
  · by_cases hji : j = i
    · subst hji
      rw [lookup_eq] at hu
      obtain rfl := Option.some.inj hu
      exact h.get _ _ hj hv
    · rw [lookup_ne hji] at hu
      exact h'.get j u hj hu
theorem Reg.start (args : Array Value) (N : Nat) (hN : args.size ≤ N) (ht : N ≤ 1000000) : ∀ l, (∀ i v, l.lookup i = some v → (args ++ Array.replicate (N - args.size) undef).getD i undef = v) →
    Reg { tmps := args ++ Array.replicate (N - args.size) undef, defers := [] } N ((1000000, .bool false) :: l) :=
  fun _ h => ⟨fun _ => rfl, (fun D q => by rw [lookup_eq] at q; cases q), ht, by simp; omega, fun i v hi hv => h i v (by rwa [lookup_ne hi] at hv)⟩
/-- A round of a loop over a function with two variables. -/
theorem Reg.round2 {a : Act} {N : Nat} {l : List (Nat × Value)} (h : Reg a N l) {p q : Nat} (hp : p < N) (hq : q < N) (u v : Value) {l' : List (Nat × Value)} (hl : ∀ i w, i ≠ 1000000 → l'.lookup i = some w → l.lookup i = some w) (hk : l'.lookup 1000000 = none) :
    Reg { tmps := (#[p, q].zip #[u, v]).foldl (fun t (p, v) => t.setIfInBounds p v) a.tmps, defers := [] } N ((q, v) :: (p, u) :: (1000000, .bool false) :: l') := by
  have h0 : Reg { tmps := a.tmps, defers := [] } N ((1000000, .bool false) :: l') := by
    refine ⟨fun _ => rfl, (fun D q => by rw [lookup_eq] at q; cases q), h.top, h.size, fun i w hi hw => ?_⟩
    rw [lookup_ne hi] at hw
    exact h.get i w hi (hl i w hi hw)
  have h1 := (h0.put hp u).put hq v
  simpa [Act.put] using h1

/-- A step of one operation: from what the operation does, with what follows (Next), to what is to be shown (X). -/
structure SteV (P : Program) (X : Prop) (Next : Act → World → Prop) (o : Oper) (a : Act) (w : World) : Prop where
  val : ∀ v w', (execOp a.eval o).run P w = .ok (.value v) w' → Next (a.put o.dst v) w' → X
structure Ste (P : Program) (X : Prop) (Next : Act → World → Prop) (o : Oper) (a : Act) (w : World) : Prop extends SteV P X Next o a w where
  skip : ∀ w', (execOp a.eval o).run P w = .ok .skip w' → Next (a.put o.dst undef) w' → X
  enter : ∀ f args w', (execOp a.eval o).run P w = .ok (.enter f args) w' → Calls P f args w' (fun e w'' => ∃ v, e = .returned v ∧ Next (a.put o.dst v) w'') → X

section
variable {P : Program} {ops : Array Oper} {Q : Exit → Act → World → Prop} {a : Act} {w : World} {rest : List Oper} {o : Oper}

theorem calls_next {Q' : Exit → Act → World → Prop} {Next : Act → World → Prop} {dst : Option Tmp} {f : FuncId} {args : Array Value} {w' : World}
    (h : Calls P f args w' (fun e w'' => ∃ v, e = .returned v ∧ Next (a.put dst v) w'')) :
    Calls P f args w' fun
      | .returned v, w'' => Next (a.put dst v) w''
      | .panicked chain, w'' => Q' (.panic chain) a w''
      | .outgrown, _ => LetsOut Q' :=
  h.mono fun e w'' he => by
    obtain ⟨v, rfl, hv⟩ := he
    exact hv

theorem st_list_w (hw : Region.wanted o (yielded ops a.tmps) = true) : Ste P (wpList P ops Q (o :: rest) a w) (wpList P ops Q rest) o a w where
  val v w' hr h := by
    unfold wpList
    rw [if_pos hw]
    refine .inl ?_
    unfold Oper.wp
    rw [hr]
    exact h
  skip w' hr h := by
    unfold wpList
    rw [if_pos hw]
    refine .inl ?_
    unfold Oper.wp
    rw [hr]
    exact h
  enter f args w' hr h := by
    unfold wpList
    rw [if_pos hw]
    refine .inl ?_
    unfold Oper.wp
    rw [hr]
    exact calls_next h
theorem st_list (hg : o.guard = none) : Ste P (wpList P ops Q (o :: rest) a w) (wpList P ops Q rest) o a w :=
  st_list_w (by simp [Region.wanted, hg])
theorem st_listV (hg : o.guard = none) : SteV P (wpList P ops Q (o :: rest) a w) (wpList P ops Q rest) o a w := (st_list hg).toSteV
theorem st_listV_w (hw : Region.wanted o (yielded ops a.tmps) = true) : SteV P (wpList P ops Q (o :: rest) a w) (wpList P ops Q rest) o a w := (st_list_w hw).toSteV
/-- What an operation yields, by its rule. -/
theorem st_yield {N : Nat} {l : List (Nat × Value)} {d : Nat} {V : Value} (hR : Reg a N l) (hd : o.dst = some d) (hdN : d < N) :
    SteV P ((execOp a.eval o).run P w = .ok (.value V) w) (fun a' w' => a'.tmps.getD d undef = V ∧ w' = w) o a w :=
  ⟨fun v w' hr h => by
    obtain ⟨h1, rfl⟩ := h
    rw [hd] at h1
    have h2 := (hR.put hdN v).get d v (by have := hR.top; omega) lookup_eq
    rw [h2] at h1
    rw [hr, h1]⟩
/-- An operation of a region that draws its order. -/
theorem st_op {K : Act → World → Prop} {i : Nat} (hi : ops[i]? = some o) (hw : Region.wanted o (yielded ops a.tmps) = true) : Ste P (wpOp P ops Q i K a w) K o a w where
  val v w' hr h := by
    unfold wpOp
    simp only [hi]
    rw [if_pos hw]
    refine .inl ?_
    unfold Oper.wp
    rw [hr]
    exact h
  skip w' hr h := by
    unfold wpOp
    simp only [hi]
    rw [if_pos hw]
    refine .inl ?_
    unfold Oper.wp
    rw [hr]
    exact h
  enter f args w' hr h := by
    unfold wpOp
    simp only [hi]
    rw [if_pos hw]
    refine .inl ?_
    unfold Oper.wp
    rw [hr]
    exact calls_next h
theorem st_opV {K : Act → World → Prop} {i : Nat} (hi : ops[i]? = some o) (hw : Region.wanted o (yielded ops a.tmps) = true) : SteV P (wpOp P ops Q i K a w) K o a w := (st_op hi hw).toSteV
theorem want_n (hg : o.guard = none) : Region.wanted o (yielded ops a.tmps) = true := by simp [Region.wanted, hg]
/-- An operation that is passed over. -/
theorem st_pass (hw : Region.wanted o (yielded ops a.tmps) = false) (h : wpList P ops Q rest (a.put o.dst undef) w) : wpList P ops Q (o :: rest) a w := wpList_skip hw h

/-- The fence that lets all in: at a function's own code (none), in a round of a loop over a function (some). -/
def wf (ro : Option Nat) : Fence := { Fence.wide with round := ro }
theorem st_listIn_w {ro : Option Nat} (hnd : ∀ c, o.op ≠ .defer c) (hw : Region.wanted o (yielded ops a.tmps) = true) :
    Ste P (wpListIn (wf ro) 0 P ops Q (o :: rest) a w) (wpListIn (wf ro) 0 P ops Q rest) o a w where
  val v w' hr h := by
    unfold wpListIn
    rw [if_pos hw]
    refine ⟨fun _ _ => trivial, ?_⟩
    rw [Oper.semAt_eq _ _ _ hnd, hr]
    exact h
  skip w' hr h := by
    unfold wpListIn
    rw [if_pos hw]
    refine ⟨fun _ _ => trivial, ?_⟩
    rw [Oper.semAt_eq _ _ _ hnd, hr]
    exact h
  enter f args w' hr h := by
    unfold wpListIn
    rw [if_pos hw]
    refine ⟨fun _ _ => trivial, ?_⟩
    rw [Oper.semAt_eq _ _ _ hnd, hr]
    refine ⟨fun hd => by simp [wf, Fence.wide] at hd, ?_⟩
    have hc := callsIn_wide (n := 0).2 (calls_next (Q' := Q) h)
    cases ro with
    | none => exact hc
    | some l => exact CallsIn.inRound l hc
end
end Go.Proofs.YtobgdeffhdefeaaDoor
/- Resources: what the call owns, and data that nobody changes. -/
namespace Go.Proofs.YtobgdeffhdefeaaDoor
set_option linter.unusedSimpArgs false
set_option linter.unusedVariables false
open Go.RowKit

/-- What the call owns: a block of cells known whole; a row that is appended to. -/
inductive Res where
  | box (g : Nat) (t : TypeId) (cs : List Value)
  | row (A : Option Addr) (n cap : Nat) (e size : Nat) (xs : List Value)

def Res.blk : Res → Option Nat
  | .box g _ _ => some g
  | .row A _ _ _ _ _ => A.map (·.block)

def Res.holds (w : World) : Res → Prop
  | .box g t cs => w.heap[g]? = some (.cells cs.toArray t (0, 0))
  | .row A n cap e size xs => w.ownsRow 0 e size (.slice A n cap) n xs

/-- What nobody changes: all but what is owned. -/
def imm (Z : Nat → Prop) (w0 : World) (m : List Res) (w : World) (k : Nat) : Prop := k < w.heap.size ∧ (k < w0.heap.size → Z k) ∧ ∀ r ∈ m, r.blk ≠ some k
/-- What a call hands back of what nobody changes. -/
def nxt (Z : Nat → Prop) (w0 w : World) (k : Nat) : Prop := k < w.heap.size ∧ (k < w0.heap.size → Z k)

/-- Data that stay as long as their blocks do. -/
structure Dat where
  φ : World → (Nat → Prop) → Prop
  mono : ∀ w w' I I', w.heap.size ≤ w'.heap.size → φ w I → (∀ k, I k → I' k ∧ w'.heap[k]? = w.heap[k]?) → φ w' I'

/-- The state of a walk: w0: where the call began; M: which old blocks it may change; m: what it owns; ds: the data. -/
structure St (w0 : World) (Z M : Nat → Prop) (w : World) (m : List Res) (ds : List Dat) : Prop where
  os : w.os = w0.os
  tape : w.tape = w0.tape
  output : w.output = w0.output
  size : w0.heap.size ≤ w.heap.size
  old : ∀ k, k < w0.heap.size → ¬ M k → w.heap[k]? = w0.heap[k]?
  hold : ∀ r ∈ m, r.holds w
  own : ∀ r ∈ m, ∀ k, r.blk = some k → k < w.heap.size ∧ (w0.heap.size ≤ k ∨ M k)
  apart : m.Pairwise fun r s => ∀ k, r.blk = some k → s.blk ≠ some k
  dat : ∀ d ∈ ds, d.φ w (imm Z w0 m w)

/-- What a call may have changed. -/
structure Fr (M : Nat → Prop) (w w' : World) : Prop where
  os : w'.os = w.os
  tape : w'.tape = w.tape
  output : w'.output = w.output
  size : w.heap.size ≤ w'.heap.size
  old : ∀ k, k < w.heap.size → ¬ M k → w'.heap[k]? = w.heap[k]?

abbrev none_ : Nat → Prop := fun _ => False

theorem Fr.refl (M : Nat → Prop) (w : World) : Fr M w w := ⟨rfl, rfl, rfl, Nat.le_refl _, fun _ _ _ => rfl⟩
theorem Fr.below {w w' : World} (h : Fr none_ w w') : Below w.heap.size w w' := ⟨h.os, h.tape, h.output, h.size, fun k hk => h.old k hk (fun x => x)⟩
theorem Fr.of_below {M : Nat → Prop} {w w' : World} (h : Below w.heap.size w w') : Fr M w w' := ⟨h.os, h.tape, h.output, h.size, fun k hk _ => h.block k hk⟩

section
variable {w0 w w' : World} {Z M : Nat → Prop} {m m' : List Res} {ds : List Dat}

theorem St.fr (h : St w0 Z M w m ds) : Fr M w0 w := ⟨h.os, h.tape, h.output, h.size, h.old⟩
theorem St.start (w0 : World) (Z M : Nat → Prop) (ds : List Dat) (h : ∀ d ∈ ds, d.φ w0 (imm Z w0 [] w0)) : St w0 Z M w0 [] ds :=
  ⟨rfl, rfl, rfl, Nat.le_refl _, fun _ _ _ => rfl, (fun _ h => by cases h), (fun _ h => by cases h), .nil, h⟩

/-- From one world to the next. -/
theorem St.step (h : St w0 Z M w m ds) (hos : w'.os = w.os) (htape : w'.tape = w.tape) (hout : w'.output = w.output) (hsize : w.heap.size ≤ w'.heap.size)
    (hblk : ∀ k, k < w.heap.size → (∀ r ∈ m, r.blk ≠ some k) → w'.heap[k]? = w.heap[k]?)
    (hhold : ∀ r ∈ m', r.holds w')
    (hown : ∀ r ∈ m', ∀ k, r.blk = some k → k < w'.heap.size ∧ ((∃ r' ∈ m, r'.blk = some k) ∨ w.heap.size ≤ k))
    (hap : m'.Pairwise fun r s => ∀ k, r.blk = some k → s.blk ≠ some k) : St w0 Z M w' m' ds := by
  have himm : ∀ k, imm Z w0 m w k → imm Z w0 m' w' k ∧ w'.heap[k]? = w.heap[k]? := fun k hk => by
    refine ⟨⟨Nat.lt_of_lt_of_le hk.1 hsize, hk.2.1, fun r hr e => ?_⟩, hblk k hk.1 hk.2.2⟩
    rcases (hown r hr k e).2 with ⟨r', hr', e'⟩ | hge
    · exact hk.2.2 r' hr' e'
    · exact absurd hk.1 (by omega)
  refine ⟨hos.trans h.os, htape.trans h.tape, hout.trans h.output, Nat.le_trans h.size hsize, fun k hk hM => ?_, hhold, fun r hr k e => ⟨(hown r hr k e).1, ?_⟩, hap, fun d hd => d.mono _ _ _ _ hsize (h.dat d hd) himm⟩
  · refine (hblk k (Nat.lt_of_lt_of_le hk h.size) (fun r hr e => ?_)).trans (h.old k hk hM)
    rcases (h.own r hr k e).2 with h1 | h1
    · omega
    · exact hM h1
  · rcases (hown r hr k e).2 with ⟨r', hr', e'⟩ | hge
    · exact (h.own r' hr' k e').2
    · exact .inl (Nat.le_trans h.size hge)

theorem Res.holds_below {r : Res} {B : Nat} (h : r.holds w) (hb : Below B w w') (hk : ∀ k, r.blk = some k → k < B) : r.holds w' := by
  cases r with
  | box g t cs => exact (hb.block g (hk g rfl)).trans h
  | row A n cap e size xs =>
    refine ⟨h.1, ?_⟩
    rcases h.2 with h1 | ⟨g, cap', cur, hv, h1, h2, h3⟩
    · exact .inl h1
    · refine .inr ⟨g, cap', cur, hv, h1, ?_, h3⟩
      have hA : A = some ⟨g, 0, none⟩ := by injection hv
      exact (hb.block g (hk g (by simp [Res.blk, hA]))).trans h2

/-- A call that changes nothing old. -/
theorem St.below (h : St w0 Z M w m ds) (hb : Below w.heap.size w w') : St w0 Z M w' m ds :=
  h.step hb.os hb.tape hb.output hb.size (fun k hk _ => hb.block k hk) (fun r hr => Res.holds_below (h.hold r hr) hb (fun k e => (h.own r hr k e).1))
    (fun r hr k e => ⟨Nat.lt_of_lt_of_le (h.own r hr k e).1 hb.size, .inl ⟨r, hr, e⟩⟩) h.apart

/-- A draw. -/
theorem St.drew (h : St w0 Z M w m ds) : St w0 Z M w.drew m ds := h.below ((Below.refl _ _).drew)

theorem alloc_at_old (w : World) (o : Obj) (k : Nat) (hk : k < w.heap.size) : (w.alloc o).heap[k]? = w.heap[k]? := Below.heap_alloc w o k hk

/-- A new block. -/
theorem St.alloc (h : St w0 Z M w m ds) (r : Res) (o : Obj) (hr : r.holds (w.alloc o)) (hb : r.blk = some w.heap.size) : St w0 Z M (w.alloc o) (m ++ [r]) ds := by
  have hbel : Below w.heap.size w (w.alloc o) := (Below.refl _ _).alloc (Nat.le_refl _) _
  refine h.step rfl rfl rfl (by simp) (fun k hk _ => alloc_at_old w o k hk) ?_ ?_ ?_
  · intro s hs
    rcases List.mem_append.1 hs with hs | hs
    · exact Res.holds_below (h.hold s hs) hbel (fun k e => (h.own s hs k e).1)
    · rw [List.mem_singleton] at hs
      subst hs
      exact hr
  · intro s hs k e
    rcases List.mem_append.1 hs with hs | hs
    · exact ⟨by have := (h.own s hs k e).1; simp; omega, .inl ⟨s, hs, e⟩⟩
    · rw [List.mem_singleton] at hs
      subst hs
      rw [hb] at e
      obtain rfl := Option.some.inj e
      exact ⟨by simp, .inr (Nat.le_refl _)⟩
  · rw [List.pairwise_append]
    refine ⟨h.apart, by simp, fun s hs t ht k e e' => ?_⟩
    rw [List.mem_singleton] at ht
    subst ht
    rw [hb] at e'
    obtain rfl := Option.some.inj e'
    have := (h.own s hs _ e).1
    omega

theorem apart_get (h : m.Pairwise fun r s => ∀ k, r.blk = some k → s.blk ≠ some k) {i j : Nat} (hij : i ≠ j) {r s : Res} (hi : m[i]? = some r) (hj : m[j]? = some s) {k : Nat} (hk : r.blk = some k) : s.blk ≠ some k := by
  rw [List.pairwise_iff_getElem] at h
  obtain ⟨hil, rfl⟩ := List.getElem?_eq_some_iff.1 hi
  obtain ⟨hjl, rfl⟩ := List.getElem?_eq_some_iff.1 hj
  rcases Nat.lt_or_ge i j with hlt | hge
  · exact h i j hil hjl hlt k hk
  · intro e
    exact h j i hjl hil (by omega) k e hk

/-- One of what is owned turns into another thing, at the same block or at a new one. -/
theorem St.turn (h : St w0 Z M w m ds) {i : Nat} {r r' : Res} (hi : m[i]? = some r) (hos : w'.os = w.os) (htape : w'.tape = w.tape) (hout : w'.output = w.output) (hsize : w.heap.size ≤ w'.heap.size)
    (hold : ∀ k, k < w.heap.size → r.blk ≠ some k → w'.heap[k]? = w.heap[k]?) (hr' : r'.holds w')
    (hb : ∀ k, r'.blk = some k → k < w'.heap.size ∧ (r.blk = some k ∨ w.heap.size ≤ k)) : St w0 Z M w' (m.set i r') ds := by
  have hmem : r ∈ m := List.mem_of_getElem? hi
  have hil : i < m.length := (List.getElem?_eq_some_iff.1 hi).1
  have other : ∀ s ∈ m.set i r', s = r' ∨ ∃ j, j ≠ i ∧ m[j]? = some s := fun s hs => by
    obtain ⟨j, hj⟩ := List.mem_iff_getElem?.1 hs
    rw [List.getElem?_set] at hj
    by_cases hij : i = j
    · subst hij
      rw [if_pos rfl, if_pos hil] at hj
      exact .inl (Option.some.inj hj).symm
    · rw [if_neg hij] at hj
      exact .inr ⟨j, Ne.symm hij, hj⟩
  refine h.step hos htape hout hsize (fun k hk hk2 => hold k hk (hk2 r hmem)) ?_ ?_ ?_
  · intro s hs
    rcases other s hs with rfl | ⟨j, hji, hj⟩
    · exact hr'
    · have hsm : s ∈ m := List.mem_of_getElem? hj
      have hsh := h.hold s hsm
      have hne : ∀ k, s.blk = some k → w'.heap[k]? = w.heap[k]? := fun k e =>
        hold k (h.own s hsm k e).1 (fun e' => apart_get h.apart hji hj hi e e')
      cases s with
      | box g t cs => exact (hne g rfl).trans hsh
      | row A n cap e size xs =>
        refine ⟨hsh.1, ?_⟩
        rcases hsh.2 with h1 | ⟨g, cap', cur, hv, h1, h2, h3⟩
        · exact .inl h1
        · refine .inr ⟨g, cap', cur, hv, h1, ?_, h3⟩
          have hA : A = some ⟨g, 0, none⟩ := by injection hv
          exact (hne g (by simp [Res.blk, hA])).trans h2
  · intro s hs k e
    rcases other s hs with rfl | ⟨j, hji, hj⟩
    · refine ⟨(hb k e).1, ?_⟩
      rcases (hb k e).2 with h1 | h1
      · exact .inl ⟨r, hmem, h1⟩
      · exact .inr h1
    · have hsm : s ∈ m := List.mem_of_getElem? hj
      exact ⟨Nat.lt_of_lt_of_le (h.own s hsm k e).1 hsize, .inl ⟨s, hsm, e⟩⟩
  · rw [List.pairwise_iff_getElem]
    intro a b ha hb' hab k e e'
    rw [List.length_set] at ha hb'
    have hga : m[a]? = some m[a] := List.getElem?_eq_getElem ha
    have hgb : m[b]? = some m[b] := List.getElem?_eq_getElem hb'
    by_cases hai : a = i
    · subst hai
      rw [List.getElem_set_self] at e
      rw [List.getElem_set_ne (by omega)] at e'
      rcases (hb k e).2 with h1 | h1
      · exact apart_get h.apart (by omega : a ≠ b) hi hgb h1 e'
      · have := (h.own _ (List.mem_of_getElem? hgb) k e').1
        omega
    · rw [List.getElem_set_ne (by omega)] at e
      by_cases hbi : b = i
      · subst hbi
        rw [List.getElem_set_self] at e'
        rcases (hb k e').2 with h1 | h1
        · exact apart_get h.apart (by omega : a ≠ b) hga hi e h1
        · have := (h.own _ (List.mem_of_getElem? hga) k e).1
          omega
      · rw [List.getElem_set_ne (by omega)] at e'
        exact apart_get h.apart (by omega : a ≠ b) hga hgb e e'

/-- More data. -/
theorem St.data (h : St w0 Z M w m ds) (d : Dat) (hd : d.φ w (imm Z w0 m w)) : St w0 Z M w m (ds ++ [d]) :=
  ⟨h.os, h.tape, h.output, h.size, h.old, h.hold, h.own, h.apart, fun x hx => by
    rcases List.mem_append.1 hx with hx | hx
    · exact h.dat x hx
    · rw [List.mem_singleton] at hx
      subst hx
      exact hd⟩
/-- Other data, each of which is had. -/
theorem St.datas (h : St w0 Z M w m ds) (ds' : List Dat) (hd : ∀ d ∈ ds', d.φ w (imm Z w0 m w)) : St w0 Z M w m ds' :=
  ⟨h.os, h.tape, h.output, h.size, h.old, h.hold, h.own, h.apart, hd⟩
theorem St.get (h : St w0 Z M w m ds) {i : Nat} {d : Dat} (hi : ds[i]? = some d) : d.φ w (imm Z w0 m w) := h.dat d (List.mem_of_getElem? hi)
theorem St.res (h : St w0 Z M w m ds) {i : Nat} {r : Res} (hi : m[i]? = some r) : r.holds w := h.hold r (List.mem_of_getElem? hi)

/-- Of what is owned some is let go: nobody changes it any more. -/
theorem St.drop (h : St w0 Z M w m ds) (m' : List Res) (hs : m'.Sublist m) : St w0 Z M w m' ds :=
  h.step rfl rfl rfl (Nat.le_refl _) (fun _ _ _ => rfl) (fun r hr => h.hold r (hs.subset hr)) (fun r hr k e => ⟨(h.own r (hs.subset hr) k e).1, .inl ⟨r, hs.subset hr, e⟩⟩) (h.apart.sublist hs)
end
end Go.Proofs.YtobgdeffhdefeaaDoor
/- The operations, one rule each: what computes only. -/
namespace Go.Proofs.YtobgdeffhdefeaaDoor
set_option linter.unusedSimpArgs false
set_option linter.unusedVariables false
open Go.RowKit

theorem wrap_ok {x z : Int} (hz : x = z) (h1 : -1000000000000000 ≤ z) (h2 : z ≤ 1000000000000000) : IntKind.i64.wrap x = z := by
  subst hz
  exact IntWalk.i64_in _ ⟨by omega, by omega⟩

section
variable {P : Program} {X : Prop} {Next : Act → World → Prop} {o : Oper} {a : Act} {w : World} {N : Nat} {l : List (Nat × Value)} {d : Nat}

theorem r_pure {v : Value} (hs : SteV P X Next o a w) (hR : Reg a N l) (hd : o.dst = some d) (hdN : d < N) (hrun : (execOp a.eval o).run P w = .ok (.value v) w)
    (k : ∀ a', Reg a' N ((d, v) :: l) → Next a' w) : X :=
  hs.val v w hrun (by rw [hd]; exact k _ (hR.put hdN v))

theorem r_move {x : Operand} {v : Value} (hs : SteV P X Next o a w) (hR : Reg a N l) (hd : o.dst = some d) (ho : o.op = .move x) (hx : ev l x = some v) (hdN : d < N)
    (k : ∀ a', Reg a' N ((d, v) :: l) → Next a' w) : X :=
  r_pure hs hR hd hdN (by unfold execOp; rw [ho]; simp only [hR.ev hx]; rfl) k
theorem r_assign {x : Operand} {v : Value} (hs : SteV P X Next o a w) (hR : Reg a N l) (hd : o.dst = some d) (ho : o.op = .assign x) (hx : ev l x = some v) (hdN : d < N)
    (k : ∀ a', Reg a' N ((d, v) :: l) → Next a' w) : X :=
  r_pure hs hR hd hdN (by unfold execOp; rw [ho]; simp only [hR.ev hx]; rfl) k
theorem r_pick_t {c x y : Operand} {v : Value} (hs : SteV P X Next o a w) (hR : Reg a N l) (hd : o.dst = some d) (ho : o.op = .pick c x y) (hc : ev l c = some (.bool true)) (hx : ev l x = some v) (hdN : d < N)
    (k : ∀ a', Reg a' N ((d, v) :: l) → Next a' w) : X :=
  r_pure hs hR hd hdN (by unfold execOp; rw [ho]; simp only [hR.ev hc, hR.ev hx]; rfl) k
theorem r_pick_f {c x y : Operand} {v : Value} (hs : SteV P X Next o a w) (hR : Reg a N l) (hd : o.dst = some d) (ho : o.op = .pick c x y) (hc : ev l c = some (.bool false)) (hy : ev l y = some v) (hdN : d < N)
    (k : ∀ a', Reg a' N ((d, v) :: l) → Next a' w) : X :=
  r_pure hs hR hd hdN (by unfold execOp; rw [ho]; simp only [hR.ev hc, hR.ev hy]; rfl) k

section
variable {x y : Operand} {t u : TypeId} {p q : Int} {ki : IntKind}
theorem run_int {op : BinOp} {v : Value} (hR : Reg a N l) (ho : o.op = .binOp op t x y u) (hx : ev l x = some (.int ki p)) (hy : ev l y = some (.int ki q))
    (h : (binOp op t (.int ki p) (.int ki q)).run P w = .ok v w) : (execOp a.eval o).run P w = .ok (.value v) w := by
  have hg : (eqGuard op t x y (.int ki p) (.int ki q)).run P w = .ok () w := by
    unfold eqGuard
    cases op <;> rfl
  unfold execOp
  rw [ho]
  simp only [hR.ev hx, hR.ev hy, Sem.run_bind, hg, Result.andThen_ok, h, Sem.run_pure]
theorem r_lss (hs : SteV P X Next o a w) (hR : Reg a N l) (hd : o.dst = some d) (ho : o.op = .binOp .lss t x y u) (hx : ev l x = some (.int ki p)) (hy : ev l y = some (.int ki q)) (hdN : d < N)
    (k : ∀ a', Reg a' N ((d, .bool (decide (p < q))) :: l) → Next a' w) : X :=
  r_pure hs hR hd hdN (run_int hR ho hx hy (by simp [binOp, Op.intCmp])) k
theorem r_leq (hs : SteV P X Next o a w) (hR : Reg a N l) (hd : o.dst = some d) (ho : o.op = .binOp .leq t x y u) (hx : ev l x = some (.int ki p)) (hy : ev l y = some (.int ki q)) (hdN : d < N)
    (k : ∀ a', Reg a' N ((d, .bool (decide (p ≤ q))) :: l) → Next a' w) : X :=
  r_pure hs hR hd hdN (run_int hR ho hx hy (by simp [binOp, Op.intCmp])) k
theorem r_gtr (hs : SteV P X Next o a w) (hR : Reg a N l) (hd : o.dst = some d) (ho : o.op = .binOp .gtr t x y u) (hx : ev l x = some (.int ki p)) (hy : ev l y = some (.int ki q)) (hdN : d < N)
    (k : ∀ a', Reg a' N ((d, .bool (decide (q < p))) :: l) → Next a' w) : X :=
  r_pure hs hR hd hdN (run_int hR ho hx hy (by simp [binOp, Op.intCmp])) k
theorem r_geq (hs : SteV P X Next o a w) (hR : Reg a N l) (hd : o.dst = some d) (ho : o.op = .binOp .geq t x y u) (hx : ev l x = some (.int ki p)) (hy : ev l y = some (.int ki q)) (hdN : d < N)
    (k : ∀ a', Reg a' N ((d, .bool (decide (q ≤ p))) :: l) → Next a' w) : X :=
  r_pure hs hR hd hdN (run_int hR ho hx hy (by simp [binOp, Op.intCmp])) k
theorem r_eql (hs : SteV P X Next o a w) (hR : Reg a N l) (hd : o.dst = some d) (ho : o.op = .binOp .eql t x y u) (hx : ev l x = some (.int ki p)) (hy : ev l y = some (.int ki q)) (hdN : d < N)
    (k : ∀ a', Reg a' N ((d, .bool (decide (p = q))) :: l) → Next a' w) : X :=
  r_pure hs hR hd hdN (run_int hR ho hx hy (by simp [binOp, Op.intCmp]; rfl)) k
theorem r_neq (hs : SteV P X Next o a w) (hR : Reg a N l) (hd : o.dst = some d) (ho : o.op = .binOp .neq t x y u) (hx : ev l x = some (.int ki p)) (hy : ev l y = some (.int ki q)) (hdN : d < N)
    (k : ∀ a', Reg a' N ((d, .bool (!decide (p = q))) :: l) → Next a' w) : X :=
  r_pure hs hR hd hdN (run_int hR ho hx hy (by simp [binOp, Op.intCmp]; rfl)) k
theorem r_add {z : Int} (hs : SteV P X Next o a w) (hR : Reg a N l) (hd : o.dst = some d) (ho : o.op = .binOp .add t x y u) (hx : ev l x = some (.int .i64 p)) (hy : ev l y = some (.int .i64 q)) (hdN : d < N)
    (hz : p + q = z) (h1 : -1000000000000000 ≤ z) (h2 : z ≤ 1000000000000000) (k : ∀ a', Reg a' N ((d, .int .i64 z) :: l) → Next a' w) : X :=
  r_pure hs hR hd hdN (run_int hR ho hx hy (by simp [binOp, Op.intArith, wrap_ok hz h1 h2])) k
theorem r_sub {z : Int} (hs : SteV P X Next o a w) (hR : Reg a N l) (hd : o.dst = some d) (ho : o.op = .binOp .sub t x y u) (hx : ev l x = some (.int .i64 p)) (hy : ev l y = some (.int .i64 q)) (hdN : d < N)
    (hz : p - q = z) (h1 : -1000000000000000 ≤ z) (h2 : z ≤ 1000000000000000) (k : ∀ a', Reg a' N ((d, .int .i64 z) :: l) → Next a' w) : X :=
  r_pure hs hR hd hdN (run_int hR ho hx hy (by simp [binOp, Op.intArith, wrap_ok hz h1 h2])) k
theorem r_mul {z : Int} (hs : SteV P X Next o a w) (hR : Reg a N l) (hd : o.dst = some d) (ho : o.op = .binOp .mul t x y u) (hx : ev l x = some (.int .i64 p)) (hy : ev l y = some (.int .i64 q)) (hdN : d < N)
    (hz : p * q = z) (h1 : -1000000000000000 ≤ z) (h2 : z ≤ 1000000000000000) (k : ∀ a', Reg a' N ((d, .int .i64 z) :: l) → Next a' w) : X :=
  r_pure hs hR hd hdN (run_int hR ho hx hy (by simp [binOp, Op.intArith, wrap_ok hz h1 h2])) k
/-- Whatever an operation on two integers comes to. -/
theorem r_int {op : BinOp} {v : Value} (hs : SteV P X Next o a w) (hR : Reg a N l) (hd : o.dst = some d) (ho : o.op = .binOp op t x y u) (hx : ev l x = some (.int ki p)) (hy : ev l y = some (.int ki q)) (hdN : d < N)
    (h : (binOp op t (.int ki p) (.int ki q)).run P w = .ok v w) (k : ∀ a', Reg a' N ((d, v) :: l) → Next a' w) : X :=
  r_pure hs hR hd hdN (run_int hR ho hx hy h) k
theorem run_str {op : BinOp} {v : Value} {s s' : ByteArray} (hR : Reg a N l) (ho : o.op = .binOp op t x y u) (hx : ev l x = some (.string s)) (hy : ev l y = some (.string s'))
    (h : (Op.stringOp op s s').run P w = .ok v w) : (execOp a.eval o).run P w = .ok (.value v) w := by
  have hg : (eqGuard op t x y (.string s) (.string s')).run P w = .ok () w := by
    unfold eqGuard
    cases op <;> rfl
  have hb : binOp op t (.string s) (.string s') = Op.stringOp op s s' := by unfold binOp; cases op <;> rfl
  unfold execOp
  rw [ho]
  simp only [hR.ev hx, hR.ev hy, Sem.run_bind, hg, hb, Result.andThen_ok, h, Sem.run_pure]
theorem toList_eq (s s' : ByteArray) : (s.toList == s'.toList) = decide (s = s') := by
  rw [Bool.eq_iff_iff, decide_eq_true_eq, beq_iff_eq, ByteArray.toList_eq, ByteArray.toList_eq]
  exact ⟨fun h => ByteArray.ext (Array.toList_inj.mp h), fun h => by rw [h]⟩
theorem r_eqlS {s s' : ByteArray} (hs : SteV P X Next o a w) (hR : Reg a N l) (hd : o.dst = some d) (ho : o.op = .binOp .eql t x y u) (hx : ev l x = some (.string s)) (hy : ev l y = some (.string s')) (hdN : d < N)
    (k : ∀ a', Reg a' N ((d, .bool (decide (s = s'))) :: l) → Next a' w) : X :=
  r_pure hs hR hd hdN (run_str hR ho hx hy (by simp only [Op.stringOp, toList_eq]; rfl)) k
theorem r_neqS {s s' : ByteArray} (hs : SteV P X Next o a w) (hR : Reg a N l) (hd : o.dst = some d) (ho : o.op = .binOp .neq t x y u) (hx : ev l x = some (.string s)) (hy : ev l y = some (.string s')) (hdN : d < N)
    (k : ∀ a', Reg a' N ((d, .bool (!decide (s = s'))) :: l) → Next a' w) : X :=
  r_pure hs hR hd hdN (run_str hR ho hx hy (by simp only [Op.stringOp, toList_eq]; rfl)) k
end

theorem r_not {x : Operand} {t : TypeId} {b : Bool} (hs : SteV P X Next o a w) (hR : Reg a N l) (hd : o.dst = some d) (ho : o.op = .unOp .not t x) (hx : ev l x = some (.bool b)) (hdN : d < N)
    (k : ∀ a', Reg a' N ((d, .bool (!b)) :: l) → Next a' w) : X :=
  r_pure hs hR hd hdN (by unfold execOp; rw [ho]; simp only [hR.ev hx]; rfl) k
theorem r_nilCheck {x : Operand} {p : Addr} (hs : SteV P X Next o a w) (hR : Reg a N l) (hd : o.dst = some d) (ho : o.op = .nilCheck x) (hx : ev l x = some (.pointer (some p))) (hdN : d < N)
    (k : ∀ a', Reg a' N ((d, .pointer (some p)) :: l) → Next a' w) : X :=
  r_pure hs hR hd hdN (by unfold execOp; rw [ho]; simp only [hR.ev hx]; rfl) k
theorem r_nilCheckF {x : Operand} {f : FuncId} {c : Array Value} (hs : SteV P X Next o a w) (hR : Reg a N l) (hd : o.dst = some d) (ho : o.op = .nilCheck x) (hx : ev l x = some (.func (.func f) #[] c)) (hdN : d < N)
    (k : ∀ a', Reg a' N ((d, .func (.func f) #[] c) :: l) → Next a' w) : X :=
  r_pure hs hR hd hdN (by unfold execOp; rw [ho]; simp only [hR.ev hx]; rfl) k
theorem r_extract {x : Operand} {i : Nat} {vs : Array Value} {v : Value} (hs : SteV P X Next o a w) (hR : Reg a N l) (hd : o.dst = some d) (ho : o.op = .extract x i) (hx : ev l x = some (.tuple vs)) (hi : vs[i]? = some v) (hdN : d < N)
    (k : ∀ a', Reg a' N ((d, v) :: l) → Next a' w) : X :=
  r_pure hs hR hd hdN (by unfold execOp; rw [ho]; simp only [hR.ev hx, Instr.extract, hi]; rfl) k
theorem r_makeFunc {f : FuncId} {cs : Array Operand} {vs : List Value} (hs : SteV P X Next o a w) (hR : Reg a N l) (hd : o.dst = some d) (ho : o.op = .makeFunc (.func f) #[] cs) (hx : evs l cs.toList = some vs) (hdN : d < N)
    (k : ∀ a', Reg a' N ((d, .func (.func f) #[] vs.toArray) :: l) → Next a' w) : X :=
  r_pure hs hR hd hdN (by
    have : cs.map a.eval = vs.toArray := by
      rw [← hR.evs hx, ← List.map_toArray, Array.toArray_toList]
    unfold execOp; rw [ho]; simp [Instr.makeFunc]; exact this) k
theorem r_len {t u : TypeId} {x : Operand} {A : Option Addr} {n c : Nat} {e : TypeId} (hs : SteV P X Next o a w) (hR : Reg a N l) (hd : o.dst = some d) (ho : o.op = .call { callee := .builtin .len, args := #[x], argTypes := #[t] }) (_hu : o.type = u)
    (hx : ev l x = some (.slice A n c)) (ht : P.underlying t = some (.slice e)) (hdN : d < N) (k : ∀ a', Reg a' N ((d, .int .i64 (n : Int)) :: l) → Next a' w) : X :=
  r_pure hs hR hd hdN (by
    unfold execOp; rw [ho]
    simp only [resolve, invoke, builtin, Sem.run_bind, Sem.run_pure, Result.andThen_ok, List.map_toArray, List.map_cons, List.map_nil, hR.ev hx, Builtin.len_]
    simp [run_underlying ht, goInt]) k
theorem r_lenS {t u : TypeId} {x : Operand} {s : ByteArray} (hs : SteV P X Next o a w) (hR : Reg a N l) (hd : o.dst = some d) (ho : o.op = .call { callee := .builtin .len, args := #[x], argTypes := #[t] }) (_hu : o.type = u)
    (hx : ev l x = some (.string s)) (ht : P.underlying t = some .string) (hdN : d < N) (k : ∀ a', Reg a' N ((d, .int .i64 (s.size : Int)) :: l) → Next a' w) : X :=
  r_pure hs hR hd hdN (by
    unfold execOp; rw [ho]
    simp only [resolve, invoke, builtin, Sem.run_bind, Sem.run_pure, Result.andThen_ok, List.map_toArray, List.map_cons, List.map_nil, hR.ev hx, Builtin.len_]
    simp [run_underlying ht, goInt]) k
theorem r_max {ts : Array TypeId} {u : TypeId} {x y : Operand} {p q : Int} {ki : IntKind} (hs : SteV P X Next o a w) (hR : Reg a N l) (hd : o.dst = some d) (ho : o.op = .call { callee := .builtin .max, args := #[x, y], argTypes := ts }) (_hu : o.type = u)
    (hx : ev l x = some (.int ki p)) (hy : ev l y = some (.int ki q)) (hdN : d < N) (k : ∀ a', Reg a' N ((d, .int ki (max p q)) :: l) → Next a' w) : X :=
  r_pure hs hR hd hdN (by
    have hm : (if q > p then q else p) = max p q := by split <;> omega
    unfold execOp; rw [ho]
    simp only [resolve, invoke, builtin, Sem.run_bind, Sem.run_pure, Result.andThen_ok, List.map_toArray, List.map_cons, List.map_nil, hR.ev hx, hR.ev hy, Builtin.max_]
    simp only [List.foldlM, Builtin.max2, hm]
    rfl) k
theorem r_min {ts : Array TypeId} {u : TypeId} {x y : Operand} {p q : Int} {ki : IntKind} (hs : SteV P X Next o a w) (hR : Reg a N l) (hd : o.dst = some d) (ho : o.op = .call { callee := .builtin .min, args := #[x, y], argTypes := ts }) (_hu : o.type = u)
    (hx : ev l x = some (.int ki p)) (hy : ev l y = some (.int ki q)) (hdN : d < N) (k : ∀ a', Reg a' N ((d, .int ki (min p q)) :: l) → Next a' w) : X :=
  r_pure hs hR hd hdN (by
    have hm : (if q < p then q else p) = min p q := by split <;> omega
    unfold execOp; rw [ho]
    simp only [resolve, invoke, builtin, Sem.run_bind, Sem.run_pure, Result.andThen_ok, List.map_toArray, List.map_cons, List.map_nil, hR.ev hx, hR.ev hy, Builtin.min_]
    simp only [List.foldlM, Builtin.min2, hm]
    rfl) k
/-- A byte of a string. -/
theorem r_indexS {t : TypeId} {x y : Operand} {s : ByteArray} {p : Int} {ki : IntKind} {i : Nat} (hs : SteV P X Next o a w) (hR : Reg a N l) (hd : o.dst = some d) (ho : o.op = .index t x y) (hx : ev l x = some (.string s)) (hy : ev l y = some (.int ki p))
    (ht : P.underlying t = some .string) (hp : p = (i : Int)) (hi : i < s.size) (hdN : d < N) (k : ∀ a', Reg a' N ((d, .int .u8 ((s[i]).toNat : Int)) :: l) → Next a' w) : X :=
  r_pure hs hR hd hdN (by
    subst hp
    unfold execOp; rw [ho]
    simp [hR.ev hx, hR.ev hy, Instr.index, asIntOf, run_underlying ht, hi]) k

/-- A call of a function. -/
theorem r_call {f : FuncId} {xs : List Operand} {ts : Array TypeId} {vs : List Value} {R : Ending → World → Prop} {fn : Func} (hs : Ste P X Next o a w) (hR : Reg a N l) (hd : o.dst = some d)
    (ho : o.op = .call { callee := .value (.func f), args := xs.toArray, argTypes := ts }) (hx : evs l xs = some vs) (hdN : d < N)
    (hf : P.funcs[f]? = some fn) (hb : fn.body.isNone = false) (hn : (fn.name == "runtime.NumGoroutine") = false) (hc : Calls P f vs.toArray w R)
    (k : ∀ e w', R e w' → ∃ v, e = .returned v ∧ ∀ a', Reg a' N ((d, v) :: l) → Next a' w') : X := by
  refine hs.enter f vs.toArray w ?_ (hc.mono fun e w' he => ?_)
  · have hm : xs.toArray.map a.eval = vs.toArray := by rw [← hR.evs hx]; simp
    unfold execOp
    rw [ho]
    simp only [resolve, hm, Act.eval, Deferred.ofValue, Sem.run_bind, Sem.run_pure, Result.andThen_ok, invoke, callFunc, Array.append_empty, Array.empty_append]
    have hn' : fn.name ≠ "runtime.NumGoroutine" := by simpa using hn
    have hb' : fn.body ≠ none := by intro e; rw [e] at hb; cases hb
    simp [hf, hn', hb']
  · obtain ⟨v, rfl, hk⟩ := k e w' he
    exact ⟨v, rfl, by rw [hd]; exact hk _ (hR.put hdN v)⟩
/-- A call of a function value. -/
theorem r_callV {g : Operand} {f : FuncId} {cs : Array Value} {xs : List Operand} {ts : Array TypeId} {vs : List Value} {R : Ending → World → Prop} {fn : Func} (hs : Ste P X Next o a w) (hR : Reg a N l) (hd : o.dst = some d)
    (ho : o.op = .call { callee := .value g, args := xs.toArray, argTypes := ts }) (hg : ev l g = some (.func (.func f) #[] cs)) (hx : evs l xs = some vs) (hdN : d < N)
    (hf : P.funcs[f]? = some fn) (hb : fn.body.isNone = false) (hn : (fn.name == "runtime.NumGoroutine") = false) (hc : Calls P f (vs.toArray ++ cs) w R)
    (k : ∀ e w', R e w' → ∃ v, e = .returned v ∧ ∀ a', Reg a' N ((d, v) :: l) → Next a' w') : X := by
  refine hs.enter f (vs.toArray ++ cs) w ?_ (hc.mono fun e w' he => ?_)
  · have hm : xs.toArray.map a.eval = vs.toArray := by rw [← hR.evs hx]; simp
    unfold execOp
    rw [ho]
    simp only [resolve, hm, hR.ev hg, Deferred.ofValue, Sem.run_bind, Sem.run_pure, Result.andThen_ok, invoke, callFunc, Array.empty_append]
    have hn' : fn.name ≠ "runtime.NumGoroutine" := by simpa using hn
    have hb' : fn.body ≠ none := by intro e; rw [e] at hb; cases hb
    simp [hf, hn', hb']
  · obtain ⟨v, rfl, hk⟩ := k e w' he
    exact ⟨v, rfl, by rw [hd]; exact hk _ (hR.put hdN v)⟩
end
end Go.Proofs.YtobgdeffhdefeaaDoor
/- The operations, one rule each: memory. -/
namespace Go.Proofs.YtobgdeffhdefeaaDoor
set_option linter.unusedSimpArgs false
set_option linter.unusedVariables false
open Go.RowKit

/-- The cells that lie at an address. -/
def CellsAt (w : World) (p : Addr) (xs : List Value) : Prop := ∀ j u, xs[j]? = some u → w.cell? (p.add j) = some u

theorem block_of_add (a : Addr) (n : Nat) : (a.add n).block = a.block := by unfold Addr.add; split <;> rfl
theorem add_of_add (a : Addr) (i j : Nat) : (a.add i).add j = a.add (i + j) := by
  unfold Addr.add
  by_cases hi : i = 0 <;> by_cases hj : j = 0 <;> simp [hi, hj, Nat.add_assoc]

/-- A place so many cells behind an address. -/
def eP (A : Option Addr) (j : Nat) : Option Addr := A.map (·.add j)
/-- What lies so many cells behind an address. -/
def ElemAt (w : World) (A : Option Addr) (j : Nat) (vs : List Value) : Prop := ∃ ad, A = some ad ∧ CellsAt w (ad.add j) vs

/-- A row of cells that nobody changes: n elements of so many cells each. -/
def RowI (w : World) (I : Nat → Prop) (size : Nat) (A : Option Addr) (n : Nat) (xs : List Value) : Prop :=
  xs.length = n * size ∧ (0 < n → ∃ ad, A = some ad ∧ I ad.block ∧ CellsAt w ad xs)

section
variable {w w' : World} {I I' : Nat → Prop} {size n : Nat} {A : Option Addr} {xs : List Value}
theorem CellsAt.keep {p : Addr} (h : CellsAt w p xs) (hk : w'.heap[p.block]? = w.heap[p.block]?) : CellsAt w' p xs :=
  fun j u hu => (World.cell?_of_block (by rw [block_of_add]; exact hk)).trans (h j u hu)
theorem CellsAt.drop {p : Addr} (h : CellsAt w p xs) (k : Nat) : CellsAt w (p.add k) (xs.drop k) := fun j u hu => by
  rw [add_of_add]; exact h _ u (by rw [← hu, List.getElem?_drop])
theorem CellsAt.take {p : Addr} (h : CellsAt w p xs) (k : Nat) : CellsAt w p (xs.take k) := fun j u hu => by
  refine h j u ?_
  rw [List.getElem?_take] at hu
  split at hu
  · exact hu
  · cases hu
theorem RowI.mono (h : RowI w I size A n xs) (hk : ∀ k, I k → I' k ∧ w'.heap[k]? = w.heap[k]?) : RowI w' I' size A n xs :=
  ⟨h.1, fun hn => by
    obtain ⟨ad, e, hb, hc⟩ := h.2 hn
    exact ⟨ad, e, (hk _ hb).1, hc.keep (hk _ hb).2⟩⟩
theorem RowI.nil (w : World) (I : Nat → Prop) (size : Nat) (A : Option Addr) : RowI w I size A 0 [] := ⟨by simp, fun h => absurd h (by omega)⟩
theorem RowI.some_ (h : RowI w I size A n xs) (hn : 0 < n) : A.isSome = true := by
  obtain ⟨ad, rfl, _⟩ := h.2 hn
  rfl
theorem RowI.elem (h : RowI w I size A n xs) {k : Nat} (hk : k < n) : ElemAt w A (k * size) ((xs.drop (k * size)).take size) := by
  obtain ⟨ad, rfl, hb, hc⟩ := h.2 (by omega)
  exact ⟨ad, rfl, (hc.drop (k * size)).take size⟩
theorem RowI.from_ (h : RowI w I size A n xs) {k cap : Nat} (hk : k ≤ n) (hc : n ≤ cap) : RowI w I size (if cap = k then A else A.map (·.add (k * size))) (n - k) (xs.drop (k * size)) := by
  refine ⟨by rw [List.length_drop, h.1, Nat.sub_mul], fun hn => ?_⟩
  obtain ⟨ad, rfl, hb, hcell⟩ := h.2 (by omega)
  rw [if_neg (by omega)]
  exact ⟨ad.add (k * size), rfl, by rw [block_of_add]; exact hb, hcell.drop _⟩
theorem RowI.take (h : RowI w I size A n xs) {k : Nat} (hk : k ≤ n) : RowI w I size A k (xs.take (k * size)) := by
  refine ⟨by rw [List.length_take, h.1]; exact Nat.min_eq_left (Nat.mul_le_mul_right _ hk), fun hn => ?_⟩
  obtain ⟨ad, rfl, hb, hcell⟩ := h.2 (by omega)
  exact ⟨ad, rfl, hb, hcell.take _⟩
theorem own_some {e cap : Nat} {base : Nat} (h : w.ownsRow base e size (.slice A n cap) n xs) (hn : 0 < n) : ∃ g, A = some ⟨g, 0, none⟩ := by
  rcases h.2 with ⟨h1, h2⟩ | ⟨g, cap', cur, hv, h1, h2, h3, h4, h5, h6⟩
  · omega
  · exact ⟨g, by injection hv⟩
/-- A row of the call's own is read. -/
theorem own_elem {e cap : Nat} {base : Nat} (h : w.ownsRow base e size (.slice A n cap) n xs) {k : Nat} (hk : k < n) : ElemAt w A (k * size) ((xs.drop (k * size)).take size) := by
  obtain ⟨g, rfl⟩ := own_some h (by omega)
  have hc : CellsAt w ⟨g, 0, none⟩ xs := fun j u hu => h.cells (g := g) rfl j u hu
  exact ⟨_, rfl, (hc.drop (k * size)).take size⟩
theorem own_news {e cap : Nat} {base : Nat} (h : w.ownsRow base e size (.slice A n cap) n xs) : 0 < n → ∃ ad, A = some ad ∧ CellsAt w ad xs := fun hn => by
  obtain ⟨g, rfl⟩ := own_some h hn
  exact ⟨_, rfl, fun j u hu => h.cells (g := g) rfl j u hu⟩
theorem own_take {e base : Nat} {cap : Nat} (h : w.ownsRow base e size (.slice A n cap) n xs) {k : Nat} (hk : k ≤ n) : w.ownsRow base e size (.slice A k cap) k (xs.take (k * size)) := by
  have hl : (xs.take (k * size)).length = k * size := by
    rw [List.length_take, h.1]; exact Nat.min_eq_left (Nat.mul_le_mul_right _ hk)
  refine ⟨hl, ?_⟩
  rcases h.2 with ⟨h1, h2⟩ | ⟨g, cap', cur, hv, h1, h2, h3, h4, h5, h6⟩
  · injection h1 with ha hb hc
    subst ha; subst hc
    exact .inl ⟨by rw [show k = 0 by omega], by omega⟩
  · injection hv with ha hb hc
    subst ha; subst hc
    refine .inr ⟨g, cap, cur, rfl, h1, h2, by omega, h4, h5, ?_⟩
    rw [← h6, List.take_take, Nat.min_eq_left (Nat.mul_le_mul_right _ hk)]
theorem own_form {base e : Nat} {v : Value} (h : w.ownsRow base e size v n xs) : ∃ A cap, v = .slice A n cap ∧ n ≤ cap ∧ w.ownsRow base e size (.slice A n cap) n xs := by
  rcases h.2 with ⟨rfl, rfl⟩ | ⟨g, cap, cur, rfl, h1, h2, h3, h4, h5⟩
  · exact ⟨none, 0, rfl, Nat.le_refl _, h⟩
  · exact ⟨some ⟨g, 0, none⟩, cap, rfl, h3, h⟩
theorem own_cap {base e cap : Nat} (h : w.ownsRow base e size (.slice A n cap) n xs) : n ≤ cap := by
  obtain ⟨A', c', hv, hle, _⟩ := own_form h
  injection hv with _ _ hc
  omega
end

/-- A row that is let go. -/
theorem St.row_data {w0 w : World} {Z M : Nat → Prop} {m : List Res} {ds : List Dat} (h : St w0 Z M w m ds) {i : Nat} {A : Option Addr} {n cap e size : Nat} {xs : List Value}
    (hi : m[i]? = some (.row A n cap e size xs)) (hM : ∀ k, ¬ M k) : St w0 Z M w (m.eraseIdx i) ds ∧ RowI w (imm Z w0 (m.eraseIdx i) w) size A n xs := by
  have hr : w.ownsRow 0 e size (.slice A n cap) n xs := h.res hi
  refine ⟨h.drop _ (List.eraseIdx_sublist m i), hr.1, fun hn => ?_⟩
  obtain ⟨g, rfl⟩ := own_some hr hn
  refine ⟨_, rfl, ⟨(h.own _ (List.mem_of_getElem? hi) g rfl).1, fun hlt => ?_, fun r hmem e => ?_⟩, fun j u hu => hr.cells (g := g) rfl j u hu⟩
  · rcases (h.own _ (List.mem_of_getElem? hi) g rfl).2 with h1 | h1
    · have hlt' : g < w0.heap.size := hlt
      omega
    · exact absurd h1 (hM g)
  obtain ⟨j, hj⟩ := List.mem_iff_getElem?.1 hmem
  rw [List.getElem?_eraseIdx] at hj
  by_cases hji : j < i
  · rw [if_pos hji] at hj
    exact apart_get h.apart (by omega : j ≠ i) hj hi e rfl
  · rw [if_neg hji] at hj
    exact apart_get h.apart (by omega : j + 1 ≠ i) hj hi e rfl
/-- A nil slice is a row of the call's own. -/
theorem St.nilrow {w0 w : World} {Z M : Nat → Prop} {m : List Res} {ds : List Dat} (h : St w0 Z M w m ds) (e size : Nat) : St w0 Z M w (m ++ [.row none 0 0 e size []]) ds :=
  h.step rfl rfl rfl (Nat.le_refl _) (fun _ _ _ => rfl)
    (fun r hr => by
      rcases List.mem_append.1 hr with hr | hr
      · exact h.hold r hr
      · rw [List.mem_singleton] at hr; subst hr
        exact ⟨by simp, .inl ⟨rfl, rfl⟩⟩)
    (fun r hr k e => by
      rcases List.mem_append.1 hr with hr | hr
      · exact ⟨(h.own r hr k e).1, .inl ⟨r, hr, e⟩⟩
      · rw [List.mem_singleton] at hr; subst hr
        cases e)
    (by
      rw [List.pairwise_append]
      refine ⟨h.apart, by simp, fun r _ s hs k _ e' => ?_⟩
      rw [List.mem_singleton] at hs; subst hs
      cases e')

section
variable {P : Program} {X : Prop} {Next : Act → World → Prop} {o : Oper} {a : Act} {w w0 : World} {N : Nat} {l : List (Nat × Value)} {d : Nat} {Z M : Nat → Prop} {m : List Res} {ds : List Dat}

theorem run_newVar (w : World) (e : TypeId) (v : Value) : (newVar e v).run P w = .ok ⟨w.heap.size, 0, none⟩ (w.alloc (.cells v.cells e)) := rfl

theorem m_alloc {e : TypeId} {z : Value} {cs : List Value} (hs : SteV P X Next o a w) (hR : Reg a N l) (hS : St w0 Z M w m ds) (hd : o.dst = some d) (ho : o.op = .alloc e) (hz : (P.info? e).map (·.zero) = some (some z)) (hc : z.cells.toList = cs) (hdN : d < N)
    (k : ∀ a' w' g, Reg a' N ((d, .pointer (some ⟨g, 0, none⟩)) :: l) → St w0 Z M w' (m ++ [.box g e cs]) ds → Next a' w') : X := by
  cases hq : P.info? e with
  | none => simp [hq] at hz
  | some i =>
    have hzi : i.zero = some z := by simpa [hq] using hz
    refine hs.val (.pointer (some ⟨w.heap.size, 0, none⟩)) (w.alloc (.cells z.cells e)) ?_ ?_
    · unfold execOp; rw [ho]
      simp [Instr.alloc, zeroValue, typeInfo, hq, hzi, run_newVar]
    · rw [hd]
      refine k _ _ _ (hR.put hdN _) (hS.alloc (.box w.heap.size e cs) _ ?_ rfl)
      subst hc
      simpa [Res.holds] using heap_alloc_new w (.cells z.cells e)
theorem m_box {e : TypeId} {x : Operand} {v : Value} {cs : List Value} (hs : SteV P X Next o a w) (hR : Reg a N l) (hS : St w0 Z M w m ds) (hd : o.dst = some d) (ho : o.op = .box e x) (hx : ev l x = some v) (hc : v.cells.toList = cs) (hdN : d < N)
    (k : ∀ a' w' g, Reg a' N ((d, .pointer (some ⟨g, 0, none⟩)) :: l) → St w0 Z M w' (m ++ [.box g e cs]) ds → Next a' w') : X := by
  refine hs.val (.pointer (some ⟨w.heap.size, 0, none⟩)) (w.alloc (.cells v.cells e)) ?_ ?_
  · unfold execOp; rw [ho]
    simp [Instr.box, hR.ev hx, run_newVar]
  · rw [hd]
    refine k _ _ _ (hR.put hdN _) (hS.alloc (.box w.heap.size e cs) _ ?_ rfl)
    subst hc
    simpa [Res.holds] using heap_alloc_new w (.cells v.cells e)

theorem m_field {t : TypeId} {x : Operand} {f : Nat} {fs : Array Field} {fl : Field} {g j j' : Nat} {sz : Nat} (hs : SteV P X Next o a w) (hR : Reg a N l) (hd : o.dst = some d) (ho : o.op = .fieldAddr t x f) (hx : ev l x = some (.pointer (some ⟨g, j, none⟩)))
    (ht : P.underlying t = some (.struct fs)) (hf : fs[f]? = some fl) (hsz : (P.info? fl.type).map (·.size) = some sz) (hsz0 : (sz == 0) = false) (hj : (j + fl.offset == j') = true) (hdN : d < N)
    (k : ∀ a', Reg a' N ((d, .pointer (some ⟨g, j', none⟩)) :: l) → Next a' w) : X := by
  cases hq : P.info? fl.type with
  | none => simp [hq] at hsz
  | some i =>
    have hi : i.size = sz := by simpa [hq] using hsz
    have h0 : sz ≠ 0 := by simpa using hsz0
    have hjj : j + fl.offset = j' := by simpa using hj
    subst hjj
    refine r_pure hs hR hd hdN ?_ k
    have hadd : (⟨g, j, none⟩ : Addr).add fl.offset = ⟨g, j + fl.offset, none⟩ := by unfold Addr.add; split <;> simp_all
    unfold execOp; rw [ho]
    simp [Instr.fieldAt, hR.ev hx, Instr.sureAddr, run_underlying ht, hf, fieldPlace, sizeOf, typeInfo, hq, hi, h0, hadd]
/-- A field of an element. -/
theorem m_fieldE {t : TypeId} {x : Operand} {f : Nat} {fs : Array Field} {fl : Field} {A : Option Addr} {j j' : Nat} {sz : Nat} (hs : SteV P X Next o a w) (hR : Reg a N l) (hd : o.dst = some d) (ho : o.op = .fieldAddr t x f) (hx : ev l x = some (.pointer (eP A j))) (hA : A.isSome = true)
    (ht : P.underlying t = some (.struct fs)) (hf : fs[f]? = some fl) (hsz : (P.info? fl.type).map (·.size) = some sz) (hsz0 : (sz == 0) = false) (hj : j + fl.offset = j') (hdN : d < N)
    (k : ∀ a', Reg a' N ((d, .pointer (eP A j')) :: l) → Next a' w) : X := by
  obtain ⟨ad, rfl⟩ := Option.isSome_iff_exists.1 hA
  cases hq : P.info? fl.type with
  | none => simp [hq] at hsz
  | some i =>
    have hi : i.size = sz := by simpa [hq] using hsz
    have h0 : sz ≠ 0 := by simpa using hsz0
    subst hj
    refine r_pure hs hR hd hdN ?_ k
    unfold execOp; rw [ho]
    simp [Instr.fieldAt, hR.ev hx, Instr.sureAddr, run_underlying ht, hf, fieldPlace, sizeOf, typeInfo, hq, hi, h0, eP, add_of_add]

def isAggD : TypeDesc → Bool
  | .struct _ | .array _ _ => true
  | _ => false
theorem run_isAgg {t : TypeId} {dsc : TypeDesc} (h : P.underlying t = some dsc) (w : World) : (isAgg t).run P w = .ok (isAggD dsc) w := by
  unfold isAgg
  rw [Sem.run_bind, run_underlying h w]
  cases dsc <;> rfl
theorem run_load1 {t : TypeId} {dsc : TypeDesc} {p : Addr} {v : Value} {w : World} (ht : P.underlying t = some dsc) (hd : isAggD dsc = false) (hc : w.cell? p = some v) : (loadVar t p).run P w = .ok v w := by
  simp [loadVar, Sem.run_bind, run_isAgg ht, hd, load, Sem.run, hc]
theorem run_loadN {t : TypeId} {dsc : TypeDesc} {p : Addr} {vs : List Value} {w : World} (ht : P.underlying t = some dsc) (hd : isAggD dsc = true) (hsz : (P.info? t).map (·.size) = some vs.length) (hc : CellsAt w p vs) :
    (loadVar t p).run P w = .ok (.agg vs.toArray) w := by
  cases hq : P.info? t with
  | none => simp [hq] at hsz
  | some i =>
    have hi : i.size = vs.length := by simpa [hq] using hsz
    have hl : (loadCells p vs.length).run P w = .ok vs.toArray w := run_loadCells_list (P := P) w p vs hc
    simp [loadVar, Sem.run_bind, run_isAgg ht, hd, sizeOf, typeInfo, hq, hi, hl]

theorem box_cells {g : Nat} {e : TypeId} {cs : List Value} (h : (Res.box g e cs).holds w) : CellsAt w ⟨g, 0, none⟩ cs := fun j u hu => by
  have : (⟨g, 0, none⟩ : Addr).add j = ⟨g, j, none⟩ := by unfold Addr.add; split <;> simp_all
  rw [this, cell_of_row w g j cs.toArray e (0, 0) h]
  simpa using hu

/-- A variable in a block of the call's own is read: one cell. -/
theorem m_load {t : TypeId} {x : Operand} {g j i : Nat} {e : TypeId} {cs : List Value} {v : Value} {dsc : TypeDesc} (hs : SteV P X Next o a w) (hR : Reg a N l) (hS : St w0 Z M w m ds) (hd : o.dst = some d) (ho : o.op = .load t x) (hx : ev l x = some (.pointer (some ⟨g, j, none⟩)))
    (hi : m[i]? = some (.box g e cs)) (hv : cs[j]? = some v) (ht : P.underlying t = some dsc) (hag : isAggD dsc = false) (hdN : d < N) (k : ∀ a', Reg a' N ((d, v) :: l) → Next a' w) : X := by
  refine r_pure hs hR hd hdN ?_ k
  have hc : w.cell? ⟨g, j, none⟩ = some v := by
    have hb : w.heap[g]? = some (.cells cs.toArray e (0, 0)) := hS.res hi
    rw [cell_of_row w g j cs.toArray e (0, 0) hb]
    simpa using hv
  unfold execOp; rw [ho]
  simp only [hR.ev hx, Instr.loadAt, Instr.sureAddr, Sem.run_bind, Sem.run_pure, Result.andThen_ok, run_load1 ht hag hc]
/-- The same, a struct. -/
theorem m_loadN {t : TypeId} {x : Operand} {g j i : Nat} {e : TypeId} {cs vs : List Value} {dsc : TypeDesc} (hs : SteV P X Next o a w) (hR : Reg a N l) (hS : St w0 Z M w m ds) (hd : o.dst = some d) (ho : o.op = .load t x) (hx : ev l x = some (.pointer (some ⟨g, j, none⟩)))
    (hi : m[i]? = some (.box g e cs)) (hv : (cs.drop j).take vs.length = vs) (ht : P.underlying t = some dsc) (hag : isAggD dsc = true) (hsz : (P.info? t).map (·.size) = some vs.length) (hdN : d < N) (k : ∀ a', Reg a' N ((d, .agg vs.toArray) :: l) → Next a' w) : X := by
  refine r_pure hs hR hd hdN ?_ k
  have hc : CellsAt w ⟨g, j, none⟩ vs := by
    have h1 := ((box_cells (hS.res hi)).drop j).take vs.length
    rw [hv] at h1
    have : (⟨g, 0, none⟩ : Addr).add j = ⟨g, j, none⟩ := by unfold Addr.add; split <;> simp_all
    rwa [this] at h1
  unfold execOp; rw [ho]
  simp only [hR.ev hx, Instr.loadAt, Instr.sureAddr, Sem.run_bind, Sem.run_pure, Result.andThen_ok, run_loadN ht hag hsz hc]
/-- An element is read: one cell of it. -/
theorem m_loadE {t : TypeId} {x : Operand} {A : Option Addr} {j : Nat} {vs : List Value} {v : Value} {dsc : TypeDesc} (hs : SteV P X Next o a w) (hR : Reg a N l) (hd : o.dst = some d) (ho : o.op = .load t x) (hx : ev l x = some (.pointer (eP A j)))
    (i : Nat) (j0 : Nat) (he : ElemAt w A j0 vs) (hj : j = j0 + i) (hv : vs[i]? = some v) (ht : P.underlying t = some dsc) (hag : isAggD dsc = false) (hdN : d < N) (k : ∀ a', Reg a' N ((d, v) :: l) → Next a' w) : X := by
  obtain ⟨ad, rfl, hc⟩ := he
  subst hj
  refine r_pure hs hR hd hdN ?_ k
  have h1 := hc i v hv
  rw [add_of_add] at h1
  unfold execOp; rw [ho]
  simp only [hR.ev hx, eP, Option.map_some, Instr.loadAt, Instr.sureAddr, Sem.run_bind, Sem.run_pure, Result.andThen_ok, run_load1 ht hag h1]
theorem m_loadEN {t : TypeId} {x : Operand} {A : Option Addr} {j : Nat} {vs : List Value} {dsc : TypeDesc} (hs : SteV P X Next o a w) (hR : Reg a N l) (hd : o.dst = some d) (ho : o.op = .load t x) (hx : ev l x = some (.pointer (eP A j)))
    (he : ElemAt w A j vs) (ht : P.underlying t = some dsc) (hag : isAggD dsc = true) (hsz : (P.info? t).map (·.size) = some vs.length) (hdN : d < N) (k : ∀ a', Reg a' N ((d, .agg vs.toArray) :: l) → Next a' w) : X := by
  obtain ⟨ad, rfl, hc⟩ := he
  refine r_pure hs hR hd hdN ?_ k
  unfold execOp; rw [ho]
  simp only [hR.ev hx, eP, Option.map_some, Instr.loadAt, Instr.sureAddr, Sem.run_bind, Sem.run_pure, Result.andThen_ok, run_loadN ht hag hsz hc]

/-- A variable in a block of the call's own is written. -/
theorem m_store {t : TypeId} {x y : Operand} {g j i : Nat} {e : TypeId} {cs cs' : List Value} {v : Value} (hs : Ste P X Next o a w) (hR : Reg a N l) (hS : St w0 Z M w m ds) (hd : o.dst = none) (ho : o.op = .store t x y) (hx : ev l x = some (.pointer (some ⟨g, j, none⟩))) (hy : ev l y = some v)
    (hi : m[i]? = some (.box g e cs)) (hsz : (P.info? t).map (·.size) = some v.cells.toList.length) (hone : v.cells.toList.all Value.oneCell' = true) (hfit : decide (j + v.cells.toList.length ≤ cs.length) = true) (hcs : cs.take j ++ v.cells.toList ++ cs.drop (j + v.cells.toList.length) = cs')
    (k : ∀ a' w', Reg a' N l → St w0 Z M w' (m.set i (.box g e cs')) ds → Next a' w') : X := by
  have hb : w.heap[g]? = some (.cells cs.toArray e (0, 0)) := hS.res hi
  have hfit' : j + v.cells.toList.length ≤ cs.length := by simpa using hfit
  cases hq : P.info? t with
  | none => simp [hq] at hsz
  | some inf =>
    have hii : inf.size = v.cells.toList.length := by simpa [hq] using hsz
    have hrun : (storeVar t ⟨g, j, none⟩ v).run P w = .ok () (w.setRow g cs'.toArray) := by
      have h1 := run_storeCells_at P g j e v.cells.toList 0 cs.toArray w hb (by simpa using hfit') (List.all_eq_true.1 hone)
      simp only [Nat.add_zero] at h1
      rw [hcs] at h1
      have hii' : v.cells.size = inf.size := by simpa using hii.symm
      simp [storeVar, Sem.run_bind, sizeOf, typeInfo, hq, hii', h1]
    refine hs.skip (w.setRow g cs'.toArray) ?_ ?_
    · unfold execOp; rw [ho]
      simp only [hR.ev hx, hR.ev hy, Instr.storeAt, Instr.sureAddr, Sem.run_bind, Sem.run_pure, Result.andThen_ok, hrun]
    · rw [hd]
      refine k _ _ (hR.put_none _) ?_
      refine hS.turn hi rfl rfl rfl (by simp) (fun k' hk' hne => setRow_other w g k' _ (fun e' => hne (by rw [e']; rfl))) (setRow_heap w g _ _ e (0, 0) hb) (fun k' hk' => ?_)
      have : g = k' := by simpa [Res.blk] using hk'
      subst this
      exact ⟨by simpa using (hS.own _ (List.mem_of_getElem? hi) g rfl).1, .inl rfl⟩

/-- The place of an element. -/
theorem m_index {t : TypeId} {x y : Operand} {A : Option Addr} {n c j i size : Nat} {p : Int} {ki : IntKind} {e : TypeId} (hs : SteV P X Next o a w) (hR : Reg a N l) (hd : o.dst = some d) (ho : o.op = .indexAddr t x y) (hx : ev l x = some (.slice A n c)) (hy : ev l y = some (.int ki p))
    (ht : P.underlying t = some (.slice e)) (hsz : (P.info? e).map (·.size) = some size) (hp : p = (i : Int)) (hi : i < n) (hA : A.isSome = true) (hj : i * size = j) (hdN : d < N)
    (k : ∀ a', Reg a' N ((d, .pointer (eP A j)) :: l) → Next a' w) : X := by
  obtain ⟨ad, rfl⟩ := Option.isSome_iff_exists.1 hA
  subst hj
  subst hp
  cases hq : P.info? e with
  | none => simp [hq] at hsz
  | some inf =>
    have hii : inf.size = size := by simpa [hq] using hsz
    refine r_pure hs hR hd hdN ?_ k
    unfold execOp; rw [ho]
    simp [hR.ev hx, hR.ev hy, Instr.indexAt, asIntOf, run_underlying ht, hi, sizeOf, typeInfo, hq, hii, eP]
/-- The place of an element of an array. -/
theorem m_indexA {t : TypeId} {x y : Operand} {g n j i size : Nat} {p : Int} {ki : IntKind} {e : TypeId} (hs : SteV P X Next o a w) (hR : Reg a N l) (hd : o.dst = some d) (ho : o.op = .indexAddr t x y) (hx : ev l x = some (.pointer (some ⟨g, 0, none⟩))) (hy : ev l y = some (.int ki p))
    (ht : P.underlying t = some (.array n e)) (hsz : (P.info? e).map (·.size) = some size) (hp : p = (i : Int)) (hi : i < n) (hj : i * size = j) (hdN : d < N)
    (k : ∀ a', Reg a' N ((d, .pointer (eP (some ⟨g, 0, none⟩) j)) :: l) → Next a' w) : X := by
  subst hj
  subst hp
  cases hq : P.info? e with
  | none => simp [hq] at hsz
  | some inf =>
    have hii : inf.size = size := by simpa [hq] using hsz
    refine r_pure hs hR hd hdN ?_ k
    unfold execOp; rw [ho]
    simp [hR.ev hx, hR.ev hy, Instr.indexAt, Instr.sureAddr, asIntOf, run_underlying ht, hi, sizeOf, typeInfo, hq, hii, eP]

theorem run_sliceAt {t e : TypeId} {size n cap k m : Nat} {kd kd' : IntKind} {A : Option Addr} {w : World} (lo hi : Option Value) (ht : P.underlying t = some (.slice e)) (hs : (P.info? e).map (·.size) = some size) (hk : k ≤ m) (hm : m ≤ cap)
    (hlo : lo = some (.int kd (k : Int)) ∨ lo = none ∧ k = 0) (hhi : hi = some (.int kd' (m : Int)) ∨ hi = none ∧ m = n) :
    (Instr.sliceAt t (.slice A n cap) lo hi none).run P w = .ok (.slice (if cap = k then A else A.map (·.add (k * size))) (m - k) (cap - k)) w := by
  cases hq : P.info? e with
  | none => simp [hq] at hs
  | some i =>
    have hsz : i.size = size := by simpa [hq] using hs
    rcases hlo with rfl | ⟨rfl, rfl⟩ <;> rcases hhi with rfl | ⟨rfl, rfl⟩ <;>
      simp [Instr.sliceAt, Instr.slice, Instr.sliceBounds, Instr.sliceBound, asIntOf, run_underlying ht, sizeOf, typeInfo, hq, hsz, hk, hm]
/-- A slice is cut. -/
theorem m_slice {t e : TypeId} {x : Operand} {lo hi : Option Operand} {vlo vhi : Option Value} {A : Option Addr} {n cap size : Nat} {kd kd' : IntKind} {xs : List Value} {I : Nat → Prop} (hs : SteV P X Next o a w) (hR : Reg a N l) (hd : o.dst = some d)
    (ho : o.op = .slice t x lo hi none) (hx : ev l x = some (.slice A n cap)) (hvlo : lo.map (ev l) = vlo.map some) (hvhi : hi.map (ev l) = vhi.map some) (k q : Nat)
    (hlo : vlo = some (.int kd (k : Int)) ∨ vlo = none ∧ k = 0) (hhi : vhi = some (.int kd' ((k + q : Nat) : Int)) ∨ vhi = none ∧ k + q = n)
    (hrow : RowI w I size A n xs) (ht : P.underlying t = some (.slice e)) (hsz : (P.info? e).map (·.size) = some size) (hm : k + q ≤ n) (hc : n ≤ cap) (hdN : d < N)
    (kk : ∀ a' A' c', q ≤ c' → RowI w I size A' q ((xs.drop (k * size)).take (q * size)) → Reg a' N ((d, .slice A' q c') :: l) → Next a' w) : X := by
  have hr := (hrow.from_ (k := k) (by omega) hc).take (k := q) (by omega)
  have hl : lo.map a.eval = vlo := by
    cases lo <;> cases vlo <;> simp_all
    exact hR.ev hvlo
  have hh : hi.map a.eval = vhi := by
    cases hi <;> cases vhi <;> simp_all
    exact hR.ev hvhi
  have hrun := run_sliceAt (P := P) (w := w) (A := A) (n := n) (cap := cap) (k := k) (m := k + q) (kd := kd) (kd' := kd') vlo vhi ht hsz (by omega) (by omega) hlo hhi
  rw [show k + q - k = q by omega] at hrun
  refine r_pure hs hR hd hdN ?_ (fun a' hR' => kk a' _ (cap - k) (by omega) hr hR')
  unfold execOp; rw [ho]
  simp only [hR.ev hx, hl, hh, Option.map_none, Sem.run_bind, hrun, Result.andThen_ok, Sem.run_pure]
end
end Go.Proofs.YtobgdeffhdefeaaDoor
/- The operations, one rule each: what makes rows; pieces of code. -/
namespace Go.Proofs.YtobgdeffhdefeaaDoor
set_option linter.unusedSimpArgs false
set_option linter.unusedVariables false
open Go.RowKit

section
variable {P : Program} {X : Prop} {Next : Act → World → Prop} {o : Oper} {a : Act} {w w0 : World} {N : Nat} {l : List (Nat × Value)} {d : Nat} {Z M : Nat → Prop} {m : List Res} {ds : List Dat}

/-- The operands of a literal's parts. -/
def evp (l : List (Nat × Value)) : List (Nat × Operand) → Option (List (Nat × Value))
  | [] => some []
  | (i, x) :: xs => match ev l x, evp l xs with
    | some v, some vs => some ((i, v) :: vs)
    | _, _ => none
theorem Reg.evp (h : Reg a N l) : ∀ {ps : List (Nat × Operand)} {vs : List (Nat × Value)}, evp l ps = some vs → ps.map (fun (i, x) => (i, a.eval x)) = vs
  | [], vs, hx => by simpa [YtobgdeffhdefeaaDoor.evp] using hx
  | (i, x) :: xs, vs, hx => by
    simp only [YtobgdeffhdefeaaDoor.evp] at hx
    cases h1 : YtobgdeffhdefeaaDoor.ev l x with
    | none => simp [h1] at hx
    | some v =>
      cases h2 : YtobgdeffhdefeaaDoor.evp l xs with
      | none => simp [h1, h2] at hx
      | some us =>
        simp only [h1, h2] at hx
        obtain rfl := Option.some.inj hx
        rw [List.map_cons, h.evp h2]
        simp only [h.ev h1]

/-- A struct is built. -/
theorem m_build {t : TypeId} {ps : List (Nat × Operand)} {vs : List (Nat × Value)} {v : Value} (hs : SteV P X Next o a w) (hR : Reg a N l) (hd : o.dst = some d) (ho : o.op = .build t ps.toArray) (hx : evp l ps = some vs)
    (hrun : ∀ w, (Instr.build t vs.toArray).run P w = .ok v w) (hdN : d < N) (k : ∀ a', Reg a' N ((d, v) :: l) → Next a' w) : X := by
  refine r_pure hs hR hd hdN ?_ k
  have hm : ps.toArray.map (fun (i, x) => (i, a.eval x)) = vs.toArray := by
    rw [← hR.evp hx]; simp
  unfold execOp; rw [ho]
  simp only [hm, Sem.run_bind, hrun, Result.andThen_ok, Sem.run_pure]
/-- A part of a struct's value. -/
theorem m_fieldV {t : TypeId} {x : Operand} {f : Nat} {v u : Value} (hs : SteV P X Next o a w) (hR : Reg a N l) (hd : o.dst = some d) (ho : o.op = .field t x f) (hx : ev l x = some u)
    (hrun : ∀ w, (Instr.field t u f).run P w = .ok v w) (hdN : d < N) (k : ∀ a', Reg a' N ((d, v) :: l) → Next a' w) : X := by
  refine r_pure hs hR hd hdN ?_ k
  unfold execOp; rw [ho]
  simp only [hR.ev hx, Sem.run_bind, hrun, Result.andThen_ok, Sem.run_pure]

theorem ownsRow_new (w : World) (e size n : Nat) (cs : List Value) (hl : cs.length = n * size) (hn : n ≤ maxLen) : (w.alloc (.cells cs.toArray e)).ownsRow 0 e size (.slice (some ⟨w.heap.size, 0, none⟩) n n) n cs :=
  ⟨hl, .inr ⟨w.heap.size, n, cs.toArray, rfl, Nat.zero_le _, heap_alloc_new w _, Nat.le_refl _, hn, by simpa using hl, by simp [← hl]⟩⟩

/-- A slice is built of its elements. -/
theorem m_buildSlice {t e : TypeId} {n size : Nat} {ps : List (Nat × Operand)} {vs : List (Nat × Value)} {z : Value} {bytes : Nat} {cs : List Value} (hs : SteV P X Next o a w) (hR : Reg a N l) (hS : St w0 Z M w m ds) (hd : o.dst = some d) (ho : o.op = .buildSlice t n ps.toArray) (hx : evp l ps = some vs)
    (ht : P.underlying t = some (.slice e)) (hi : (P.info? e).map (fun i => (i.zero, i.size, i.bytes)) = some (some z, size, bytes)) (hn : decide (n * size ≤ 1000000) = true) (hn1 : decide (n ≤ 1000000) = true)
    (hf : Instr.fill (fun i => some (i * size, size)) ((Array.range (n * size)).map fun i => (if n * size = 0 then #[] else z.cells)[i % (if n * size = 0 then (#[] : Array Value) else z.cells).size]!) vs = some cs.toArray) (hl : (cs.length == n * size) = true) (hdN : d < N)
    (k : ∀ a' w' g, Reg a' N ((d, .slice (some ⟨g, 0, none⟩) n n) :: l) → St w0 Z M w' (m ++ [.row (some ⟨g, 0, none⟩) n n e size cs]) ds → Next a' w') : X := by
  have hn' : n * size ≤ 1000000 := by simpa using hn
  have hn1' : n ≤ 1000000 := by simpa using hn1
  have hl' : cs.length = n * size := by simpa using hl
  cases hq : P.info? e with
  | none => simp [hq] at hi
  | some inf =>
    simp only [hq, Option.map_some, Option.some.injEq, Prod.mk.injEq] at hi
    obtain ⟨hz, hsz, hby⟩ := hi
    have hm : ps.toArray.map (fun (i, x) => (i, a.eval x)) = vs.toArray := by
      rw [← hR.evp hx]; simp
    refine hs.val (.slice (some ⟨w.heap.size, 0, none⟩) n n) (w.alloc (.cells cs.toArray e)) ?_ ?_
    · unfold execOp; rw [ho]
      have h24 : ¬ n * size > 2 ^ 24 := by omega
      simp only [hm, Instr.buildSlice, Sem.run_bind, run_underlying ht, Result.andThen_ok, sizeOf, typeInfo, hq, hsz, Sem.run_pure, program, Sem.run, h24, ↓reduceIte]
      by_cases h0 : n * size = 0
      · simp only [h0, ↓reduceIte] at hf ⊢
        simp only [Sem.run_bind, Sem.run_pure, Result.andThen_ok, hf]
        rfl
      · simp only [h0, ↓reduceIte] at hf ⊢
        simp [zeroValue, typeInfo, hq, hz, hf, newRow, newObj]; rfl
    · rw [hd]
      exact k _ _ _ (hR.put hdN _) (hS.alloc (.row (some ⟨w.heap.size, 0, none⟩) n n e size cs) _ (ownsRow_new w e size n cs hl' (by unfold maxLen; omega)) rfl)

/-- A slice that was made: so many zeros. -/
theorem m_makeSlice {t e : TypeId} {n size : Nat} {x y : Operand} {p q : Int} {kx ky : IntKind} {z : Value} {bytes : Nat} (hs : SteV P X Next o a w) (hR : Reg a N l) (hS : St w0 Z M w m ds) (hd : o.dst = some d) (ho : o.op = .makeSlice t x y) (hx : ev l x = some (.int kx p)) (hy : ev l y = some (.int ky q))
    (hp : p = (n : Int)) (hq' : q = (n : Int)) (ht : P.underlying t = some (.slice e)) (hi : (P.info? e).map (fun i => (i.zero, i.size, i.bytes)) = some (some z, size, bytes)) (hzs : z.cells.size = size) (hsz1 : (size == 1) = true) (hby : decide (bytes ≤ 1000) = true) (hn : n ≤ 1000000) (hdN : d < N)
    (k : ∀ a' w' g, Reg a' N ((d, .slice (some ⟨g, 0, none⟩) n n) :: l) → St w0 Z M w' (m ++ [.row (some ⟨g, 0, none⟩) n n e size (List.replicate n (z.cells.getD 0 undef))]) ds → Next a' w') : X := by
  subst hp
  subst hq'
  have hby' : bytes ≤ 1000 := by simpa using hby
  have hs1 : size = 1 := by simpa using hsz1
  cases hq : P.info? e with
  | none => simp [hq] at hi
  | some inf =>
    simp only [hq, Option.map_some, Option.some.injEq, Prod.mk.injEq] at hi
    obtain ⟨hz, hsz, hbb⟩ := hi
    have hb2 : (inf.bytes : Int) * (n : Int) ≤ 281474976710656 := by
      have h1 : inf.bytes * n ≤ 1000 * 1000000 := Nat.mul_le_mul (by omega) hn
      have h : ((inf.bytes * n : Nat) : Int) ≤ 281474976710656 := by omega
      rwa [Int.natCast_mul] at h
    have hr := run_make (P := P) w t e inf z ht hq hz kx ky n n (by omega) (by omega) hb2 (by omega)
    simp only [Int.toNat_natCast] at hr
    refine hs.val (.slice (some ⟨w.heap.size, 0, none⟩) n n) (w.alloc (.cells (madeCells z.cells (n * inf.size)) e)) ?_ ?_
    · unfold execOp; rw [ho]
      simp only [hR.ev hx, hR.ev hy, Sem.run_bind, hr, Result.andThen_ok, Sem.run_pure]
    · rw [hd]
      have hcells : madeCells z.cells (n * inf.size) = (List.replicate n (z.cells.getD 0 undef)).toArray := by
        have hz1 : z.cells = #[z.cells.getD 0 undef] := by
          have h1 : z.cells.size = 1 := by omega
          apply Array.ext
          · simpa using h1
          · intro i h2 h3
            have : i = 0 := by omega
            subst this
            simp [Array.getD, h1]
        rw [hsz, hs1, Nat.mul_one]
        conv => lhs; rw [hz1]
        apply Array.toList_inj.1
        rw [toList_madeCells_one]
      rw [hcells]
      refine k _ _ _ (hR.put hdN _) (hS.alloc (.row (some ⟨w.heap.size, 0, none⟩) n n e size _) _ (ownsRow_new w e size n _ (by simp [hs1]) (by unfold maxLen; omega)) rfl)

/-- What is appended: cells that lie somewhere. -/
theorem run_append_any' (base : Nat) (t ty e : TypeId) (i : TypeInfo) (z : Value) (size bytes : Nat) (ht : P.underlying t = some (.slice e)) (hi : P.info? e = some i) (hz : i.zero = some z)
    (hsize : i.size = size) (hby : i.bytes = bytes) (hzs : z.cells.size = size) (hsz : 0 < size)
    (v : Value) (n : Nat) (xs : List Value) (hown : w.ownsRow base e size v n xs)
    (A : Option Addr) (q c : Nat) (news : List Value) (hl : news.length = q * size) (hr : 0 < q → ∃ ad, A = some ad ∧ CellsAt w ad news) (h1 : ∀ u ∈ news, u.oneCell' = true)
    (h63 : n + q ≤ maxLen) (hbytes : (n + q) * bytes ≤ 140737488355328) (hbase : base ≤ w.heap.size) :
    ∃ v' w', (Builtin.append_ #[t, t] ty #[v, .slice A q c]).run P w = .ok v' w' ∧ w'.ownsRow base e size v' (n + q) (xs ++ news) ∧ w.grownBy w' v.ownBlock ∧
      (v'.ownBlock = v.ownBlock ∨ v'.ownBlock = some w.heap.size) := by
  by_cases hq : q = 0
  · subst hq
    have hn : news = [] := List.eq_nil_of_length_eq_zero (by simpa using hl)
    subst hn
    rcases A with _ | ad
    · refine ⟨v, w, ?_, by simpa using hown, World.grownBy.refl w _, .inl rfl⟩
      rcases hown.2 with ⟨rfl, rfl⟩ | ⟨g, cap, cur, rfl, _, _, hnc, _⟩
      · simp [Builtin.append_, run_underlying ht, sizeOf, typeInfo, hi, Builtin.lenOf, Builtin.firstCells]
      · simp [Builtin.append_, run_underlying ht, sizeOf, typeInfo, hi, Builtin.lenOf, Builtin.firstCells, hnc, storeCells]
    · obtain ⟨v', w', hrun, h2, h3, _, h5⟩ := run_append_own_at (P := P) w base t ty e i z size bytes ht hi hz hsize hby hzs hsz v n xs hown ad 0 c [] hl (by simp) h1 h63 hbytes hbase
      exact ⟨v', w', hrun, h2, h3, h5⟩
  · obtain ⟨ad, rfl, hc⟩ := hr (by omega)
    obtain ⟨v', w', hrun, h2, h3, _, h5⟩ := run_append_own_at (P := P) w base t ty e i z size bytes ht hi hz hsize hby hzs hsz v n xs hown ad q c news hl hc h1 h63 hbytes hbase
    exact ⟨v', w', hrun, h2, h3, h5⟩

theorem own_blk {w : World} {e size n cap : Nat} {A : Option Addr} {xs : List Value} (h : w.ownsRow 0 e size (.slice A n cap) n xs) : (Value.slice A n cap).ownBlock = (Res.row A n cap e size xs).blk := by
  cases A <;> rfl

/-- An append onto a row of the call's own (or onto its front). -/
theorem m_append {t e : TypeId} {x y : Operand} {A A2 : Option Addr} {n n0 cap q c2 size bytes i : Nat} {xs news : List Value} {z : Value} (hs : SteV P X Next o a w) (hR : Reg a N l) (hS : St w0 Z M w m ds) (hd : o.dst = some d)
    (ho : o.op = .call { callee := .builtin .append, args := #[x, y], argTypes := #[t, t] }) (hx : ev l x = some (.slice A n cap)) (hy : ev l y = some (.slice A2 q c2)) (hi : m[i]? = some (.row A n0 cap e size xs)) (hn : n ≤ n0)
    (ht : P.underlying t = some (.slice e)) (hinf : (P.info? e).map (fun i => (i.zero, i.size, i.bytes)) = some (some z, size, bytes)) (hzs : (z.cells.size == size) = true) (hsz : (size == 0) = false)
    (hl : news.length = q * size) (hr : 0 < q → ∃ ad, A2 = some ad ∧ CellsAt w ad news) (h1 : ∀ u ∈ news, u.oneCell' = true) (hby : decide (bytes ≤ 1000) = true) (hb : n + q ≤ 100000000) (hdN : d < N)
    (k : ∀ a' w' A' cap', n + q ≤ cap' → Reg a' N ((d, .slice A' (n + q) cap') :: l) → St w0 Z M w' (m.set i (.row A' (n + q) cap' e size (xs.take (n * size) ++ news))) ds → Next a' w') : X := by
  have hzs' : z.cells.size = size := by simpa using hzs
  have hsz' : size ≠ 0 := by simpa using hsz
  have hby' : bytes ≤ 1000 := by simpa using hby
  cases hq : P.info? e with
  | none => simp [hq] at hinf
  | some inf =>
    simp only [hq, Option.map_some, Option.some.injEq, Prod.mk.injEq] at hinf
    obtain ⟨hz, hs2, hb2⟩ := hinf
    have hown0 : w.ownsRow 0 e size (.slice A n0 cap) n0 xs := hS.res hi
    have hown := own_take hown0 hn
    have hbytes : (n + q) * bytes ≤ 140737488355328 := by
      have : (n + q) * bytes ≤ 100000000 * 1000 := Nat.mul_le_mul hb hby'
      omega
    obtain ⟨v', w', hrun, h2, h3, h4⟩ := run_append_any' (P := P) (w := w) 0 t o.type e inf z size bytes ht hq hz hs2 hb2 hzs' (by omega) (.slice A n cap) n (xs.take (n * size)) hown A2 q c2 news hl hr h1 (by unfold maxLen; omega) hbytes (Nat.zero_le _)
    obtain ⟨A', cap', rfl, hcap, h2'⟩ := own_form h2
    refine hs.val (.slice A' (n + q) cap') w' ?_ ?_
    · unfold execOp; rw [ho]
      simp only [resolve, invoke, builtin, Sem.run_bind, Sem.run_pure, Result.andThen_ok, List.map_toArray, List.map_cons, List.map_nil, hR.ev hx, hR.ev hy, hrun]
    · rw [hd]
      refine k _ _ _ _ hcap (hR.put hdN _) (hS.turn hi h3.os h3.tape h3.output h3.size (fun k' hk' hne => h3.block k' hk' ?_) h2' (fun k' hk' => ?_))
      · intro e'
        refine hne ?_
        cases A with
        | none => cases e'
        | some ad => rw [e']; rfl
      · have hown' : (Value.slice A' (n + q) cap').ownBlock = some k' := by
          cases A' with
          | none => cases hk'
          | some ad => exact hk'
        refine ⟨(h2.lt k' hown').2, ?_⟩
        rcases h4 with h4 | h4
        · left
          rw [h4] at hown'
          cases A with
          | none => cases hown'
          | some ad => exact hown'
        · right
          rw [hown'] at h4
          have := Option.some.inj h4
          omega
end

/-! ### Pieces of code -/
section
variable {P : Program} {Q : Exit → Act → World → Prop} {a : Act} {w : World} {N : Nat} {l : List (Nat × Value)}
theorem c_cond {c : Operand} {x y : Code} {b : Bool} (hR : Reg a N l) (hc : ev l c = some (.bool b)) (ht : b = true → x.wp P Q a w) (hf : b = false → y.wp P Q a w) : (Code.cond c x y).wp P Q a w :=
  wp_cond (hR.ev hc) (by cases b with | true => exact ht rfl | false => exact hf rfl)
theorem c_region {id : Nat} {ls : List Oper} (h : wpList P ls.toArray Q ls a w) : (Code.region id ls.toArray false).wp P Q a w := wp_region_lit h
theorem c_loop {c : Code} {α : Type} (I : α → Act → World → Prop) (μ : α → Nat) (x0 : α) (h0 : I x0 a w)
    (h : ∀ x a w, I x a w → c.wp P (Exit.then (fun a' w' => ∃ x', I x' a' w' ∧ μ x' < μ x) Q) a w) : (Code.loop c).wp P Q a w := by
  refine wp_loop_ghost (fun n a w => ∃ x, μ x = n ∧ I x a w) (μ x0) ⟨x0, rfl, h0⟩ fun n a w ⟨x, hx, hi⟩ => wp_mono (h x a w hi) fun e a2 w2 he => ?_
  cases e with
  | normal =>
    obtain ⟨x', hi', hlt⟩ := he
    exact ⟨μ x', by omega, x', rfl, hi'⟩
  | _ => exact he
end
end Go.Proofs.YtobgdeffhdefeaaDoor
/- Terms as lists of nodes, and as trees. -/
namespace Go.Proofs.YtobgdeffhdefeaaDoor
set_option linter.unusedSimpArgs false
set_option linter.unusedVariables false
/-- A node. -/
structure Nd where
  K : Int
  N : Int
  M : Int
  S : ByteArray
  deriving DecidableEq

def letter (c : UInt8) : Bool := (97 ≤ c && c ≤ 122) || (65 ≤ c && c ≤ 90) || c == 95
def digit (c : UInt8) : Bool := 48 ≤ c && c ≤ 57
def nameOk (s : ByteArray) : Bool :=
  match s.data.toList with
  | [] => false
  | c :: r => decide (s.size ≤ 16) && letter c && r.all fun c => letter c || digit c

/-- The shape of a kind: its binders, and which fields it has. -/
structure Shp where
  b : List Int
  n : Bool
  m : Bool
  s : Bool
  deriving DecidableEq

def shp : Nat → Shp
  | 0 => ⟨[], true, false, false⟩
  | 1 => ⟨[], false, false, true⟩
  | 2 => ⟨[], true, false, false⟩
  | 3 => ⟨[0, 1], true, false, false⟩
  | 4 => ⟨[0, 1], false, false, false⟩
  | 5 => ⟨[0, 0], false, false, false⟩
  | 6 => ⟨[0, 1], true, false, false⟩
  | 7 => ⟨[0, 0, 0], false, false, false⟩
  | 8 => ⟨[0], false, false, false⟩
  | 9 => ⟨[0], false, false, false⟩
  | 10 => ⟨[], false, false, false⟩
  | 11 => ⟨[], false, false, false⟩
  | 12 => ⟨[0], false, false, false⟩
  | 13 => ⟨[1, 0, 2, 0], false, false, false⟩
  | 14 => ⟨[], false, false, false⟩
  | 15 => ⟨[0, 0], false, false, false⟩
  | 16 => ⟨[], false, false, false⟩
  | 17 => ⟨[], false, false, false⟩
  | 18 => ⟨[0, 0, 0], false, false, false⟩
  | 19 => ⟨[0, 0], false, false, false⟩
  | 20 => ⟨[0, 0, 0, 0], false, false, false⟩
  | 21 => ⟨[0, 0, 1, 0, 0, 0], false, false, false⟩
  | 22 => ⟨[0, 2, 0, 0, 0], false, false, false⟩
  | 23 => ⟨[0, 0], false, false, false⟩
  | 24 => ⟨[0, 1, 0, 0], false, false, false⟩
  | 25 => ⟨[], false, false, true⟩
  | 26 => ⟨[], true, true, true⟩
  | 27 => ⟨[], false, true, true⟩
  | 28 => ⟨[0], false, false, false⟩
  | _ => ⟨[], false, false, false⟩

/-- The most that N may be. -/
def most (k : Int) : Int := if k = 0 then 99 else if k = 3 ∨ k = 6 then 3 else 5

/-- Are a node's fields right? -/
def right (n : Nd) : Bool :=
  decide (0 ≤ n.K) && decide (n.K < 30) &&
  (let x := shp n.K.toNat
   (if x.n then decide (0 ≤ n.N) && decide (n.N ≤ if n.K = 2 then 9 else most n.K) else n.N == 0) &&
   (if x.m then decide (0 ≤ n.M) && decide (n.M ≤ 6) else n.M == 0) &&
   (if x.s then nameOk n.S else n.S.size == 0))

/-- The binders of a node's parts. -/
def binds (n : Nd) : List Int :=
  if n.K = 26 then List.replicate n.M.toNat 0
  else if n.K = 27 then 1 :: List.replicate (n.M.toNat + 1) 0
  else (shp n.K.toNat).b

def many (n : Nd) : Nat := (binds n).length

inductive T where
  | mk (n : Nd) (l : List T)

def T.root : T → Nd
  | .mk n _ => n
def T.args : T → List T
  | .mk _ l => l

mutual
def T.flat : T → List Nd
  | .mk n l => T.flats l ++ [n]
def T.flats : List T → List Nd
  | [] => []
  | t :: l => t.flat ++ T.flats l
end

mutual
def T.wf : T → Bool
  | .mk n l => right n && many n == l.length && T.wfs l
def T.wfs : List T → Bool
  | [] => true
  | t :: l => t.wf && T.wfs l
end

mutual
def T.deep : T → Nat
  | .mk _ l => T.deeps l + 1
def T.deeps : List T → Nat
  | [] => 0
  | t :: l => max t.deep (T.deeps l)
end

theorem T.flat_mk (n : Nd) (l : List T) : (T.mk n l).flat = T.flats l ++ [n] := by simp [T.flat]
theorem T.flats_nil : T.flats [] = [] := by simp [T.flats]
theorem T.flats_cons (t : T) (l : List T) : T.flats (t :: l) = t.flat ++ T.flats l := by simp [T.flats]
theorem T.flats_append (a b : List T) : T.flats (a ++ b) = T.flats a ++ T.flats b := by
  induction a with
  | nil => simp [T.flats]
  | cons t a ih => simp [T.flats, ih]
theorem T.flats_one (t : T) : T.flats [t] = t.flat := by simp [T.flats]
theorem T.wfs_append (a b : List T) : T.wfs (a ++ b) = (T.wfs a && T.wfs b) := by
  induction a with
  | nil => simp [T.wfs]
  | cons t a ih => simp [T.wfs, ih, Bool.and_assoc]
theorem T.wf_mk (n : Nd) (l : List T) : (T.mk n l).wf = (right n && many n == l.length && T.wfs l) := by simp [T.wf]
theorem T.flat_ne (t : T) : t.flat ≠ [] := by cases t; simp [T.flat]
theorem T.flat_pos (t : T) : 0 < t.flat.length := by cases t; simp [T.flat]
theorem T.flat_last (t : T) (h) : t.flat.getLast h = t.root := by cases t; simp [T.flat, T.root]
theorem T.wfs_iff (l : List T) : T.wfs l = true ↔ ∀ t ∈ l, t.wf = true := by
  induction l with
  | nil => simp [T.wfs]
  | cons t l ih => simp [T.wfs, ih]

/-- One node more on a stack of trees. -/
def pushT (st : List T) (n : Nd) : Option (List T) :=
  if right n && decide (many n ≤ st.length) then
    some (st.take (st.length - many n) ++ [T.mk n (st.drop (st.length - many n))])
  else none

def scanT (st : List T) : List Nd → Option (List T)
  | [] => some st
  | n :: t => match pushT st n with
    | some st' => scanT st' t
    | none => none

theorem scanT_append (st : List T) (a b : List Nd) : scanT st (a ++ b) = (scanT st a).bind fun s => scanT s b := by
  induction a generalizing st with
  | nil => simp [scanT]
  | cons n a ih =>
    simp only [List.cons_append, scanT]
    cases pushT st n with
    | none => simp
    | some s => simp [ih]

theorem pushT_flat {st st' : List T} {n : Nd} (h : pushT st n = some st') (hw : T.wfs st = true) : T.flats st' = T.flats st ++ [n] ∧ T.wfs st' = true := by
  unfold pushT at h
  split at h
  · rename_i hc
    simp only [Bool.and_eq_true, decide_eq_true_eq] at hc
    obtain rfl := Option.some.inj h
    have hsplit : st = st.take (st.length - many n) ++ st.drop (st.length - many n) := (List.take_append_drop _ _).symm
    have hw' := hw
    rw [hsplit, T.wfs_append] at hw'
    simp only [Bool.and_eq_true] at hw'
    constructor
    · rw [T.flats_append, T.flats_one, T.flat_mk, ← List.append_assoc, ← T.flats_append, List.take_append_drop]
    · rw [T.wfs_append]
      simp only [T.wfs, T.wf_mk, Bool.and_true, Bool.and_eq_true, beq_iff_eq]
      exact ⟨hw'.1, ⟨hc.1, by rw [List.length_drop]; omega⟩, hw'.2⟩
  · cases h

theorem scanT_flat {st st' : List T} {t : List Nd} (h : scanT st t = some st') (hw : T.wfs st = true) : T.flats st' = T.flats st ++ t ∧ T.wfs st' = true := by
  induction t generalizing st with
  | nil => simp only [scanT] at h; obtain rfl := Option.some.inj h; simp [hw]
  | cons n t ih =>
    simp only [scanT] at h
    cases hp : pushT st n with
    | none => simp [hp] at h
    | some s =>
      simp only [hp] at h
      obtain ⟨h1, h2⟩ := pushT_flat hp hw
      obtain ⟨h3, h4⟩ := ih h h2
      exact ⟨by rw [h3, h1]; simp, h4⟩

theorem pushT_mk (st l : List T) (n : Nd) (h : (T.mk n l).wf = true) : pushT (st ++ l) n = some (st ++ [T.mk n l]) := by
  rw [T.wf_mk] at h
  simp only [Bool.and_eq_true, beq_iff_eq] at h
  unfold pushT
  have hl : (st ++ l).length - many n = st.length := by rw [List.length_append]; omega
  rw [if_pos (by simp only [Bool.and_eq_true, decide_eq_true_eq]; exact ⟨h.1.1, by rw [List.length_append]; omega⟩), hl]
  simp

mutual
theorem scanT_tree (st : List T) : ∀ t : T, t.wf = true → scanT st t.flat = some (st ++ [t])
  | .mk n l, h => by
    have h' := h
    rw [T.wf_mk] at h'
    simp only [Bool.and_eq_true] at h'
    rw [T.flat_mk, scanT_append, scanT_trees st l h'.2]
    simp only [Option.bind_some, scanT, pushT_mk st l n h]
theorem scanT_trees (st : List T) : ∀ l : List T, T.wfs l = true → scanT st (T.flats l) = some (st ++ l)
  | [], _ => by simp [T.flats, scanT]
  | t :: l, h => by
    simp only [T.wfs, Bool.and_eq_true] at h
    rw [T.flats_cons, scanT_append, scanT_tree st t h.1]
    simp only [Option.bind_some]
    rw [scanT_trees (st ++ [t]) l h.2]
    simp
end

/-- Two forests of one list of nodes are one. -/
theorem flats_inj {a b : List T} (ha : T.wfs a = true) (hb : T.wfs b = true) (h : T.flats a = T.flats b) : a = b := by
  have h1 := scanT_trees [] a ha
  rw [h, scanT_trees [] b hb] at h1
  simpa using h1.symm
theorem flat_inj {a b : T} (ha : a.wf = true) (hb : b.wf = true) (h : a.flat = b.flat) : a = b := by
  have := flats_inj (a := [a]) (b := [b]) (by simpa [T.wfs] using ha) (by simpa [T.wfs] using hb) (by simpa [T.flats] using h)
  simpa using this

/-- The errors by their numbers. -/
abbrev OKe : Int := 0

/-- What is said of a list of nodes: its error. -/
def chk (t : List Nd) : Int :=
  if t.length > 4000 then 21 else
  match scanT [] t with
  | some [x] => if x.deep > 60 then 22 else 0
  | _ => 20

theorem chk_tree {x : T} (h : x.wf = true) : chk x.flat = if x.flat.length > 4000 then 21 else if x.deep > 60 then 22 else 0 := by
  unfold chk
  rw [scanT_tree [] x h]
  rfl

/-- A list of nodes that is a term. -/
theorem chk_ok {t : List Nd} : chk t = 0 ↔ ∃ x : T, x.wf = true ∧ x.flat = t ∧ t.length ≤ 4000 ∧ x.deep ≤ 60 := by
  constructor
  · intro h
    unfold chk at h
    split at h
    · cases h
    · rename_i hl
      split at h
      · rename_i x hs
        split at h
        · cases h
        · rename_i hd
          have := scanT_flat hs (by simp [T.wfs])
          simp [T.flats, T.wfs] at this
          exact ⟨x, this.2, this.1, by omega, by omega⟩
      · cases h
  · rintro ⟨x, hw, rfl, hl, hd⟩
    rw [chk_tree hw]
    rw [if_neg (by omega), if_neg (by omega)]

theorem flats_len_ge (l : List T) : l.length ≤ (T.flats l).length := by
  induction l with
  | nil => simp
  | cons t l ih => rw [T.flats_cons, List.length_append, List.length_cons]; have := T.flat_pos t; omega
theorem scanT_len {st : List T} {t : List Nd} (h : scanT [] t = some st) : st.length ≤ t.length := by
  have := (scanT_flat h (by simp [T.wfs])).1
  simp [T.flats_nil] at this
  rw [← this]
  exact flats_len_ge st

theorem right_K {n : Nd} (h : right n = true) : 0 ≤ n.K ∧ n.K < 30 := by
  unfold right at h
  simp only [Bool.and_eq_true, decide_eq_true_eq] at h
  exact h.1
theorem right_con {n : Nd} (h : right n = true) (hk : n.K = 26) : 0 ≤ n.N ∧ n.N ≤ 5 ∧ 0 ≤ n.M ∧ n.M ≤ 6 := by
  unfold right at h
  rw [hk] at h
  simp [shp, most] at h
  omega
theorem right_elim {n : Nd} (h : right n = true) (hk : n.K = 27) : 0 ≤ n.M ∧ n.M ≤ 6 := by
  unfold right at h
  rw [hk] at h
  simp [shp] at h
  omega
theorem many_con {n : Nd} (h : right n = true) (hk : n.K = 26) : n.M = ((many n : Nat) : Int) := by
  have := right_con h hk
  simp [many, binds, hk]
  omega
theorem many_elim {n : Nd} (h : right n = true) (hk : n.K = 27) : n.M + 2 = ((many n : Nat) : Int) := by
  have := right_elim h hk
  simp [many, binds, hk]
  omega
theorem many_oth {n : Nd} (h1 : ¬ n.K = 26) (h2 : ¬ n.K = 27) : (((shp n.K.toNat).b.length : Nat) : Int) = ((many n : Nat) : Int) := by
  simp [many, binds, h1, h2]
theorem shp_le (k : Nat) : (shp k).b.length ≤ 6 := by
  unfold shp
  split <;> simp
theorem many_le {n : Nd} (h : right n = true) : many n ≤ 8 := by
  by_cases h1 : n.K = 26
  · have := many_con h h1; have := right_con h h1; omega
  · by_cases h2 : n.K = 27
    · have := many_elim h h2; have := right_elim h h2; omega
    · have := many_oth h1 h2; have := shp_le n.K.toNat; omega
end Go.Proofs.YtobgdeffhdefeaaDoor
/- Kinds of data; how a call begins and ends. -/
namespace Go.Proofs.YtobgdeffhdefeaaDoor
set_option linter.unusedSimpArgs false
set_option linter.unusedVariables false
open Go.RowKit

/-! ### Data -/
/-- A slice of cells. -/
def dRow (size : Nat) (A : Option Addr) (n cap : Nat) (xs : List Value) : Dat :=
  ⟨fun w I => n ≤ cap ∧ RowI w I size A n xs, fun _ _ _ _ _ h hk => ⟨h.1, h.2.mono hk⟩⟩

def ndz : Nd := ⟨0, 0, 0, .empty⟩
def nth (t : List Nd) (k : Nat) : Nd := t.getD k ndz
def encN (n : Nd) : List Value := [.int .i64 n.K, .int .i64 n.N, .int .i64 n.M, .string n.S]
def encNs (l : List Nd) : List Value := l.flatMap encN
def encI (n : Int) : List Value := [.int .i64 n]
def encIs (l : List Int) : List Value := l.flatMap encI
def nthI (t : List Int) (k : Nat) : Int := t.getD k 0
def encM (p : Int × Int) : List Value := [.int .i64 p.1, .int .i64 p.2]
def encMs (l : List (Int × Int)) : List Value := l.flatMap encM
def nthM (t : List (Int × Int)) (k : Nat) : Int × Int := t.getD k (0, 0)

section
variable {α : Type} {f : α → List Value} {size : Nat}
theorem enc_length (hf : ∀ x, (f x).length = size) (l : List α) : (l.flatMap f).length = l.length * size := by
  induction l with
  | nil => simp
  | cons x l ih => rw [List.flatMap_cons, List.length_append, ih, hf, List.length_cons, Nat.add_mul]; omega
theorem enc_drop (hf : ∀ x, (f x).length = size) (l : List α) (k : Nat) : (l.flatMap f).drop (k * size) = (l.drop k).flatMap f := by
  induction l generalizing k with
  | nil => simp
  | cons x l ih =>
    cases k with
    | zero => simp
    | succ k =>
      rw [List.flatMap_cons, List.drop_succ_cons, Nat.add_mul, Nat.one_mul, Nat.add_comm, ← List.drop_drop, List.drop_left' (hf x), ih]
theorem enc_take (hf : ∀ x, (f x).length = size) (l : List α) (k : Nat) : (l.flatMap f).take (k * size) = (l.take k).flatMap f := by
  induction l generalizing k with
  | nil => simp
  | cons x l ih =>
    cases k with
    | zero => simp
    | succ k =>
      rw [List.flatMap_cons, List.take_succ_cons, List.flatMap_cons, Nat.add_mul, Nat.one_mul, Nat.add_comm, List.take_add, List.take_left' (hf x), List.drop_left' (hf x), ih]
theorem enc_at (hf : ∀ x, (f x).length = size) (l : List α) (k : Nat) (hk : k < l.length) (z : α) : ((l.flatMap f).drop (k * size)).take size = f (l.getD k z) := by
  rw [enc_drop hf, List.drop_eq_getElem_cons hk, List.flatMap_cons, List.take_left' (hf _)]
  simp [hk]
end
theorem encN_len (n : Nd) : (encN n).length = 4 := rfl
theorem encI_len (n : Int) : (encI n).length = 1 := rfl
theorem encM_len (n : Int × Int) : (encM n).length = 2 := rfl
theorem encNs_length (l : List Nd) : (encNs l).length = l.length * 4 := enc_length encN_len l
theorem encIs_length (l : List Int) : (encIs l).length = l.length * 1 := enc_length encI_len l
theorem encMs_length (l : List (Int × Int)) : (encMs l).length = l.length * 2 := enc_length encM_len l
theorem encNs_append (a b : List Nd) : encNs (a ++ b) = encNs a ++ encNs b := by simp [encNs]
theorem encIs_append (a b : List Int) : encIs (a ++ b) = encIs a ++ encIs b := by simp [encIs]
theorem encMs_append (a b : List (Int × Int)) : encMs (a ++ b) = encMs a ++ encMs b := by simp [encMs]
theorem encNs_drop (l : List Nd) (k : Nat) : (encNs l).drop (k * 4) = encNs (l.drop k) := enc_drop encN_len l k
theorem encNs_take (l : List Nd) (k : Nat) : (encNs l).take (k * 4) = encNs (l.take k) := enc_take encN_len l k
theorem encIs_drop (l : List Int) (k : Nat) : (encIs l).drop (k * 1) = encIs (l.drop k) := enc_drop encI_len l k
theorem encIs_take (l : List Int) (k : Nat) : (encIs l).take (k * 1) = encIs (l.take k) := enc_take encI_len l k
theorem encMs_drop (l : List (Int × Int)) (k : Nat) : (encMs l).drop (k * 2) = encMs (l.drop k) := enc_drop encM_len l k
theorem encMs_take (l : List (Int × Int)) (k : Nat) : (encMs l).take (k * 2) = encMs (l.take k) := enc_take encM_len l k
theorem encN_one (l : List Nd) : ∀ u ∈ encNs l, u.oneCell' = true := by
  intro u hu
  obtain ⟨n, _, hn⟩ := List.mem_flatMap.1 hu
  simp [encN] at hn
  rcases hn with rfl | rfl | rfl | rfl <;> rfl
theorem encI_one (l : List Int) : ∀ u ∈ encIs l, u.oneCell' = true := by
  intro u hu
  obtain ⟨n, _, hn⟩ := List.mem_flatMap.1 hu
  simp [encI] at hn
  subst hn
  rfl
theorem encM_one (l : List (Int × Int)) : ∀ u ∈ encMs l, u.oneCell' = true := by
  intro u hu
  obtain ⟨n, _, hn⟩ := List.mem_flatMap.1 hu
  simp [encM] at hn
  rcases hn with rfl | rfl <;> rfl

section
variable {w : World} {I : Nat → Prop} {A : Option Addr} {k n cap e : Nat}
theorem nds_elem {t : List Nd} (h : RowI w I 4 A t.length (encNs t)) (hk : k < t.length) : ElemAt w A (k * 4) (encN (nth t k)) := by
  have := h.elem hk
  rwa [show (encNs t) = t.flatMap encN from rfl, enc_at encN_len t k hk ndz] at this
theorem ints_elem {t : List Int} (h : RowI w I 1 A t.length (encIs t)) (hk : k < t.length) : ElemAt w A (k * 1) (encI (nthI t k)) := by
  have := h.elem hk
  rwa [show (encIs t) = t.flatMap encI from rfl, enc_at encI_len t k hk 0] at this
theorem ms_elem {t : List (Int × Int)} (h : RowI w I 2 A t.length (encMs t)) (hk : k < t.length) : ElemAt w A (k * 2) (encM (nthM t k)) := by
  have := h.elem hk
  rwa [show (encMs t) = t.flatMap encM from rfl, enc_at encM_len t k hk (0, 0)] at this
theorem own_nds {t : List Nd} (h : (Res.row A t.length cap e 4 (encNs t)).holds w) (hk : k < t.length) : ElemAt w A (k * 4) (encN (nth t k)) := by
  have := own_elem h hk
  rwa [show (encNs t) = t.flatMap encN from rfl, enc_at encN_len t k hk ndz] at this
theorem own_ints {t : List Int} (h : (Res.row A t.length cap e 1 (encIs t)).holds w) (hk : k < t.length) : ElemAt w A (k * 1) (encI (nthI t k)) := by
  have := own_elem h hk
  rwa [show (encIs t) = t.flatMap encI from rfl, enc_at encI_len t k hk 0] at this
theorem own_ms {t : List (Int × Int)} (h : (Res.row A t.length cap e 2 (encMs t)).holds w) (hk : k < t.length) : ElemAt w A (k * 2) (encM (nthM t k)) := by
  have := own_elem h hk
  rwa [show (encMs t) = t.flatMap encM from rfl, enc_at encM_len t k hk (0, 0)] at this
theorem ElemAt.some_ {j : Nat} {vs : List Value} (h : ElemAt w A j vs) : A.isSome = true := by
  obtain ⟨ad, rfl, _⟩ := h
  rfl
theorem RowI.news {size : Nat} {xs : List Value} (h : RowI w I size A n xs) : 0 < n → ∃ ad, A = some ad ∧ CellsAt w ad xs := fun hn => by
  obtain ⟨ad, h1, _, h2⟩ := h.2 hn
  exact ⟨ad, h1, h2⟩
end

/-! ### A call -/
def FOK (P : Program) (f : FuncId) : Prop := ∀ args w, (callFunc f args).run P w = .ok (.enter f args) w
theorem fok {P : Program} {f : FuncId} {fn : Func} (hf : P.funcs[f]? = some fn) (hb : fn.body.isNone = false) (hn : (fn.name == "runtime.NumGoroutine") = false) : FOK P f := fun args w => by
  have hn' : fn.name ≠ "runtime.NumGoroutine" := by simpa using hn
  have hb' : fn.body ≠ none := by intro e; rw [e] at hb; cases hb
  simp [callFunc, hf, hn', hb']

def idx : Nat → List Value → List (Nat × Value)
  | _, [] => []
  | k, v :: vs => (k, v) :: idx (k + 1) vs
theorem idx_get : ∀ (vs : List Value) (k i : Nat) (v : Value), (idx k vs).lookup i = some v → k ≤ i ∧ vs[i - k]? = some v
  | [], _, _, _, h => by simp [idx] at h
  | u :: vs, k, i, v, h => by
    simp only [idx, List.lookup] at h
    by_cases hik : i = k
    · subst hik
      simp only [BEq.rfl] at h
      exact ⟨Nat.le_refl _, by simpa using h⟩
    · have : (i == k) = false := by simpa using hik
      simp only [this] at h
      obtain ⟨h1, h2⟩ := idx_get vs (k + 1) i v h
      refine ⟨by omega, ?_⟩
      rw [show i - k = (i - (k + 1)) + 1 by omega]
      simpa using h2
theorem c_enter {P : Program} {f : FuncId} {fn : Func} {c : Code} {vs : List Value} {w : World} {R : Ending → World → Prop} {N : Nat} (hf : P.funcs[f]? = some fn) (hb : fn.body = some c) (hN : fn.ntmps = N) (hsz : (decide (vs.length ≤ N ∧ N ≤ 1000000)) = true)
    (h : ∀ a, Reg a N ((1000000, .bool false) :: idx 0 vs) → c.wp P (bodyPost P fn R) a w) : Calls P f vs.toArray w R := by
  subst hN
  have hsz0 := of_decide_eq_true hsz
  have hsz' : vs.length ≤ fn.ntmps := hsz0.1
  refine calls_of_wp hf hb (h _ (Reg.start vs.toArray fn.ntmps (by simpa using hsz') hsz0.2 _ fun i v hv => ?_))
  obtain ⟨_, h2⟩ := idx_get vs 0 i v hv
  have h3 : vs[i]? = some v := by simpa using h2
  obtain ⟨hlt, h4⟩ := List.getElem?_eq_some_iff.1 h3
  simp [Array.getElem?_append, hlt, h4]

section
variable {P : Program} {X : Prop} {Next : Act → World → Prop} {o : Oper} {a : Act} {w : World} {N : Nat} {l : List (Nat × Value)} {d : Nat}
theorem k_call {f : FuncId} {xs : List Operand} {ts : Array TypeId} {vs : List Value} {R : Ending → World → Prop} (hs : Ste P X Next o a w) (hR : Reg a N l) (hd : o.dst = some d)
    (ho : o.op = .call { callee := .value (.func f), args := xs.toArray, argTypes := ts }) (hx : evs l xs = some vs) (hdN : d < N) (hf : FOK P f) (hc : Calls P f vs.toArray w R)
    (k : ∀ e w', R e w' → ∃ v, e = .returned v ∧ ∀ a', Reg a' N ((d, v) :: l) → Next a' w') : X := by
  refine hs.enter f vs.toArray w ?_ (hc.mono fun e w' he => ?_)
  · have hm : xs.toArray.map a.eval = vs.toArray := by rw [← hR.evs hx]; simp
    unfold execOp
    rw [ho]
    simp only [resolve, hm, Act.eval, Deferred.ofValue, Sem.run_bind, Sem.run_pure, Result.andThen_ok, invoke, Array.append_empty, Array.empty_append]
    exact hf _ _
  · obtain ⟨v, rfl, hk⟩ := k e w' he
    exact ⟨v, rfl, by rw [hd]; exact hk _ (hR.put hdN v)⟩
theorem k_callV {g : Operand} {f : FuncId} {cs : Array Value} {xs : List Operand} {ts : Array TypeId} {vs : List Value} {R : Ending → World → Prop} (hs : Ste P X Next o a w) (hR : Reg a N l) (hd : o.dst = some d)
    (ho : o.op = .call { callee := .value g, args := xs.toArray, argTypes := ts }) (hg : ev l g = some (.func (.func f) #[] cs)) (hx : evs l xs = some vs) (hdN : d < N) (hf : FOK P f) (hc : Calls P f (vs.toArray ++ cs) w R)
    (k : ∀ e w', R e w' → ∃ v, e = .returned v ∧ ∀ a', Reg a' N ((d, v) :: l) → Next a' w') : X := by
  refine hs.enter f (vs.toArray ++ cs) w ?_ (hc.mono fun e w' he => ?_)
  · have hm : xs.toArray.map a.eval = vs.toArray := by rw [← hR.evs hx]; simp
    unfold execOp
    rw [ho]
    simp only [resolve, hm, hR.ev hg, Deferred.ofValue, Sem.run_bind, Sem.run_pure, Result.andThen_ok, invoke, Array.empty_append]
    exact hf _ _
  · obtain ⟨v, rfl, hk⟩ := k e w' he
    exact ⟨v, rfl, by rw [hd]; exact hk _ (hR.put hdN v)⟩

/-! guards -/
theorem want_t {ops : Array Oper} {j : Nat} {b : Bool} {oj : Oper} {dj : Nat} (hR : Reg a N l) (hg : o.guard = some (j, b)) (hj : ops[j]? = some oj) (hdj : oj.dst = some dj) (hdN : dj < N) (hv : l.lookup dj = some (.bool b)) : Region.wanted o (yielded ops a.tmps) = true := by
  have h1 := hR.get dj _ (by have := hR.top; omega) hv
  have hlt : dj < a.tmps.size := by rw [hR.size]; exact hdN
  have h2 : a.tmps[dj]? = some (.bool b) := by
    rw [Array.getD, dif_pos hlt] at h1
    rw [Array.getElem?_eq_getElem hlt, ← h1]
    rfl
  simp [Region.wanted, hg, yielded, hj, hdj, h2]
theorem want_f {ops : Array Oper} {j : Nat} {b b' : Bool} {oj : Oper} {dj : Nat} (hR : Reg a N l) (hg : o.guard = some (j, b)) (hj : ops[j]? = some oj) (hdj : oj.dst = some dj) (hdN : dj < N) (hv : l.lookup dj = some (.bool b')) (hb : (b' == b) = false) : Region.wanted o (yielded ops a.tmps) = false := by
  have h1 := hR.get dj _ (by have := hR.top; omega) hv
  have hlt : dj < a.tmps.size := by rw [hR.size]; exact hdN
  have h2 : a.tmps[dj]? = some (.bool b') := by
    rw [Array.getD, dif_pos hlt] at h1
    rw [Array.getElem?_eq_getElem hlt, ← h1]
    rfl
  simpa [Region.wanted, hg, yielded, hj, hdj, h2] using hb
theorem want_u {ops : Array Oper} {j : Nat} {b : Bool} {oj : Oper} {dj : Nat} (hR : Reg a N l) (hg : o.guard = some (j, b)) (hj : ops[j]? = some oj) (hdj : oj.dst = some dj) (hdN : dj < N) (hv : l.lookup dj = some undef) : Region.wanted o (yielded ops a.tmps) = false := by
  have h1 := hR.get dj _ (by have := hR.top; omega) hv
  have hlt : dj < a.tmps.size := by rw [hR.size]; exact hdN
  have h2 : a.tmps[dj]? = some undef := by
    rw [Array.getD, dif_pos hlt] at h1
    rw [Array.getElem?_eq_getElem hlt, ← h1]
    rfl
  simp [Region.wanted, hg, yielded, hj, hdj, h2, undef]
theorem s_pass {ops : Array Oper} {Q : Exit → Act → World → Prop} {rest : List Oper} (hR : Reg a N l) (hd : o.dst = some d) (hdN : d < N) (hw : Region.wanted o (yielded ops a.tmps) = false) (k : ∀ a', Reg a' N ((d, undef) :: l) → wpList P ops Q rest a' w) :
    wpList P ops Q (o :: rest) a w := st_pass hw (by rw [hd]; exact k _ (hR.put hdN _))
theorem Reg.setb (h : Reg a N l) {B b : Bool} (hv : l.lookup d = some (.bool B)) (hb : B = b) : Reg a N ((d, .bool b) :: l) := h.cons h (by rw [hv, hb])
end

/-! exits -/
section
variable {P : Program} {Q : Exit → Act → World → Prop} {K : Act → World → Prop} {a : Act} {w : World} {id id' : Nat}
theorem x_then_n (h : K a w) : Exit.then K Q .normal a w := h
theorem x_then_e (h : Q (.exit id) a w) : Exit.then K Q (.exit id) a w := h
theorem x_then_r (h : Q .ret a w) : Exit.then K Q .ret a w := h
theorem x_block_n (h : Q .normal a w) : Exit.inBlock id Q .normal a w := h
theorem x_block_r (h : Q .ret a w) : Exit.inBlock id Q .ret a w := h
theorem x_block_eq (h : Q .normal a w) : Exit.inBlock id Q (.exit id) a w := by
  unfold Exit.inBlock
  simpa using h
theorem x_block_e (hne : (id' == id) = false) (h : Q (.exit id') a w) : Exit.inBlock id Q (.exit id') a w := by
  have hne' : id' ≠ id := by simpa using hne
  unfold Exit.inBlock
  simpa [hne', Ne.symm hne'] using h
variable {fn : Func} {R : Ending → World → Prop} {N : Nat} {l : List (Nat × Value)}
theorem e_ret1 {t : Nat} {v : Value} (hR : Reg a N l) (h0 : l.lookup 1000000 = some (.bool false)) (hr : fn.results = #[.tmp t]) (hv : ev l (.tmp t) = some v) (h : R (.returned v) w) : bodyPost P fn R .ret a w :=
  ⟨hR.dfr h0, v, by have := hR.ev hv; rw [results_tmp hr]; exact congrArg (fun v => Result.ok v w) this, h⟩
theorem e_ret2 {t u : Nat} {v v' : Value} (hR : Reg a N l) (h0 : l.lookup 1000000 = some (.bool false)) (hr : fn.results = #[.tmp t, .tmp u]) (hv : ev l (.tmp t) = some v) (hv' : ev l (.tmp u) = some v') (h : R (.returned (.tuple #[v, v'])) w) : bodyPost P fn R .ret a w :=
  ⟨hR.dfr h0, .tuple #[v, v'], by have h1 : a.tmps.getD t undef = v := hR.ev hv; have h2 : a.tmps.getD u undef = v' := hR.ev hv'; rw [results_tmp2 hr, h1, h2], h⟩
theorem e_ret0 (hR : Reg a N l) (h0 : l.lookup 1000000 = some (.bool false)) (hr : fn.results = #[]) (h : R (.returned (.tuple #[])) w) : bodyPost P fn R .ret a w :=
  ⟨hR.dfr h0, _, results_none hr _ _ _, h⟩
theorem e_end0 (hR : Reg a N l) (h0 : l.lookup 1000000 = some (.bool false)) (hr : fn.results = #[]) (h : R (.returned (.tuple #[])) w) : bodyPost P fn R .normal a w :=
  ⟨hR.dfr h0, _, results_none hr _ _ _, h⟩
end
section
variable {w0 w : World} {Z M : Nat → Prop} {m : List Res} {ds : List Dat}
theorem St.erase (h : St w0 Z M w m ds) (i : Nat) : St w0 Z M w (m.eraseIdx i) ds := h.drop _ (List.eraseIdx_sublist m i)
theorem St.forget (h : St w0 Z M w m ds) (i : Nat) : St w0 Z M w m (ds.eraseIdx i) := h.datas _ fun d hd => h.dat d ((List.eraseIdx_sublist ds i).subset hd)
theorem imm_nxt {k : Nat} (h : imm Z w0 m w k) : nxt Z w0 w k := ⟨h.1, h.2.1⟩
/-- What a call hands back is nobody's. -/
theorem nxt_imm {w' : World} (h : St w0 Z M w m ds) {k : Nat} (hk : nxt (imm Z w0 m w) w w' k) : imm Z w0 m w' k := by
  refine ⟨hk.1, fun hlt => ?_, fun r hr e => ?_⟩
  · exact (hk.2 (Nat.lt_of_lt_of_le hlt h.size)).2.1 hlt
  · exact (hk.2 (h.own r hr k e).1).2.2 r hr e
end

/-! ### Regions that draw their order -/
/-- Where the blocks of J are as they were. -/
def dAg (w1 : World) (J : Nat → Prop) : Dat := ⟨fun w I => w1.heap.size ≤ w.heap.size ∧ ∀ k, J k → I k ∧ w.heap[k]? = w1.heap[k]?, fun _ _ _ _ hs h hk => ⟨Nat.le_trans h.1 hs, fun k hJ => ⟨(hk k (h.2 k hJ).1).1, (hk k (h.2 k hJ).1).2.trans (h.2 k hJ).2⟩⟩⟩
theorem St.agree {w0 w : World} {Z M : Nat → Prop} {m : List Res} {ds : List Dat} (h : St w0 Z M w m ds) : ∃ J : Nat → Prop, (∀ (i : Nat) (d : Dat), ds[i]? = some d → d.φ w J) ∧ St w0 Z M w m (ds ++ [dAg w J]) :=
  ⟨imm Z w0 m w, fun _ _ hi => h.get hi, h.data _ ⟨Nat.le_refl _, fun _ hk => ⟨hk, rfl⟩⟩⟩
theorem sdat {d : Dat} {w x : World} {J : Nat → Prop} (h : d.φ w J) (hx : w.heap.size ≤ x.heap.size ∧ ∀ k, J k → x.heap[k]? = w.heap[k]?) : d.φ x J := d.mono _ _ _ _ hx.1 h fun k hk => ⟨hk, hx.2 k hk⟩
theorem box_cell {w : World} {g j : Nat} {e : TypeId} {cs : List Value} {v : Value} (h : (Res.box g e cs).holds w) (hv : cs[j]? = some v) : w.cell? ⟨g, j, none⟩ = some v := by
  rw [cell_of_row w g j cs.toArray e (0, 0) h]
  simpa using hv
theorem CellsAt.nil (w : World) (p : Addr) : CellsAt w p [] := fun j u hu => by simp at hu
theorem CellsAt.cons_ {w : World} {g j : Nat} {v : Value} {vs : List Value} (h : w.cell? ⟨g, j, none⟩ = some v) (hs : CellsAt w ⟨g, j + 1, none⟩ vs) : CellsAt w ⟨g, j, none⟩ (v :: vs) := fun i u hu => by
  have hadd : ∀ (k : Nat) (i : Nat), (⟨g, k, none⟩ : Addr).add i = ⟨g, k + i, none⟩ := fun k i => by unfold Addr.add; split <;> simp_all
  rw [hadd]
  cases i with
  | zero =>
    have : v = u := by simpa using hu
    subst this
    exact h
  | succ i =>
    have := hs i u (by simpa using hu)
    rw [hadd] at this
    rw [show j + (i + 1) = j + 1 + i by omega]
    exact this
section
variable {P : Program} {X : Prop} {Next : Act → World → Prop} {o : Oper} {a : Act} {w : World} {N : Nat} {l : List (Nat × Value)} {d : Nat}
theorem m_loadC {t : TypeId} {x : Operand} {p : Addr} {v : Value} {dsc : TypeDesc} (hs : SteV P X Next o a w) (hR : Reg a N l) (hd : o.dst = some d) (ho : o.op = .load t x) (hx : ev l x = some (.pointer (some p)))
    (hc : w.cell? p = some v) (ht : P.underlying t = some dsc) (hag : isAggD dsc = false) (hdN : d < N) (k : ∀ a', Reg a' N ((d, v) :: l) → Next a' w) : X := by
  refine r_pure hs hR hd hdN ?_ k
  unfold execOp; rw [ho]
  simp only [hR.ev hx, Instr.loadAt, Instr.sureAddr, Sem.run_bind, Sem.run_pure, Result.andThen_ok, run_load1 ht hag hc]
theorem m_loadCN {t : TypeId} {x : Operand} {p : Addr} {vs : List Value} {dsc : TypeDesc} (hs : SteV P X Next o a w) (hR : Reg a N l) (hd : o.dst = some d) (ho : o.op = .load t x) (hx : ev l x = some (.pointer (some p)))
    (hc : CellsAt w p vs) (ht : P.underlying t = some dsc) (hag : isAggD dsc = true) (hsz : (P.info? t).map (·.size) = some vs.length) (hdN : d < N) (k : ∀ a', Reg a' N ((d, .agg vs.toArray) :: l) → Next a' w) : X := by
  refine r_pure hs hR hd hdN ?_ k
  unfold execOp; rw [ho]
  simp only [hR.ev hx, Instr.loadAt, Instr.sureAddr, Sem.run_bind, Sem.run_pure, Result.andThen_ok, run_loadN ht hag hsz hc]
end
section
variable {P : Program} {ops : Array Oper} {Q : Exit → Act → World → Prop} {S : World → Prop} {a : Act} {w w0 : World} {N : Nat} {l : List (Nat × Value)} {d : Nat} {Z M : Nat → Prop} {m : List Res} {ds : List Dat} {oi : Oper} {i fuel : Nat} {listed : Array Bool}
theorem d_region {id n : Nat} (hm : P.follows .mixedOrders = true) (hn : ops.size = n) (hS : St w0 Z M w m ds) (h : ∀ w', St w0 Z M w' m ds → wpAnyH P .any ops Q S n (Array.replicate n false) a w') : (Code.region id ops true).wp P Q a w :=
  wp_region_held hm (by rw [hn]; exact h _ hS.drew)
theorem d_take {v : Value} (hi : ops[i]? = some oi) (hs : Region.noSelect ops = true) (hf : Region.free .any ops listed i = true) (hr : (Region.ready .any ops listed).contains i = true)
    (hQ : ∀ c a w, Q (.panic c) (a.put oi.dst v) w → Q (.panic c) a w) (hd : oi.dst = some d) (hdN : d < N) (hR : Reg a N l) (hw : Region.wanted oi (yielded ops a.tmps) = true) (hy : ∀ x, S x → (execOp a.eval oi).run P x = .ok (.value v) x) (hS : S w)
    (h : ∀ a', Reg a' N ((d, v) :: l) → wpAnyH P .any ops Q S fuel (listed.setIfInBounds i true) a' w) : wpAnyH P .any ops Q S (fuel + 1) listed a w :=
  wpAnyH_take hi hs hf hr hQ (.inl ⟨hw, hy⟩) hS (by rw [hd]; exact h _ (hR.put hdN v))
theorem d_pass (hi : ops[i]? = some oi) (hs : Region.noSelect ops = true) (hf : Region.free .any ops listed i = true) (hr : (Region.ready .any ops listed).contains i = true)
    (hQ : ∀ c a w, Q (.panic c) (a.put oi.dst undef) w → Q (.panic c) a w) (hd : oi.dst = some d) (hdN : d < N) (hR : Reg a N l) (hw : Region.wanted oi (yielded ops a.tmps) = false) (hS : S w)
    (h : ∀ a', Reg a' N ((d, undef) :: l) → wpAnyH P .any ops Q S fuel (listed.setIfInBounds i true) a' w) : wpAnyH P .any ops Q S (fuel + 1) listed a w :=
  wpAnyH_take hi hs hf hr hQ (.inr ⟨hw, rfl⟩) hS (by rw [hd]; exact h _ (hR.put hdN _))
theorem d_one (hr : Region.ready .any ops listed = [i]) (h : wpOp P ops Q i (fun a' w' => S w' ∧ wpAnyH P .any ops Q S fuel (listed.setIfInBounds i true) a' w') a w) : wpAnyH P .any ops Q S (fuel + 1) listed a w :=
  wpAnyH_all hr (by simp) (fun j hj => by rw [List.mem_singleton] at hj; subst hj; exact h)
end
end Go.Proofs.YtobgdeffhdefeaaDoor
/- Where paths come together. -/
namespace Go.Proofs.YtobgdeffhdefeaaDoor
set_option linter.unusedSimpArgs false
set_option linter.unusedVariables false
open Go.RowKit
section
variable {P : Program} {ops : Array Oper} {Q : Exit → Act → World → Prop} {a : Act} {w : World}
theorem oper_wp_then {o : Oper} {I K' : Act → World → Prop} {J : Act → World → Prop} (h : ∀ a w, J a w → K' a w) (hh : o.wp P a w J (Exit.then I Q)) : o.wp P a w K' Q := by
  unfold Oper.wp at *
  generalize (execOp a.eval o).run P w = r at *
  cases r with
  | ok n w' =>
    cases n <;> simp only [Oper.upon] at hh ⊢ <;>
      first
        | exact h _ _ hh
        | exact Calls.mono hh (fun e w'' he => by cases e <;> first | exact h _ _ he | exact he)
        | exact Rows.mono hh (fun _ _ he => h _ _ he)
  | halt x w' => cases x <;> simp only [Oper.upon] at hh ⊢ <;> exact hh
theorem l_cut {I : Act → World → Prop} {ys : List Oper} (k : ∀ a w, I a w → wpList P ops Q ys a w) : ∀ (xs : List Oper) (a : Act) (w : World), wpList P ops (Exit.then I Q) xs a w → wpList P ops Q (xs ++ ys) a w
  | [], a, w, h => k a w h
  | o :: xs, a, w, h => by
    rw [List.cons_append]
    unfold wpList at h ⊢
    split
    · rename_i hw
      rw [if_pos hw] at h
      exact h.imp (oper_wp_then (l_cut k xs)) (fun h => ⟨h.1, h.2⟩)
    · rename_i hw
      rw [if_neg hw] at h
      exact l_cut k xs _ _ h
theorem l_join {l : List Oper} (I : Act → World → Prop) (n : Nat) (h : wpList P ops (Exit.then I Q) (l.take n) a w) (k : ∀ a w, I a w → wpList P ops Q (l.drop n) a w) : wpList P ops Q l a w := by
  have := l_cut (ys := l.drop n) k (l.take n) a w h
  rwa [List.take_append_drop] at this
theorem c_join {x y : Code} (I : Act → World → Prop) (h : x.wp P (Exit.then I Q) a w) (k : ∀ a w, I a w → y.wp P Q a w) : (Code.seq x y).wp P Q a w :=
  wp_seq (wp_mono h fun e a w he => by
    cases e with
    | normal => exact k _ _ he
    | _ => exact he)
theorem St.row {w0 w : World} {Z M : Nat → Prop} {m : List Res} {ds : List Dat} (h : St w0 Z M w m ds) {i size n cap : Nat} {A : Option Addr} {xs : List Value} (hi : ds[i]? = some (dRow size A n cap xs)) : n ≤ cap ∧ RowI w (imm Z w0 m w) size A n xs := h.get hi
variable {N : Nat} {l l' : List (Nat × Value)}
theorem Reg.consb (h : Reg a N l) (h' : Reg a N l') {i : Nat} {B b : Bool} (hv : l.lookup i = some (.bool B)) (hb : b = B) : Reg a N ((i, .bool b) :: l') := h.cons h' (by rw [hv, hb])
theorem Reg.consi (h : Reg a N l) (h' : Reg a N l') {i : Nat} {kd : IntKind} {B b : Int} (hv : l.lookup i = some (.int kd B)) (hb : b = B) : Reg a N ((i, .int kd b) :: l') := h.cons h' (by rw [hv, hb])
end
end Go.Proofs.YtobgdeffhdefeaaDoor
/- The table of shapes; small closing lemmas. -/
namespace Go.Proofs.YtobgdeffhdefeaaDoor
set_option linter.unusedSimpArgs false
set_option linter.unusedVariables false
open Go Go.RowKit

/-- What the variable 'shapes' of package term reads as. -/
def Shapes (w : World) (I : Nat → Prop) : Prop := ∀ k, k < 30 → ∃ (A : Option Addr) (cap : Nat),
  ((shp k).b.length ≤ cap ∧ RowI w I 1 A (shp k).b.length (encIs (shp k).b)) ∧ I 0 ∧
  CellsAt w ((⟨0, 0, none⟩ : Addr).add (k * 4)) [.slice A (shp k).b.length cap, .bool (shp k).n, .bool (shp k).m, .bool (shp k).s]
def dShapes : Dat := ⟨Shapes, fun w w' I I' _ h hk k hlt => by
  obtain ⟨A, cap, ⟨h1, h2⟩, h3, h4⟩ := h k hlt
  exact ⟨A, cap, ⟨h1, h2.mono hk⟩, (hk 0 h3).1, h4.keep (by rw [block_of_add]; exact (hk 0 h3).2)⟩⟩
theorem shapes_at {w : World} {I : Nat → Prop} (h : Shapes w I) (k : Nat) (hk : k < 30) : ∃ (A : Option Addr) (cap : Nat),
    (dRow 1 A (shp k).b.length cap (encIs (shp k).b)).φ w I ∧
    ElemAt w (some ⟨0, 0, none⟩) (k * 4) [.slice A (shp k).b.length cap, .bool (shp k).n, .bool (shp k).m, .bool (shp k).s] := by
  obtain ⟨A, cap, h1, h3, h4⟩ := h k hk
  exact ⟨A, cap, h1, _, rfl, h4⟩

theorem ret_i {k : IntKind} {a b : Int} (h : a = b) : Value.int k a = Value.int k b := by rw [h]
theorem ret_b {a b : Bool} (h : a = b) : Value.bool a = Value.bool b := by rw [h]
theorem ret_t2 {a b a' b' : Value} (h : a = a') (h' : b = b') : Ending.returned (.tuple #[a, b]) = Ending.returned (.tuple #[a', b']) := by rw [h, h']
theorem ret_t3 {a b c a' b' c' : Value} (h : a = a') (h' : b = b') (h'' : c = c') : Ending.returned (.tuple #[a, b, c]) = Ending.returned (.tuple #[a', b', c']) := by rw [h, h', h'']
end Go.Proofs.YtobgdeffhdefeaaDoor
/- Bytes of strings; bits. -/
namespace Go.Proofs.YtobgdeffhdefeaaDoor
set_option linter.unusedSimpArgs false
set_option linter.unusedVariables false
open Go Go.RowKit
def byteAt (s : ByteArray) (i : Nat) : Nat := if h : i < s.size then s[i].toNat else 0
theorem byteAt_lt (s : ByteArray) (i : Nat) : byteAt s i < 256 := by
  unfold byteAt
  split
  · exact UInt8.toNat_lt _
  · omega
def orB (a b : Nat) : Nat := a ||| b
def andB (a b : Nat) : Nat := a &&& b
section
variable {P : Program} {X : Prop} {Next : Act → World → Prop} {o : Oper} {a : Act} {w : World} {N : Nat} {l : List (Nat × Value)} {d : Nat}
theorem r_byte {t : TypeId} {x y : Operand} {s : ByteArray} {p : Int} {ki : IntKind} {i : Nat} (hs : SteV P X Next o a w) (hR : Reg a N l) (hd : o.dst = some d) (ho : o.op = .index t x y) (hx : ev l x = some (.string s)) (hy : ev l y = some (.int ki p))
    (ht : P.underlying t = some .string) (hp : p = (i : Int)) (hi : i < s.size) (hdN : d < N) (k : ∀ a', Reg a' N ((d, .int .u8 ((byteAt s i : Nat) : Int)) :: l) → Next a' w) : X :=
  r_indexS hs hR hd ho hx hy ht hp hi hdN (by simpa [byteAt, hi] using k)
theorem run_or8 {P : Program} {w : World} {t : TypeId} {a b : Nat} (ha : a < 256) (hb : b < 256) : (Go.binOp .or t (.int .u8 (a : Int)) (.int .u8 (b : Int))).run P w = .ok (.int .u8 ((orB a b : Nat) : Int)) w := by
  have h : a ||| b < 256 := Nat.or_lt_two_pow (n := 8) ha hb
  have h1 : (BitVec.ofInt 8 (a : Int) ||| BitVec.ofInt 8 (b : Int)).toNat = a ||| b := by
    simp [Nat.mod_eq_of_lt ha, Nat.mod_eq_of_lt hb]
  show Result.ok (Value.int .u8 (IntKind.u8.wrap (((BitVec.ofInt 8 (a : Int) ||| BitVec.ofInt 8 (b : Int)).toNat : Nat) : Int))) w = _
  rw [h1]
  unfold IntKind.wrap
  simp only [IntKind.bits, IntKind.signed, Bool.false_and, if_false, Bool.false_eq_true]
  congr 2
  unfold orB
  omega
theorem run_or64 {P : Program} {w : World} {t : TypeId} {a b : Nat} (ha : a < 2 ^ 31) (hb : b < 2 ^ 31) : (Go.binOp .or t (.int .i64 (a : Int)) (.int .i64 (b : Int))).run P w = .ok (.int .i64 ((orB a b : Nat) : Int)) w := by
  have h : a ||| b < 2 ^ 31 := Nat.or_lt_two_pow (n := 31) ha hb
  have h1 : (BitVec.ofInt 64 (a : Int) ||| BitVec.ofInt 64 (b : Int)).toNat = a ||| b := by
    simp [Nat.mod_eq_of_lt (show a < 18446744073709551616 by omega), Nat.mod_eq_of_lt (show b < 18446744073709551616 by omega)]
  show Result.ok (Value.int .i64 (IntKind.i64.wrap (((BitVec.ofInt 64 (a : Int) ||| BitVec.ofInt 64 (b : Int)).toNat : Nat) : Int))) w = _
  rw [h1, IntWalk.i64_in _ (by constructor <;> omega)]
  rfl
theorem run_and64 {P : Program} {w : World} {t : TypeId} {a b : Nat} (ha : a < 2 ^ 31) (hb : b < 2 ^ 31) : (Go.binOp .and t (.int .i64 (a : Int)) (.int .i64 (b : Int))).run P w = .ok (.int .i64 ((andB a b : Nat) : Int)) w := by
  have h : a &&& b < 2 ^ 31 := Nat.and_lt_two_pow (n := 31) a hb
  have h1 : (BitVec.ofInt 64 (a : Int) &&& BitVec.ofInt 64 (b : Int)).toNat = a &&& b := by
    simp [Nat.mod_eq_of_lt (show a < 18446744073709551616 by omega), Nat.mod_eq_of_lt (show b < 18446744073709551616 by omega)]
  show Result.ok (Value.int .i64 (IntKind.i64.wrap (((BitVec.ofInt 64 (a : Int) &&& BitVec.ofInt 64 (b : Int)).toNat : Nat) : Int))) w = _
  rw [h1, IntWalk.i64_in _ (by constructor <;> omega)]
  rfl
end
set_option maxRecDepth 100000 in
/-- A letter, as the program tells it. -/
theorem letter_or : ∀ c : Fin 256, ((97 ≤ orB c.val 32 ∧ orB c.val 32 ≤ 122) ∨ c.val = 95) ↔ letter (UInt8.ofNat c.val) = true := by decide
end Go.Proofs.YtobgdeffhdefeaaDoor
/- Facts of types and functions, read off the program. Printed by gen.py. -/
namespace Go.Proofs.YtobgdeffhdefeaaDoor
open Go Go.RowKit
set_option linter.unusedSimpArgs false
set_option linter.unusedVariables false

theorem mixed : Tryd.prog.follows .mixedOrders = true := by kernel_rfl
theorem sz3 : (Tryd.prog.info? 3).map (·.size) = some 1 := by kernel_rfl
theorem zi3 : (Tryd.prog.info? 3).map (fun i => (i.zero, i.size, i.bytes)) = some (some (.int .i64 0), 1, 8) := by kernel_rfl
theorem sz4 : (Tryd.prog.info? 4).map (·.size) = some 1 := by kernel_rfl
theorem sz9 : (Tryd.prog.info? 9).map (·.size) = some 1 := by kernel_rfl
theorem sz22 : (Tryd.prog.info? 22).map (·.size) = some 1 := by kernel_rfl
theorem ze22 : (Tryd.prog.info? 22).map (·.zero) = some (some (.slice none 0 0)) := by kernel_rfl
theorem zi22 : (Tryd.prog.info? 22).map (fun i => (i.zero, i.size, i.bytes)) = some (some (.slice none 0 0), 1, 24) := by kernel_rfl
theorem sz32 : (Tryd.prog.info? 32).map (·.size) = some 4 := by kernel_rfl
theorem ze32 : (Tryd.prog.info? 32).map (·.zero) = some (some (.agg #[.int .i64 0, .int .i64 0, .int .i64 0, .string (⟨#[]⟩ : ByteArray)])) := by kernel_rfl
theorem zi32 : (Tryd.prog.info? 32).map (fun i => (i.zero, i.size, i.bytes)) = some (some (.agg #[.int .i64 0, .int .i64 0, .int .i64 0, .string (⟨#[]⟩ : ByteArray)]), 4, 40) := by kernel_rfl
theorem sz39 : (Tryd.prog.info? 39).map (·.size) = some 1 := by kernel_rfl
theorem ze39 : (Tryd.prog.info? 39).map (·.zero) = some (some (.slice none 0 0)) := by kernel_rfl
theorem sz66 : (Tryd.prog.info? 66).map (·.size) = some 1 := by kernel_rfl
theorem sz121 : (Tryd.prog.info? 121).map (·.size) = some 2 := by kernel_rfl
theorem ze121 : (Tryd.prog.info? 121).map (·.zero) = some (some (.agg #[.int .i64 0, .int .i64 0])) := by kernel_rfl
theorem zi121 : (Tryd.prog.info? 121).map (fun i => (i.zero, i.size, i.bytes)) = some (some (.agg #[.int .i64 0, .int .i64 0]), 2, 16) := by kernel_rfl
theorem sz129 : (Tryd.prog.info? 129).map (·.size) = some 4 := by kernel_rfl
theorem ze129 : (Tryd.prog.info? 129).map (·.zero) = some (some (.agg #[.slice none 0 0, .bool false, .bool false, .bool false])) := by kernel_rfl
theorem ok19 : FOK Tryd.prog 19 := fok Tryd.func19 rfl rfl
theorem ok23 : FOK Tryd.prog 23 := fok Tryd.func23 rfl rfl
theorem ok25 : FOK Tryd.prog 25 := fok Tryd.func25 rfl rfl
theorem ok26 : FOK Tryd.prog 26 := fok Tryd.func26 rfl rfl
theorem ok27 : FOK Tryd.prog 27 := fok Tryd.func27 rfl rfl
theorem ok28 : FOK Tryd.prog 28 := fok Tryd.func28 rfl rfl
theorem ok30 : FOK Tryd.prog 30 := fok Tryd.func30 rfl rfl
theorem ok31 : FOK Tryd.prog 31 := fok Tryd.func31 rfl rfl
theorem ok32 : FOK Tryd.prog 32 := fok Tryd.func32 rfl rfl
theorem ok33 : FOK Tryd.prog 33 := fok Tryd.func33 rfl rfl
theorem ok44 : FOK Tryd.prog 44 := fok Tryd.func44 rfl rfl
theorem ok46 : FOK Tryd.prog 46 := fok Tryd.func46 rfl rfl
theorem ok47 : FOK Tryd.prog 47 := fok Tryd.func47 rfl rfl
theorem ok48 : FOK Tryd.prog 48 := fok Tryd.func48 rfl rfl
theorem ok51 : FOK Tryd.prog 51 := fok Tryd.func51 rfl rfl
theorem ok52 : FOK Tryd.prog 52 := fok Tryd.func52 rfl rfl
theorem ok53 : FOK Tryd.prog 53 := fok Tryd.func53 rfl rfl
theorem ok55 : FOK Tryd.prog 55 := fok Tryd.func55 rfl rfl
theorem ok56 : FOK Tryd.prog 56 := fok Tryd.func56 rfl rfl
theorem ok57 : FOK Tryd.prog 57 := fok Tryd.func57 rfl rfl
theorem ok63 : FOK Tryd.prog 63 := fok Tryd.func63 rfl rfl
theorem ok64 : FOK Tryd.prog 64 := fok Tryd.func64 rfl rfl
theorem ok65 : FOK Tryd.prog 65 := fok Tryd.func65 rfl rfl
theorem ok66 : FOK Tryd.prog 66 := fok Tryd.func66 rfl rfl
theorem ok67 : FOK Tryd.prog 67 := fok Tryd.func67 rfl rfl
theorem ok70 : FOK Tryd.prog 70 := fok Tryd.func70 rfl rfl
theorem ok71 : FOK Tryd.prog 71 := fok Tryd.func71 rfl rfl
theorem ok77 : FOK Tryd.prog 77 := fok Tryd.func77 rfl rfl
theorem ok78 : FOK Tryd.prog 78 := fok Tryd.func78 rfl rfl
theorem ok79 : FOK Tryd.prog 79 := fok Tryd.func79 rfl rfl
theorem ok105 : FOK Tryd.prog 105 := fok Tryd.func105 rfl rfl
theorem ok106 : FOK Tryd.prog 106 := fok Tryd.func106 rfl rfl
theorem ok112 : FOK Tryd.prog 112 := fok Tryd.func112 rfl rfl
theorem ok113 : FOK Tryd.prog 113 := fok Tryd.func113 rfl rfl
theorem ok115 : FOK Tryd.prog 115 := fok Tryd.func115 rfl rfl
theorem ok116 : FOK Tryd.prog 116 := fok Tryd.func116 rfl rfl
theorem ok126 : FOK Tryd.prog 126 := fok Tryd.func126 rfl rfl
theorem ok128 : FOK Tryd.prog 128 := fok Tryd.func128 rfl rfl
theorem ok129 : FOK Tryd.prog 129 := fok Tryd.func129 rfl rfl
theorem ok130 : FOK Tryd.prog 130 := fok Tryd.func130 rfl rfl
theorem ok138 : FOK Tryd.prog 138 := fok Tryd.func138 rfl rfl
theorem ok144 : FOK Tryd.prog 144 := fok Tryd.func144 rfl rfl
theorem ok145 : FOK Tryd.prog 145 := fok Tryd.func145 rfl rfl
theorem ok148 : FOK Tryd.prog 148 := fok Tryd.func148 rfl rfl
end Go.Proofs.YtobgdeffhdefeaaDoor
