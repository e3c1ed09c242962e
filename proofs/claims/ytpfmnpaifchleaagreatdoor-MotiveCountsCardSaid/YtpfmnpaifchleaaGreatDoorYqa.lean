import Derived.WalkKit
import Derived.ControlIn
import Derived.TacticsIn
import Derived.OrdersHeld
import Derived.RangeFuncCalls
import Derived.IntWalk
import Derived.Laws.StructEq
import Derived.Maps.AppendAt
import Derived.Deep.LoopGhost
import Derived.Test.YtpfmnpaifchleaaGreatDoorProg
import Derived.Lib.AppendZerosOnto
import Derived.LoopN
import Derived.ChangeKeysEq
namespace Go.Proofs.YtpfmnpaifchleaaGreatDoor
open Go Go.RowKit
set_option linter.defProp false
def Ab := @List.length_append
def Ac := @wp_seq_k
def Ad := @List.length_cons
def Ae := @wpList_nil
def Af := @Nat.le_refl
def Ah := @List.length_take
def Aq := @if_neg
def Ar := @Tryz.underlying30
def At := @if_pos
def Au := @Tryz.underlying22
def Ax := @List.mem_of_getElem?
def Az := @Result.andThen_ok
def A8 := @Tryz.underlying9
def A9 := @of_decide_eq_true
def AB := @List.mem_singleton
def AD := @List.mem_cons
def AF := @Sem.run_bind
def AK := @Bool.and_eq_true
def AO := @Tryz.underlying65
def AU := @Tryz.underlying57
def AV := @Array.getElem?_eq_some_iff
def AW := @Tryz.underlying182
def Be := @Tryz.underlying37
def Bg := @Sem.run_pure
def Bl := @Tryz.underlying3
def Bo := @Nat.le_trans
def Bx := @List.getElem?_eq_getElem
def B4 := @Option.some.inj
def B5 := @List.mem_append
def B8 := @decide_eq_true_eq
def B9 := @Tryz.underlying52
def BB := @List.eq_nil_of_length_eq_zero
def BG := @List.append_assoc
def BJ := @List.map_cons
def BK := @List.length_drop
def BP := @List.length_replicate
def BS := @Nat.lt_of_lt_of_le
def Cm := @Option.map_some
def Cs := @Option.some.injEq
def C2 := @Tryz.underlying4
def C6 := @List.map_nil
def CD := @Tryz.underlying25
def CF := @wp_cond_true
def CP := @wp_cond_false
def CQ := @List.take_length
def CX := @Tryz.underlying31
def Dj := @Tryz.underlying184
def Dk := @Tryz.underlying145
def DH := @Prod.mk.injEq
def DJ := @Tryz.underlying59
def DV := @List.getElem?_append_right
def DY := @Tryz.underlying154
def DZ := @Tryz.underlying126
def Ej := @Tryz.underlying35
def Ek := @Tryz.underlying26
def E6 := @Tryz.underlying187
def E7 := @Tryz.underlying162
def ES := @Tryz.underlying92
def G0 := @Tryz.underlying23
end Go.Proofs.YtpfmnpaifchleaaGreatDoor
namespace Go.Proofs.YtpfmnpaifchleaaGreatDoor
set_option linter.unusedSimpArgs false
set_option linter.unusedVariables false
section
/- A small logic of resources for walks: what is known of the slots, and one step of an operation in whatever mode the walk is. -/
open Go.RowKit
structure Reg (a : Act) (N : Nat) (l : List (Nat × Value)) : Prop where
 dfr : l.lookup 1000000 = some (.bool false) → a.defers = []
 dfr1 : ∀ D : Nat, l.lookup 1000000 = some (.int .i64 (D : Int)) → a.defers = [{ target := .collected D, args := #[] }]
 top : N ≤ 1000000
 size : a.tmps.size = N
 get : ∀ i v, i ≠ 1000000 → l.lookup i = some v → a.tmps.getD i undef = v
def ev (l : List (Nat × Value)) : Operand → Option Value
 | .tmp t => cond (Nat.beq t 1000000) none (l.lookup t)
 | .const v => some v
 | .global g => some (.pointer (some ⟨g, 0, none⟩))
 | .func f => some (.func (.func f) #[] #[])
def evs (l : List (Nat × Value)) : List Operand → Option (List Value)
 | [] => some []
 | x :: xs => match ev l x, evs l xs with
  | some v, some vs => some (v :: vs)
  | _, _ => none
theorem Reg.ev {a : Act} {N : Nat} {l : List (Nat × Value)} (h : Reg a N l) {x : Operand} {v : Value} (hx : ev l x = some v) : a.eval x = v := by
 cases x with
 | tmp t =>
  have hx' : cond (Nat.beq t 1000000) none (l.lookup t) = some v := hx
  cases hb : Nat.beq t 1000000 with
  | true =>
   rw [hb] at hx'
   cases hx'
  | false =>
   rw [hb] at hx'
   refine h.get t v (fun e => ?_) hx'
   rw [e] at hb
   exact absurd hb (by decide)
 | const c => simpa [YtpfmnpaifchleaaGreatDoor.ev, Act.eval] using hx
 | global g => simpa [YtpfmnpaifchleaaGreatDoor.ev, Act.eval] using hx
 | func f => simpa [YtpfmnpaifchleaaGreatDoor.ev, Act.eval] using hx
theorem Reg.evs {a : Act} {N : Nat} {l : List (Nat × Value)} (h : Reg a N l) : ∀ {xs : List Operand} {vs : List Value}, evs l xs = some vs → xs.map a.eval = vs
 | [], vs, hx => by simpa [YtpfmnpaifchleaaGreatDoor.evs] using hx
 | x :: xs, vs, hx => by
  simp only [YtpfmnpaifchleaaGreatDoor.evs] at hx
  cases h1 : YtpfmnpaifchleaaGreatDoor.ev l x with
  | none => simp [h1] at hx
  | some v =>
   cases h2 : YtpfmnpaifchleaaGreatDoor.evs l xs with
   | none => simp [h1, h2] at hx
   | some us =>
    simp only [h1, h2] at hx
    obtain rfl := B4 hx
    rw [BJ, h.ev h1, h.evs h2]
theorem DC {i : Nat} {v : Value} {l : List (Nat × Value)} : ((i, v) :: l).lookup i = some v := by simp [List.lookup]
theorem D1 {i j : Nat} {v : Value} {l : List (Nat × Value)} (h : j ≠ i) : ((i, v) :: l).lookup j = l.lookup j := by
 have : (j == i) = false := by simpa using h
 simp [List.lookup, this]
theorem Reg.put {a : Act} {N : Nat} {l : List (Nat × Value)} (h : Reg a N l) {d : Nat} (hd : d < N) (v : Value) : Reg (a.put (some d) v) N ((d, v) :: l) := by
 have hk : (1000000 : Nat) ≠ d := by have := h.top; omega
 refine ⟨fun q => h.dfr (by rwa [D1 hk] at q), fun D q => h.dfr1 D (by rwa [D1 hk] at q), h.top, by simp [Act.put, h.size], fun i u hi hu => ?_⟩
 by_cases hid : i = d
 ·
  subst hid
  rw [DC] at hu
  obtain rfl := B4 hu
  simp [Act.put, Array.getD, h.size, hd]
 ·
  rw [D1 hid] at hu
  have := h.get i u hi hu
  simp only [Act.put]
  rw [← this]
  simp [Ne.symm hid]
theorem Reg.put_none {a : Act} {N : Nat} {l : List (Nat × Value)} (h : Reg a N l) (v : Value) : Reg (a.put none v) N l := ⟨h.dfr, h.dfr1, h.top, h.size, h.get⟩
theorem Reg.nil {a : Act} {N : Nat} {l : List (Nat × Value)} (h : Reg a N l) : Reg a N [] := ⟨fun q => (by simp at q), fun _ q => (by simp at q), h.top, h.size, fun _ _ _ hu => by simp at hu⟩
theorem Reg.cons {a : Act} {N : Nat} {l l' : List (Nat × Value)} (h : Reg a N l) (h' : Reg a N l') {i : Nat} {v : Value} (hv : l.lookup i = some v) : Reg a N ((i, v) :: l') := by
 refine ⟨fun q => ?_, fun D q => ?_, h.top, h.size, fun j u hj hu => ?_⟩
 ·
  by_cases hk : (1000000 : Nat) = i
  ·
   subst hk
   rw [DC] at q
   exact h.dfr (hv.trans q)
  ·
   rw [D1 hk] at q
   exact h'.dfr q
 ·
  by_cases hk : (1000000 : Nat) = i
  ·
   subst hk
   rw [DC] at q
   exact h.dfr1 D (hv.trans q)
  ·
   rw [D1 hk] at q
   exact h'.dfr1 D q
 ·
  by_cases hji : j = i
  ·
   subst hji
   rw [DC] at hu
   obtain rfl := B4 hu
   exact h.get _ _ hj hv
  ·
   rw [D1 hji] at hu
   exact h'.get j u hj hu
theorem Reg.start (args : Array Value) (N : Nat) (hN : args.size ≤ N) (ht : N ≤ 1000000) : ∀ l, (∀ i v, l.lookup i = some v → (args ++ Array.replicate (N - args.size) undef).getD i undef = v) →
  Reg { tmps := args ++ Array.replicate (N - args.size) undef, defers := [] } N ((1000000, .bool false) :: l) :=
 fun _ h => ⟨fun _ => rfl, (fun D q => by rw [DC] at q; cases q), ht, by simp; omega, fun i v hi hv => h i v (by rwa [D1 hi] at hv)⟩
theorem Reg.round2 {a : Act} {N : Nat} {l : List (Nat × Value)} (h : Reg a N l) {p q : Nat} (hp : p < N) (hq : q < N) (u v : Value) {l' : List (Nat × Value)} (hl : ∀ i w, i ≠ 1000000 → l'.lookup i = some w → l.lookup i = some w) (hk : l'.lookup 1000000 = none) :
  Reg { tmps := (#[p, q].zip #[u, v]).foldl (fun t (p, v) => t.setIfInBounds p v) a.tmps, defers := [] } N ((q, v) :: (p, u) :: (1000000, .bool false) :: l') := by
 have h0 : Reg { tmps := a.tmps, defers := [] } N ((1000000, .bool false) :: l') := by
  refine ⟨fun _ => rfl, (fun D q => by rw [DC] at q; cases q), h.top, h.size, fun i w hi hw => ?_⟩
  rw [D1 hi] at hw
  exact h.get i w hi (hl i w hi hw)
 have h1 := (h0.put hp u).put hq v
 simpa [Act.put] using h1
structure SteV (P : Program) (X : Prop) (Next : Act → World → Prop) (o : Oper) (a : Act) (w : World) : Prop where
 val : ∀ v w', (execOp a.eval o).run P w = .ok (.value v) w' → Next (a.put o.dst v) w' → X
structure Ste (P : Program) (X : Prop) (Next : Act → World → Prop) (o : Oper) (a : Act) (w : World) : Prop extends SteV P X Next o a w where
 skip : ∀ w', (execOp a.eval o).run P w = .ok .skip w' → Next (a.put o.dst undef) w' → X
 enter : ∀ f args w', (execOp a.eval o).run P w = .ok (.enter f args) w' → Calls P f args w' (fun e w'' => ∃ v, e = .returned v ∧ Next (a.put o.dst v) w'') → X
section
variable {P : Program} {ops : Array Oper} {Q : Exit → Act → World → Prop} {a : Act} {w : World} {rest : List Oper} {o : Oper}
theorem H8 {Q' : Exit → Act → World → Prop} {Next : Act → World → Prop} {dst : Option Tmp} {f : FuncId} {args : Array Value} {w' : World}
  (h : Calls P f args w' (fun e w'' => ∃ v, e = .returned v ∧ Next (a.put dst v) w'')) :
  Calls P f args w' fun
   | .returned v, w'' => Next (a.put dst v) w''
   | .panicked chain, w'' => Q' (.panic chain) a w''
   | .outgrown, _ => LetsOut Q' :=
 h.mono fun e w'' he => by
  obtain ⟨v, rfl, hv⟩ := he
  exact hv
theorem E1 (hw : Region.wanted o (yielded ops a.tmps) = true) : Ste P (wpList P ops Q (o :: rest) a w) (wpList P ops Q rest) o a w where
 val v w' hr h := by
  unfold wpList
  rw [At hw]
  refine .inl ?_
  unfold Oper.wp
  rw [hr]
  exact h
 skip w' hr h := by
  unfold wpList
  rw [At hw]
  refine .inl ?_
  unfold Oper.wp
  rw [hr]
  exact h
 enter f args w' hr h := by
  unfold wpList
  rw [At hw]
  refine .inl ?_
  unfold Oper.wp
  rw [hr]
  exact H8 h
theorem Q8 (hg : o.guard = none) : Ste P (wpList P ops Q (o :: rest) a w) (wpList P ops Q rest) o a w :=
 E1 (by simp [Region.wanted, hg])
theorem GN (hg : o.guard = none) : SteV P (wpList P ops Q (o :: rest) a w) (wpList P ops Q rest) o a w := (Q8 hg).toSteV
theorem Bb (hw : Region.wanted o (yielded ops a.tmps) = true) : SteV P (wpList P ops Q (o :: rest) a w) (wpList P ops Q rest) o a w := (E1 hw).toSteV
theorem Tq {N : Nat} {l : List (Nat × Value)} {d : Nat} {V : Value} (hR : Reg a N l) (hd : o.dst = some d) (hdN : d < N) :
  SteV P ((execOp a.eval o).run P w = .ok (.value V) w) (fun a' w' => a'.tmps.getD d undef = V ∧ w' = w) o a w :=
 ⟨fun v w' hr h => by
  obtain ⟨h1, rfl⟩ := h
  rw [hd] at h1
  have h2 := (hR.put hdN v).get d v (by have := hR.top; omega) DC
  rw [h2] at h1
  rw [hr, h1]⟩
theorem F8 {K : Act → World → Prop} {i : Nat} (hi : ops[i]? = some o) (hw : Region.wanted o (yielded ops a.tmps) = true) : Ste P (wpOp P ops Q i K a w) K o a w where
 val v w' hr h := by
  unfold wpOp
  simp only [hi]
  rw [At hw]
  refine .inl ?_
  unfold Oper.wp
  rw [hr]
  exact h
 skip w' hr h := by
  unfold wpOp
  simp only [hi]
  rw [At hw]
  refine .inl ?_
  unfold Oper.wp
  rw [hr]
  exact h
 enter f args w' hr h := by
  unfold wpOp
  simp only [hi]
  rw [At hw]
  refine .inl ?_
  unfold Oper.wp
  rw [hr]
  exact H8 h
theorem CY {K : Act → World → Prop} {i : Nat} (hi : ops[i]? = some o) (hw : Region.wanted o (yielded ops a.tmps) = true) : SteV P (wpOp P ops Q i K a w) K o a w := (F8 hi hw).toSteV
theorem AJ (hg : o.guard = none) : Region.wanted o (yielded ops a.tmps) = true := by simp [Region.wanted, hg]
theorem V9 (hw : Region.wanted o (yielded ops a.tmps) = false) (h : wpList P ops Q rest (a.put o.dst undef) w) : wpList P ops Q (o :: rest) a w := wpList_skip hw h
def wf (ro : Option Nat) : Fence := { Fence.wide with round := ro }
theorem MV {ro : Option Nat} (hnd : ∀ c, o.op ≠ .defer c) (hw : Region.wanted o (yielded ops a.tmps) = true) :
  Ste P (wpListIn (wf ro) 0 P ops Q (o :: rest) a w) (wpListIn (wf ro) 0 P ops Q rest) o a w where
 val v w' hr h := by
  unfold wpListIn
  rw [At hw]
  refine ⟨fun _ _ => trivial, ?_⟩
  rw [Oper.semAt_eq _ _ _ hnd, hr]
  exact h
 skip w' hr h := by
  unfold wpListIn
  rw [At hw]
  refine ⟨fun _ _ => trivial, ?_⟩
  rw [Oper.semAt_eq _ _ _ hnd, hr]
  exact h
 enter f args w' hr h := by
  unfold wpListIn
  rw [At hw]
  refine ⟨fun _ _ => trivial, ?_⟩
  rw [Oper.semAt_eq _ _ _ hnd, hr]
  refine ⟨fun hd => by simp [wf, Fence.wide] at hd, ?_⟩
  have hc := callsIn_wide (n := 0).2 (H8 (Q' := Q) h)
  cases ro with
  | none => exact hc
  | some l => exact CallsIn.inRound l hc
end
end
section
/- Resources: what the call owns, and data that nobody changes. -/
open Go.RowKit
inductive Res where
 | box (g : Nat) (t : TypeId) (cs : List Value)
 | row (A : Option Addr) (n cap : Nat) (e size : Nat) (xs : List Value)
 | mp (g : Nat) (es : List MapEntry) (c : Nat)
def Res.blk : Res → Option Nat
 | .box g _ _ => some g
 | .row A _ _ _ _ _ => A.map (·.block)
 | .mp g _ _ => some g
def Res.holds (w : World) : Res → Prop
 | .box g t cs => w.heap[g]? = some (.cells cs.toArray t (0, 0))
 | .row A n cap e size xs => w.ownsRow 0 e size (.slice A n cap) n xs
 | .mp g es c => w.heap[g]? = some (.map es.toArray c)
def MO (o : Obj) : Prop := (∃ cs t fz, o = .cells cs t fz) ∨ ∃ es c, o = .map es c
def imm (Z : Nat → Prop) (w0 : World) (m : List Res) (w : World) (k : Nat) : Prop := k < w.heap.size ∧ (k < w0.heap.size → Z k) ∧ ∀ r ∈ m, r.blk ≠ some k
def nxt (Z : Nat → Prop) (w0 w : World) (k : Nat) : Prop := k < w.heap.size ∧ (k < w0.heap.size → Z k)
structure Dat where
 φ : World → (Nat → Prop) → Prop
 mono : ∀ w w' I I', w.heap.size ≤ w'.heap.size → φ w I → (∀ k, I k → I' k ∧ w'.heap[k]? = w.heap[k]?) → φ w' I'
structure St (w0 : World) (Z M : Nat → Prop) (w : World) (m : List Res) (ds : List Dat) : Prop where
 os : w.os = w0.os
 tape : w.tape = w0.tape
 output : w.output = w0.output
 size : w0.heap.size ≤ w.heap.size
 old : ∀ k, k < w0.heap.size → ¬ M k → w.heap[k]? = w0.heap[k]?
 hold : ∀ r ∈ m, r.holds w
 own : ∀ r ∈ m, ∀ k, r.blk = some k → k < w.heap.size ∧ (w0.heap.size ≤ k ∨ M k)
 apart : m.Pairwise fun r s => ∀ k, r.blk = some k → s.blk ≠ some k
 dat : ∀ d ∈ ds, d.φ w (imm Z w0 m w)
structure Fr (M : Nat → Prop) (w w' : World) : Prop where
 os : w'.os = w.os
 tape : w'.tape = w.tape
 output : w'.output = w.output
 size : w.heap.size ≤ w'.heap.size
 old : ∀ k, k < w.heap.size → ¬ M k → w'.heap[k]? = w.heap[k]?
abbrev A6 : Nat → Prop := fun _ => False
theorem Fr.refl (M : Nat → Prop) (w : World) : Fr M w w := ⟨rfl, rfl, rfl, Af _, fun _ _ _ => rfl⟩
theorem Fr.below {w w' : World} (h : Fr A6 w w') : Below w.heap.size w w' := ⟨h.os, h.tape, h.output, h.size, fun k hk => h.old k hk (fun x => x)⟩
section
variable {w0 w w' : World} {Z M : Nat → Prop} {m m' : List Res} {ds : List Dat}
theorem St.fr (h : St w0 Z M w m ds) : Fr M w0 w := ⟨h.os, h.tape, h.output, h.size, h.old⟩
theorem St.start (w0 : World) (Z M : Nat → Prop) (ds : List Dat) (h : ∀ d ∈ ds, d.φ w0 (imm Z w0 [] w0)) : St w0 Z M w0 [] ds :=
 ⟨rfl, rfl, rfl, Af _, fun _ _ _ => rfl, (fun _ h => by cases h), (fun _ h => by cases h), .nil, h⟩
theorem St.step (h : St w0 Z M w m ds) (hos : w'.os = w.os) (htape : w'.tape = w.tape) (hout : w'.output = w.output) (hsize : w.heap.size ≤ w'.heap.size)
  (hblk : ∀ k, k < w.heap.size → (∀ r ∈ m, r.blk ≠ some k) → w'.heap[k]? = w.heap[k]?)
  (hhold : ∀ r ∈ m', r.holds w')
  (hown : ∀ r ∈ m', ∀ k, r.blk = some k → k < w'.heap.size ∧ ((∃ r' ∈ m, r'.blk = some k) ∨ w.heap.size ≤ k))
  (hap : m'.Pairwise fun r s => ∀ k, r.blk = some k → s.blk ≠ some k) : St w0 Z M w' m' ds := by
 have himm : ∀ k, imm Z w0 m w k → imm Z w0 m' w' k ∧ w'.heap[k]? = w.heap[k]? := fun k hk => by
  refine ⟨⟨BS hk.1 hsize, hk.2.1, fun r hr e => ?_⟩, hblk k hk.1 hk.2.2⟩
  rcases (hown r hr k e).2 with ⟨r', hr', e'⟩ | hge
  · exact hk.2.2 r' hr' e'
  · exact absurd hk.1 (by omega)
 refine ⟨hos.trans h.os, htape.trans h.tape, hout.trans h.output, Bo h.size hsize, fun k hk hM => ?_, hhold, fun r hr k e => ⟨(hown r hr k e).1, ?_⟩, hap, fun d hd => d.mono _ _ _ _ hsize (h.dat d hd) himm⟩
 ·
  refine (hblk k (BS hk h.size) (fun r hr e => ?_)).trans (h.old k hk hM)
  rcases (h.own r hr k e).2 with h1 | h1
  · omega
  · exact hM h1
 ·
  rcases (hown r hr k e).2 with ⟨r', hr', e'⟩ | hge
  · exact (h.own r' hr' k e').2
  · exact .inl (Bo h.size hge)
theorem ER {r : Res} {B : Nat} (h : r.holds w) (hb : Below B w w') (hk : ∀ k, r.blk = some k → k < B) : r.holds w' := by
 cases r with
 | box g t cs => exact (hb.block g (hk g rfl)).trans h
 | mp g es c => exact (hb.block g (hk g rfl)).trans h
 | row A n cap e size xs =>
  refine ⟨h.1, ?_⟩
  rcases h.2 with h1 | ⟨g, cap', cur, hv, h1, h2, h3⟩
  · exact .inl h1
  ·
   refine .inr ⟨g, cap', cur, hv, h1, ?_, h3⟩
   have hA : A = some ⟨g, 0, none⟩ := by injection hv
   exact (hb.block g (hk g (by simp [Res.blk, hA]))).trans h2
theorem St.below (h : St w0 Z M w m ds) (hb : Below w.heap.size w w') : St w0 Z M w' m ds :=
 h.step hb.os hb.tape hb.output hb.size (fun k hk _ => hb.block k hk) (fun r hr => ER (h.hold r hr) hb (fun k e => (h.own r hr k e).1))
  (fun r hr k e => ⟨BS (h.own r hr k e).1 hb.size, .inl ⟨r, hr, e⟩⟩) h.apart
theorem St.drew (h : St w0 Z M w m ds) : St w0 Z M w.drew m ds := h.below ((Below.refl _ _).drew)
theorem HT (w : World) (o : Obj) (k : Nat) (hk : k < w.heap.size) : (w.alloc o).heap[k]? = w.heap[k]? := Below.heap_alloc w o k hk
theorem St.alloc (h : St w0 Z M w m ds) (r : Res) (o : Obj) (hr : r.holds (w.alloc o)) (hb : r.blk = some w.heap.size) : St w0 Z M (w.alloc o) (m ++ [r]) ds := by
 have hbel : Below w.heap.size w (w.alloc o) := (Below.refl _ _).alloc (Af _) _
 refine h.step rfl rfl rfl (by simp) (fun k hk _ => HT w o k hk) ?_ ?_ ?_
 ·
  intro s hs
  rcases B5.1 hs with hs | hs
  · exact ER (h.hold s hs) hbel (fun k e => (h.own s hs k e).1)
  ·
   rw [AB] at hs
   subst hs
   exact hr
 ·
  intro s hs k e
  rcases B5.1 hs with hs | hs
  · exact ⟨by have := (h.own s hs k e).1; simp; omega, .inl ⟨s, hs, e⟩⟩
  ·
   rw [AB] at hs
   subst hs
   rw [hb] at e
   obtain rfl := B4 e
   exact ⟨by simp, .inr (Af _)⟩
 ·
  rw [List.pairwise_append]
  refine ⟨h.apart, by simp, fun s hs t ht k e e' => ?_⟩
  rw [AB] at ht
  subst ht
  rw [hb] at e'
  obtain rfl := B4 e'
  have := (h.own s hs _ e).1
  omega
theorem CO (h : m.Pairwise fun r s => ∀ k, r.blk = some k → s.blk ≠ some k) {i j : Nat} (hij : i ≠ j) {r s : Res} (hi : m[i]? = some r) (hj : m[j]? = some s) {k : Nat} (hk : r.blk = some k) : s.blk ≠ some k := by
 rw [List.pairwise_iff_getElem] at h
 obtain ⟨hil, rfl⟩ := List.getElem?_eq_some_iff.1 hi
 obtain ⟨hjl, rfl⟩ := List.getElem?_eq_some_iff.1 hj
 rcases Nat.lt_or_ge i j with hlt | hge
 · exact h i j hil hjl hlt k hk
 ·
  intro e
  exact h j i hjl hil (by omega) k e hk
theorem St.turn (h : St w0 Z M w m ds) {i : Nat} {r r' : Res} (hi : m[i]? = some r) (hos : w'.os = w.os) (htape : w'.tape = w.tape) (hout : w'.output = w.output) (hsize : w.heap.size ≤ w'.heap.size)
  (hold : ∀ k, k < w.heap.size → r.blk ≠ some k → w'.heap[k]? = w.heap[k]?) (hr' : r'.holds w')
  (hb : ∀ k, r'.blk = some k → k < w'.heap.size ∧ (r.blk = some k ∨ w.heap.size ≤ k)) : St w0 Z M w' (m.set i r') ds := by
 have hmem : r ∈ m := Ax hi
 have hil : i < m.length := (List.getElem?_eq_some_iff.1 hi).1
 have other : ∀ s ∈ m.set i r', s = r' ∨ ∃ j, j ≠ i ∧ m[j]? = some s := fun s hs => by
  obtain ⟨j, hj⟩ := List.mem_iff_getElem?.1 hs
  rw [List.getElem?_set] at hj
  by_cases hij : i = j
  ·
   subst hij
   rw [At rfl, At hil] at hj
   exact .inl (B4 hj).symm
  ·
   rw [Aq hij] at hj
   exact .inr ⟨j, Ne.symm hij, hj⟩
 refine h.step hos htape hout hsize (fun k hk hk2 => hold k hk (hk2 r hmem)) ?_ ?_ ?_
 ·
  intro s hs
  rcases other s hs with rfl | ⟨j, hji, hj⟩
  · exact hr'
  ·
   have hsm : s ∈ m := Ax hj
   have hsh := h.hold s hsm
   have hne : ∀ k, s.blk = some k → w'.heap[k]? = w.heap[k]? := fun k e =>
    hold k (h.own s hsm k e).1 (fun e' => CO h.apart hji hj hi e e')
   cases s with
   | box g t cs => exact (hne g rfl).trans hsh
   | mp g es c => exact (hne g rfl).trans hsh
   | row A n cap e size xs =>
    refine ⟨hsh.1, ?_⟩
    rcases hsh.2 with h1 | ⟨g, cap', cur, hv, h1, h2, h3⟩
    · exact .inl h1
    ·
     refine .inr ⟨g, cap', cur, hv, h1, ?_, h3⟩
     have hA : A = some ⟨g, 0, none⟩ := by injection hv
     exact (hne g (by simp [Res.blk, hA])).trans h2
 ·
  intro s hs k e
  rcases other s hs with rfl | ⟨j, hji, hj⟩
  ·
   refine ⟨(hb k e).1, ?_⟩
   rcases (hb k e).2 with h1 | h1
   · exact .inl ⟨r, hmem, h1⟩
   · exact .inr h1
  ·
   have hsm : s ∈ m := Ax hj
   exact ⟨BS (h.own s hsm k e).1 hsize, .inl ⟨s, hsm, e⟩⟩
 ·
  rw [List.pairwise_iff_getElem]
  intro a b ha hb' hab k e e'
  rw [List.length_set] at ha hb'
  have hga : m[a]? = some m[a] := Bx ha
  have hgb : m[b]? = some m[b] := Bx hb'
  by_cases hai : a = i
  ·
   subst hai
   rw [List.getElem_set_self] at e
   rw [List.getElem_set_ne (by omega)] at e'
   rcases (hb k e).2 with h1 | h1
   · exact CO h.apart (by omega : a ≠ b) hi hgb h1 e'
   ·
    have := (h.own _ (Ax hgb) k e').1
    omega
  ·
   rw [List.getElem_set_ne (by omega)] at e
   by_cases hbi : b = i
   ·
    subst hbi
    rw [List.getElem_set_self] at e'
    rcases (hb k e').2 with h1 | h1
    · exact CO h.apart (by omega : a ≠ b) hga hi e h1
    ·
     have := (h.own _ (Ax hga) k e).1
     omega
   ·
    rw [List.getElem_set_ne (by omega)] at e'
    exact CO h.apart (by omega : a ≠ b) hga hgb e e'
theorem St.data (h : St w0 Z M w m ds) (d : Dat) (hd : d.φ w (imm Z w0 m w)) : St w0 Z M w m (ds ++ [d]) :=
 ⟨h.os, h.tape, h.output, h.size, h.old, h.hold, h.own, h.apart, fun x hx => by
  rcases B5.1 hx with hx | hx
  · exact h.dat x hx
  ·
   rw [AB] at hx
   subst hx
   exact hd⟩
theorem St.datas (h : St w0 Z M w m ds) (ds' : List Dat) (hd : ∀ d ∈ ds', d.φ w (imm Z w0 m w)) : St w0 Z M w m ds' :=
 ⟨h.os, h.tape, h.output, h.size, h.old, h.hold, h.own, h.apart, hd⟩
theorem St.get (h : St w0 Z M w m ds) {i : Nat} {d : Dat} (hi : ds[i]? = some d) : d.φ w (imm Z w0 m w) := h.dat d (Ax hi)
theorem St.res (h : St w0 Z M w m ds) {i : Nat} {r : Res} (hi : m[i]? = some r) : r.holds w := h.hold r (Ax hi)
theorem St.drop (h : St w0 Z M w m ds) (m' : List Res) (hs : m'.Sublist m) : St w0 Z M w m' ds :=
 h.step rfl rfl rfl (Af _) (fun _ _ _ => rfl) (fun r hr => h.hold r (hs.subset hr)) (fun r hr k e => ⟨(h.own r (hs.subset hr) k e).1, .inl ⟨r, hs.subset hr, e⟩⟩) (h.apart.sublist hs)
end
end
section
/- The operations, one rule each: what computes only. -/
open Go.RowKit
theorem MQ {x z : Int} (hz : x = z) (h1 : -1000000000000000 ≤ z) (h2 : z ≤ 1000000000000000) : IntKind.i64.wrap x = z := by
 subst hz
 exact IntWalk.i64_in _ ⟨by omega, by omega⟩
section
variable {P : Program} {X : Prop} {Next : Act → World → Prop} {o : Oper} {a : Act} {w : World} {N : Nat} {l : List (Nat × Value)} {d : Nat}
theorem Cv {v : Value} (hs : SteV P X Next o a w) (hR : Reg a N l) (hd : o.dst = some d) (hdN : d < N) (hrun : (execOp a.eval o).run P w = .ok (.value v) w)
  (k : ∀ a', Reg a' N ((d, v) :: l) → Next a' w) : X :=
 hs.val v w hrun (by rw [hd]; exact k _ (hR.put hdN v))
theorem CI {x : Operand} {v : Value} (hs : SteV P X Next o a w) (hR : Reg a N l) (hd : o.dst = some d) (ho : o.op = .move x) (hx : ev l x = some v) (hdN : d < N)
  (k : ∀ a', Reg a' N ((d, v) :: l) → Next a' w) : X :=
 Cv hs hR hd hdN (by unfold execOp; rw [ho]; simp only [hR.ev hx]; rfl) k
theorem O0 {x : Operand} {v : Value} (hs : SteV P X Next o a w) (hR : Reg a N l) (hd : o.dst = some d) (ho : o.op = .assign x) (hx : ev l x = some v) (hdN : d < N)
  (k : ∀ a', Reg a' N ((d, v) :: l) → Next a' w) : X :=
 Cv hs hR hd hdN (by unfold execOp; rw [ho]; simp only [hR.ev hx]; rfl) k
theorem EX {c x y : Operand} {v : Value} (hs : SteV P X Next o a w) (hR : Reg a N l) (hd : o.dst = some d) (ho : o.op = .pick c x y) (hc : ev l c = some (.bool true)) (hx : ev l x = some v) (hdN : d < N)
  (k : ∀ a', Reg a' N ((d, v) :: l) → Next a' w) : X :=
 Cv hs hR hd hdN (by unfold execOp; rw [ho]; simp only [hR.ev hc, hR.ev hx]; rfl) k
theorem FG {c x y : Operand} {v : Value} (hs : SteV P X Next o a w) (hR : Reg a N l) (hd : o.dst = some d) (ho : o.op = .pick c x y) (hc : ev l c = some (.bool false)) (hy : ev l y = some v) (hdN : d < N)
  (k : ∀ a', Reg a' N ((d, v) :: l) → Next a' w) : X :=
 Cv hs hR hd hdN (by unfold execOp; rw [ho]; simp only [hR.ev hc, hR.ev hy]; rfl) k
section
variable {x y : Operand} {t u : TypeId} {p q : Int} {ki : IntKind}
theorem EL {op : BinOp} {v : Value} (hR : Reg a N l) (ho : o.op = .binOp op t x y u) (hx : ev l x = some (.int ki p)) (hy : ev l y = some (.int ki q))
  (h : (binOp op t (.int ki p) (.int ki q)).run P w = .ok v w) : (execOp a.eval o).run P w = .ok (.value v) w := by
 have hg : (eqGuard op t x y (.int ki p) (.int ki q)).run P w = .ok () w := by
  unfold eqGuard
  cases op <;> rfl
 unfold execOp
 rw [ho]
 simp only [hR.ev hx, hR.ev hy, AF, hg, Az, h, Bg]
theorem r_leq (hs : SteV P X Next o a w) (hR : Reg a N l) (hd : o.dst = some d) (ho : o.op = .binOp .leq t x y u) (hx : ev l x = some (.int ki p)) (hy : ev l y = some (.int ki q)) (hdN : d < N)
  (k : ∀ a', Reg a' N ((d, .bool (decide (p ≤ q))) :: l) → Next a' w) : X :=
 Cv hs hR hd hdN (EL hR ho hx hy (by simp [binOp, Op.intCmp])) k
theorem r_gtr (hs : SteV P X Next o a w) (hR : Reg a N l) (hd : o.dst = some d) (ho : o.op = .binOp .gtr t x y u) (hx : ev l x = some (.int ki p)) (hy : ev l y = some (.int ki q)) (hdN : d < N)
  (k : ∀ a', Reg a' N ((d, .bool (decide (q < p))) :: l) → Next a' w) : X :=
 Cv hs hR hd hdN (EL hR ho hx hy (by simp [binOp, Op.intCmp])) k
theorem r_geq (hs : SteV P X Next o a w) (hR : Reg a N l) (hd : o.dst = some d) (ho : o.op = .binOp .geq t x y u) (hx : ev l x = some (.int ki p)) (hy : ev l y = some (.int ki q)) (hdN : d < N)
  (k : ∀ a', Reg a' N ((d, .bool (decide (q ≤ p))) :: l) → Next a' w) : X :=
 Cv hs hR hd hdN (EL hR ho hx hy (by simp [binOp, Op.intCmp])) k
theorem Nn (hs : SteV P X Next o a w) (hR : Reg a N l) (hd : o.dst = some d) (ho : o.op = .binOp .eql t x y u) (hx : ev l x = some (.int ki p)) (hy : ev l y = some (.int ki q)) (hdN : d < N)
  (k : ∀ a', Reg a' N ((d, .bool (decide (p = q))) :: l) → Next a' w) : X :=
 Cv hs hR hd hdN (EL hR ho hx hy (by simp [binOp, Op.intCmp]; rfl)) k
theorem r_neq (hs : SteV P X Next o a w) (hR : Reg a N l) (hd : o.dst = some d) (ho : o.op = .binOp .neq t x y u) (hx : ev l x = some (.int ki p)) (hy : ev l y = some (.int ki q)) (hdN : d < N)
  (k : ∀ a', Reg a' N ((d, .bool (!decide (p = q))) :: l) → Next a' w) : X :=
 Cv hs hR hd hdN (EL hR ho hx hy (by simp [binOp, Op.intCmp]; rfl)) k
theorem IB {z : Int} (hs : SteV P X Next o a w) (hR : Reg a N l) (hd : o.dst = some d) (ho : o.op = .binOp .add t x y u) (hx : ev l x = some (.int .i64 p)) (hy : ev l y = some (.int .i64 q)) (hdN : d < N)
  (hz : p + q = z) (h1 : -1000000000000000 ≤ z) (h2 : z ≤ 1000000000000000) (k : ∀ a', Reg a' N ((d, .int .i64 z) :: l) → Next a' w) : X :=
 Cv hs hR hd hdN (EL hR ho hx hy (by simp [binOp, Op.intArith, MQ hz h1 h2])) k
theorem P3 {z : Int} (hs : SteV P X Next o a w) (hR : Reg a N l) (hd : o.dst = some d) (ho : o.op = .binOp .sub t x y u) (hx : ev l x = some (.int .i64 p)) (hy : ev l y = some (.int .i64 q)) (hdN : d < N)
  (hz : p - q = z) (h1 : -1000000000000000 ≤ z) (h2 : z ≤ 1000000000000000) (k : ∀ a', Reg a' N ((d, .int .i64 z) :: l) → Next a' w) : X :=
 Cv hs hR hd hdN (EL hR ho hx hy (by simp [binOp, Op.intArith, MQ hz h1 h2])) k
theorem r_mul {z : Int} (hs : SteV P X Next o a w) (hR : Reg a N l) (hd : o.dst = some d) (ho : o.op = .binOp .mul t x y u) (hx : ev l x = some (.int .i64 p)) (hy : ev l y = some (.int .i64 q)) (hdN : d < N)
  (hz : p * q = z) (h1 : -1000000000000000 ≤ z) (h2 : z ≤ 1000000000000000) (k : ∀ a', Reg a' N ((d, .int .i64 z) :: l) → Next a' w) : X :=
 Cv hs hR hd hdN (EL hR ho hx hy (by simp [binOp, Op.intArith, MQ hz h1 h2])) k
theorem LZ {op : BinOp} {v : Value} (hs : SteV P X Next o a w) (hR : Reg a N l) (hd : o.dst = some d) (ho : o.op = .binOp op t x y u) (hx : ev l x = some (.int ki p)) (hy : ev l y = some (.int ki q)) (hdN : d < N)
  (h : (binOp op t (.int ki p) (.int ki q)).run P w = .ok v w) (k : ∀ a', Reg a' N ((d, v) :: l) → Next a' w) : X :=
 Cv hs hR hd hdN (EL hR ho hx hy h) k
theorem MZ {op : BinOp} {v : Value} {s s' : ByteArray} (hR : Reg a N l) (ho : o.op = .binOp op t x y u) (hx : ev l x = some (.string s)) (hy : ev l y = some (.string s'))
  (h : (Op.stringOp op s s').run P w = .ok v w) : (execOp a.eval o).run P w = .ok (.value v) w := by
 have hg : (eqGuard op t x y (.string s) (.string s')).run P w = .ok () w := by
  unfold eqGuard
  cases op <;> rfl
 have hb : binOp op t (.string s) (.string s') = Op.stringOp op s s' := by unfold binOp; cases op <;> rfl
 unfold execOp
 rw [ho]
 simp only [hR.ev hx, hR.ev hy, AF, hg, hb, Az, h, Bg]
theorem toList_eq (s s' : ByteArray) : (s.toList == s'.toList) = decide (s = s') := by
 rw [Bool.eq_iff_iff, B8, beq_iff_eq, ByteArray.toList_eq, ByteArray.toList_eq]
 exact ⟨fun h => ByteArray.ext (Array.toList_inj.mp h), fun h => by rw [h]⟩
theorem r_eqlS {s s' : ByteArray} (hs : SteV P X Next o a w) (hR : Reg a N l) (hd : o.dst = some d) (ho : o.op = .binOp .eql t x y u) (hx : ev l x = some (.string s)) (hy : ev l y = some (.string s')) (hdN : d < N)
  (k : ∀ a', Reg a' N ((d, .bool (decide (s = s'))) :: l) → Next a' w) : X :=
 Cv hs hR hd hdN (MZ hR ho hx hy (by simp only [Op.stringOp, toList_eq]; rfl)) k
end
theorem GX {x : Operand} {t : TypeId} {b : Bool} (hs : SteV P X Next o a w) (hR : Reg a N l) (hd : o.dst = some d) (ho : o.op = .unOp .not t x) (hx : ev l x = some (.bool b)) (hdN : d < N)
  (k : ∀ a', Reg a' N ((d, .bool (!b)) :: l) → Next a' w) : X :=
 Cv hs hR hd hdN (by unfold execOp; rw [ho]; simp only [hR.ev hx]; rfl) k
theorem Ma {x : Operand} {i : Nat} {vs : Array Value} {v : Value} (hs : SteV P X Next o a w) (hR : Reg a N l) (hd : o.dst = some d) (ho : o.op = .extract x i) (hx : ev l x = some (.tuple vs)) (hi : vs[i]? = some v) (hdN : d < N)
  (k : ∀ a', Reg a' N ((d, v) :: l) → Next a' w) : X :=
 Cv hs hR hd hdN (by unfold execOp; rw [ho]; simp only [hR.ev hx, Instr.extract, hi]; rfl) k
theorem C8 {f : FuncId} {cs : Array Operand} {vs : List Value} (hs : SteV P X Next o a w) (hR : Reg a N l) (hd : o.dst = some d) (ho : o.op = .makeFunc (.func f) #[] cs) (hx : evs l cs.toList = some vs) (hdN : d < N)
  (k : ∀ a', Reg a' N ((d, .func (.func f) #[] vs.toArray) :: l) → Next a' w) : X :=
 Cv hs hR hd hdN (by
  have : cs.map a.eval = vs.toArray := by
   rw [← hR.evs hx, ← List.map_toArray, Array.toArray_toList]
  unfold execOp; rw [ho]; simp [Instr.makeFunc]; exact this) k
theorem P4 {t u : TypeId} {x : Operand} {A : Option Addr} {n c : Nat} {e : TypeId} (hs : SteV P X Next o a w) (hR : Reg a N l) (hd : o.dst = some d) (ho : o.op = .call { callee := .builtin .len, args := #[x], argTypes := #[t] }) (_hu : o.type = u)
  (hx : ev l x = some (.slice A n c)) (ht : P.underlying t = some (.slice e)) (hdN : d < N) (k : ∀ a', Reg a' N ((d, .int .i64 (n : Int)) :: l) → Next a' w) : X :=
 Cv hs hR hd hdN (by
  unfold execOp; rw [ho]
  simp only [resolve, invoke, builtin, AF, Bg, Az, List.map_toArray, BJ, C6, hR.ev hx, Builtin.len_]
  simp [run_underlying ht, goInt]) k
theorem r_lenS {t u : TypeId} {x : Operand} {s : ByteArray} (hs : SteV P X Next o a w) (hR : Reg a N l) (hd : o.dst = some d) (ho : o.op = .call { callee := .builtin .len, args := #[x], argTypes := #[t] }) (_hu : o.type = u)
  (hx : ev l x = some (.string s)) (ht : P.underlying t = some .string) (hdN : d < N) (k : ∀ a', Reg a' N ((d, .int .i64 (s.size : Int)) :: l) → Next a' w) : X :=
 Cv hs hR hd hdN (by
  unfold execOp; rw [ho]
  simp only [resolve, invoke, builtin, AF, Bg, Az, List.map_toArray, BJ, C6, hR.ev hx, Builtin.len_]
  simp [run_underlying ht, goInt]) k
theorem LY {ts : Array TypeId} {u : TypeId} {x y : Operand} {p q : Int} {ki : IntKind} (hs : SteV P X Next o a w) (hR : Reg a N l) (hd : o.dst = some d) (ho : o.op = .call { callee := .builtin .max, args := #[x, y], argTypes := ts }) (_hu : o.type = u)
  (hx : ev l x = some (.int ki p)) (hy : ev l y = some (.int ki q)) (hdN : d < N) (k : ∀ a', Reg a' N ((d, .int ki (max p q)) :: l) → Next a' w) : X :=
 Cv hs hR hd hdN (by
  have hm : (if q > p then q else p) = max p q := by split <;> omega
  unfold execOp; rw [ho]
  simp only [resolve, invoke, builtin, AF, Bg, Az, List.map_toArray, BJ, C6, hR.ev hx, hR.ev hy, Builtin.max_]
  simp only [List.foldlM, Builtin.max2, hm]
  rfl) k
theorem r_min {ts : Array TypeId} {u : TypeId} {x y : Operand} {p q : Int} {ki : IntKind} (hs : SteV P X Next o a w) (hR : Reg a N l) (hd : o.dst = some d) (ho : o.op = .call { callee := .builtin .min, args := #[x, y], argTypes := ts }) (_hu : o.type = u)
  (hx : ev l x = some (.int ki p)) (hy : ev l y = some (.int ki q)) (hdN : d < N) (k : ∀ a', Reg a' N ((d, .int ki (min p q)) :: l) → Next a' w) : X :=
 Cv hs hR hd hdN (by
  have hm : (if q < p then q else p) = min p q := by split <;> omega
  unfold execOp; rw [ho]
  simp only [resolve, invoke, builtin, AF, Bg, Az, List.map_toArray, BJ, C6, hR.ev hx, hR.ev hy, Builtin.min_]
  simp only [List.foldlM, Builtin.min2, hm]
  rfl) k
theorem T4 {t : TypeId} {x y : Operand} {s : ByteArray} {p : Int} {ki : IntKind} {i : Nat} (hs : SteV P X Next o a w) (hR : Reg a N l) (hd : o.dst = some d) (ho : o.op = .index t x y) (hx : ev l x = some (.string s)) (hy : ev l y = some (.int ki p))
  (ht : P.underlying t = some .string) (hp : p = (i : Int)) (hi : i < s.size) (hdN : d < N) (k : ∀ a', Reg a' N ((d, .int .u8 ((s[i]).toNat : Int)) :: l) → Next a' w) : X :=
 Cv hs hR hd hdN (by
  subst hp
  unfold execOp; rw [ho]
  simp [hR.ev hx, hR.ev hy, Instr.index, asIntOf, run_underlying ht, hi]) k
end
end
section
/- The operations, one rule each: memory. -/
open Go.RowKit
def CellsAt (w : World) (p : Addr) (xs : List Value) : Prop := ∀ j u, xs[j]? = some u → w.cell? (p.add j) = some u
theorem Eh (a : Addr) (n : Nat) : (a.add n).block = a.block := by unfold Addr.add; split <;> rfl
theorem DE (a : Addr) (i j : Nat) : (a.add i).add j = a.add (i + j) := by
 unfold Addr.add
 by_cases hi : i = 0 <;> by_cases hj : j = 0 <;> simp [hi, hj, Nat.add_assoc]
def eP (A : Option Addr) (j : Nat) : Option Addr := A.map (·.add j)
def ElemAt (w : World) (A : Option Addr) (j : Nat) (vs : List Value) : Prop := ∃ ad, A = some ad ∧ CellsAt w (ad.add j) vs
def RowI (w : World) (I : Nat → Prop) (size : Nat) (A : Option Addr) (n : Nat) (xs : List Value) : Prop :=
 xs.length = n * size ∧ (0 < n → ∃ ad, A = some ad ∧ I ad.block ∧ CellsAt w ad xs)
section
variable {w w' : World} {I I' : Nat → Prop} {size n : Nat} {A : Option Addr} {xs : List Value}
theorem CellsAt.keep {p : Addr} (h : CellsAt w p xs) (hk : w'.heap[p.block]? = w.heap[p.block]?) : CellsAt w' p xs :=
 fun j u hu => (World.cell?_of_block (by rw [Eh]; exact hk)).trans (h j u hu)
theorem CellsAt.drop {p : Addr} (h : CellsAt w p xs) (k : Nat) : CellsAt w (p.add k) (xs.drop k) := fun j u hu => by
 rw [DE]; exact h _ u (by rw [← hu, List.getElem?_drop])
theorem CellsAt.take {p : Addr} (h : CellsAt w p xs) (k : Nat) : CellsAt w p (xs.take k) := fun j u hu => by
 refine h j u ?_
 rw [List.getElem?_take] at hu
 split at hu
 · exact hu
 · cases hu
theorem RowI.mono (h : RowI w I size A n xs) (hk : ∀ k, I k → I' k ∧ w'.heap[k]? = w.heap[k]?) : RowI w' I' size A n xs :=
 ⟨h.1, fun hn => by
  obtain ⟨ad, e, hb, hc⟩ := h.2 hn
  exact ⟨ad, e, (hk _ hb).1, hc.keep (hk _ hb).2⟩⟩
theorem RowI.nil (w : World) (I : Nat → Prop) (size : Nat) (A : Option Addr) : RowI w I size A 0 [] := ⟨by simp, fun h => absurd h (by omega)⟩
theorem RowI.some_ (h : RowI w I size A n xs) (hn : 0 < n) : A.isSome = true := by
 obtain ⟨ad, rfl, _⟩ := h.2 hn
 rfl
theorem RowI.elem (h : RowI w I size A n xs) {k : Nat} (hk : k < n) : ElemAt w A (k * size) ((xs.drop (k * size)).take size) := by
 obtain ⟨ad, rfl, hb, hc⟩ := h.2 (by omega)
 exact ⟨ad, rfl, (hc.drop (k * size)).take size⟩
theorem RowI.from_ (h : RowI w I size A n xs) {k cap : Nat} (hk : k ≤ n) (hc : n ≤ cap) : RowI w I size (if cap = k then A else A.map (·.add (k * size))) (n - k) (xs.drop (k * size)) := by
 refine ⟨by rw [BK, h.1, Nat.sub_mul], fun hn => ?_⟩
 obtain ⟨ad, rfl, hb, hcell⟩ := h.2 (by omega)
 rw [Aq (by omega)]
 exact ⟨ad.add (k * size), rfl, by rw [Eh]; exact hb, hcell.drop _⟩
theorem RowI.take (h : RowI w I size A n xs) {k : Nat} (hk : k ≤ n) : RowI w I size A k (xs.take (k * size)) := by
 refine ⟨by rw [Ah, h.1]; exact Nat.min_eq_left (Nat.mul_le_mul_right _ hk), fun hn => ?_⟩
 obtain ⟨ad, rfl, hb, hcell⟩ := h.2 (by omega)
 exact ⟨ad, rfl, hb, hcell.take _⟩
theorem EY {e cap : Nat} {base : Nat} (h : w.ownsRow base e size (.slice A n cap) n xs) (hn : 0 < n) : ∃ g, A = some ⟨g, 0, none⟩ := by
 rcases h.2 with ⟨h1, h2⟩ | ⟨g, cap', cur, hv, h1, h2, h3, h4, h5, h6⟩
 · omega
 · exact ⟨g, by injection hv⟩
theorem Hb {e cap : Nat} {base : Nat} (h : w.ownsRow base e size (.slice A n cap) n xs) {k : Nat} (hk : k < n) : ElemAt w A (k * size) ((xs.drop (k * size)).take size) := by
 obtain ⟨g, rfl⟩ := EY h (by omega)
 have hc : CellsAt w ⟨g, 0, none⟩ xs := fun j u hu => h.cells (g := g) rfl j u hu
 exact ⟨_, rfl, (hc.drop (k * size)).take size⟩
theorem O7 {e cap : Nat} {base : Nat} (h : w.ownsRow base e size (.slice A n cap) n xs) : 0 < n → ∃ ad, A = some ad ∧ CellsAt w ad xs := fun hn => by
 obtain ⟨g, rfl⟩ := EY h hn
 exact ⟨_, rfl, fun j u hu => h.cells (g := g) rfl j u hu⟩
theorem O6 {e base : Nat} {cap : Nat} (h : w.ownsRow base e size (.slice A n cap) n xs) {k : Nat} (hk : k ≤ n) : w.ownsRow base e size (.slice A k cap) k (xs.take (k * size)) := by
 have hl : (xs.take (k * size)).length = k * size := by
  rw [Ah, h.1]; exact Nat.min_eq_left (Nat.mul_le_mul_right _ hk)
 refine ⟨hl, ?_⟩
 rcases h.2 with ⟨h1, h2⟩ | ⟨g, cap', cur, hv, h1, h2, h3, h4, h5, h6⟩
 ·
  injection h1 with ha hb hc
  subst ha; subst hc
  exact .inl ⟨by rw [show k = 0 by omega], by omega⟩
 ·
  injection hv with ha hb hc
  subst ha; subst hc
  refine .inr ⟨g, cap, cur, rfl, h1, h2, by omega, h4, h5, ?_⟩
  rw [← h6, List.take_take, Nat.min_eq_left (Nat.mul_le_mul_right _ hk)]
theorem KS {base e : Nat} {v : Value} (h : w.ownsRow base e size v n xs) : ∃ A cap, v = .slice A n cap ∧ n ≤ cap ∧ w.ownsRow base e size (.slice A n cap) n xs := by
 rcases h.2 with ⟨rfl, rfl⟩ | ⟨g, cap, cur, rfl, h1, h2, h3, h4, h5⟩
 · exact ⟨none, 0, rfl, Af _, h⟩
 · exact ⟨some ⟨g, 0, none⟩, cap, rfl, h3, h⟩
theorem Db {base e cap : Nat} (h : w.ownsRow base e size (.slice A n cap) n xs) : n ≤ cap := by
 obtain ⟨A', c', hv, hle, _⟩ := KS h
 injection hv with _ _ hc
 omega
end
theorem St.row_data {w0 w : World} {Z M : Nat → Prop} {m : List Res} {ds : List Dat} (h : St w0 Z M w m ds) {i : Nat} {A : Option Addr} {n cap e size : Nat} {xs : List Value}
  (hi : m[i]? = some (.row A n cap e size xs)) (hM : ∀ k, ¬ M k) : St w0 Z M w (m.eraseIdx i) ds ∧ RowI w (imm Z w0 (m.eraseIdx i) w) size A n xs := by
 have hr : w.ownsRow 0 e size (.slice A n cap) n xs := h.res hi
 refine ⟨h.drop _ (List.eraseIdx_sublist m i), hr.1, fun hn => ?_⟩
 obtain ⟨g, rfl⟩ := EY hr hn
 refine ⟨_, rfl, ⟨(h.own _ (Ax hi) g rfl).1, fun hlt => ?_, fun r hmem e => ?_⟩, fun j u hu => hr.cells (g := g) rfl j u hu⟩
 ·
  rcases (h.own _ (Ax hi) g rfl).2 with h1 | h1
  ·
   have hlt' : g < w0.heap.size := hlt
   omega
  · exact absurd h1 (hM g)
 obtain ⟨j, hj⟩ := List.mem_iff_getElem?.1 hmem
 rw [List.getElem?_eraseIdx] at hj
 by_cases hji : j < i
 ·
  rw [At hji] at hj
  exact CO h.apart (by omega : j ≠ i) hj hi e rfl
 ·
  rw [Aq hji] at hj
  exact CO h.apart (by omega : j + 1 ≠ i) hj hi e rfl
theorem St.nilrow {w0 w : World} {Z M : Nat → Prop} {m : List Res} {ds : List Dat} (h : St w0 Z M w m ds) (e size : Nat) : St w0 Z M w (m ++ [.row none 0 0 e size []]) ds :=
 h.step rfl rfl rfl (Af _) (fun _ _ _ => rfl)
  (fun r hr => by
   rcases B5.1 hr with hr | hr
   · exact h.hold r hr
   ·
    rw [AB] at hr; subst hr
    exact ⟨by simp, .inl ⟨rfl, rfl⟩⟩)
  (fun r hr k e => by
   rcases B5.1 hr with hr | hr
   · exact ⟨(h.own r hr k e).1, .inl ⟨r, hr, e⟩⟩
   ·
    rw [AB] at hr; subst hr
    cases e)
  (by
   rw [List.pairwise_append]
   refine ⟨h.apart, by simp, fun r _ s hs k _ e' => ?_⟩
   rw [AB] at hs; subst hs
   cases e')
section
variable {P : Program} {X : Prop} {Next : Act → World → Prop} {o : Oper} {a : Act} {w w0 : World} {N : Nat} {l : List (Nat × Value)} {d : Nat} {Z M : Nat → Prop} {m : List Res} {ds : List Dat}
theorem JL (w : World) (e : TypeId) (v : Value) : (newVar e v).run P w = .ok ⟨w.heap.size, 0, none⟩ (w.alloc (.cells v.cells e)) := rfl
theorem Ws {e : TypeId} {z : Value} {cs : List Value} (hs : SteV P X Next o a w) (hR : Reg a N l) (hS : St w0 Z M w m ds) (hd : o.dst = some d) (ho : o.op = .alloc e) (hz : (P.info? e).map (·.zero) = some (some z)) (hc : z.cells.toList = cs) (hdN : d < N)
  (k : ∀ a' w' g, Reg a' N ((d, .pointer (some ⟨g, 0, none⟩)) :: l) → St w0 Z M w' (m ++ [.box g e cs]) ds → Next a' w') : X := by
 cases hq : P.info? e with
 | none => simp [hq] at hz
 | some i =>
  have hzi : i.zero = some z := by simpa [hq] using hz
  refine hs.val (.pointer (some ⟨w.heap.size, 0, none⟩)) (w.alloc (.cells z.cells e)) ?_ ?_
  ·
   unfold execOp; rw [ho]
   simp [Instr.alloc, zeroValue, typeInfo, hq, hzi, JL]
  ·
   rw [hd]
   refine k _ _ _ (hR.put hdN _) (hS.alloc (.box w.heap.size e cs) _ ?_ rfl)
   subst hc
   simpa [Res.holds] using heap_alloc_new w (.cells z.cells e)
theorem m_box {e : TypeId} {x : Operand} {v : Value} {cs : List Value} (hs : SteV P X Next o a w) (hR : Reg a N l) (hS : St w0 Z M w m ds) (hd : o.dst = some d) (ho : o.op = .box e x) (hx : ev l x = some v) (hc : v.cells.toList = cs) (hdN : d < N)
  (k : ∀ a' w' g, Reg a' N ((d, .pointer (some ⟨g, 0, none⟩)) :: l) → St w0 Z M w' (m ++ [.box g e cs]) ds → Next a' w') : X := by
 refine hs.val (.pointer (some ⟨w.heap.size, 0, none⟩)) (w.alloc (.cells v.cells e)) ?_ ?_
 ·
  unfold execOp; rw [ho]
  simp [Instr.box, hR.ev hx, JL]
 ·
  rw [hd]
  refine k _ _ _ (hR.put hdN _) (hS.alloc (.box w.heap.size e cs) _ ?_ rfl)
  subst hc
  simpa [Res.holds] using heap_alloc_new w (.cells v.cells e)
theorem H5 {t : TypeId} {x : Operand} {f : Nat} {fs : Array Field} {fl : Field} {g j j' : Nat} {sz : Nat} (hs : SteV P X Next o a w) (hR : Reg a N l) (hd : o.dst = some d) (ho : o.op = .fieldAddr t x f) (hx : ev l x = some (.pointer (some ⟨g, j, none⟩)))
  (ht : P.underlying t = some (.struct fs)) (hf : fs[f]? = some fl) (hsz : (P.info? fl.type).map (·.size) = some sz) (hsz0 : (sz == 0) = false) (hj : (j + fl.offset == j') = true) (hdN : d < N)
  (k : ∀ a', Reg a' N ((d, .pointer (some ⟨g, j', none⟩)) :: l) → Next a' w) : X := by
 cases hq : P.info? fl.type with
 | none => simp [hq] at hsz
 | some i =>
  have hi : i.size = sz := by simpa [hq] using hsz
  have h0 : sz ≠ 0 := by simpa using hsz0
  have hjj : j + fl.offset = j' := by simpa using hj
  subst hjj
  refine Cv hs hR hd hdN ?_ k
  have hadd : (⟨g, j, none⟩ : Addr).add fl.offset = ⟨g, j + fl.offset, none⟩ := by unfold Addr.add; split <;> simp_all
  unfold execOp; rw [ho]
  simp [Instr.fieldAt, hR.ev hx, Instr.sureAddr, run_underlying ht, hf, fieldPlace, sizeOf, typeInfo, hq, hi, h0, hadd]
theorem CB {t : TypeId} {x : Operand} {f : Nat} {fs : Array Field} {fl : Field} {A : Option Addr} {j j' : Nat} {sz : Nat} (hs : SteV P X Next o a w) (hR : Reg a N l) (hd : o.dst = some d) (ho : o.op = .fieldAddr t x f) (hx : ev l x = some (.pointer (eP A j))) (hA : A.isSome = true)
  (ht : P.underlying t = some (.struct fs)) (hf : fs[f]? = some fl) (hsz : (P.info? fl.type).map (·.size) = some sz) (hsz0 : (sz == 0) = false) (hj : j + fl.offset = j') (hdN : d < N)
  (k : ∀ a', Reg a' N ((d, .pointer (eP A j')) :: l) → Next a' w) : X := by
 obtain ⟨ad, rfl⟩ := Option.isSome_iff_exists.1 hA
 cases hq : P.info? fl.type with
 | none => simp [hq] at hsz
 | some i =>
  have hi : i.size = sz := by simpa [hq] using hsz
  have h0 : sz ≠ 0 := by simpa using hsz0
  subst hj
  refine Cv hs hR hd hdN ?_ k
  unfold execOp; rw [ho]
  simp [Instr.fieldAt, hR.ev hx, Instr.sureAddr, run_underlying ht, hf, fieldPlace, sizeOf, typeInfo, hq, hi, h0, eP, DE]
def EB : TypeDesc → Bool
 | .struct _ | .array _ _ => true
 | _ => false
theorem GR {t : TypeId} {dsc : TypeDesc} (h : P.underlying t = some dsc) (w : World) : (isAgg t).run P w = .ok (EB dsc) w := by
 unfold isAgg
 rw [AF, run_underlying h w]
 cases dsc <;> rfl
theorem Ft {t : TypeId} {dsc : TypeDesc} {p : Addr} {v : Value} {w : World} (ht : P.underlying t = some dsc) (hd : EB dsc = false) (hc : w.cell? p = some v) : (loadVar t p).run P w = .ok v w := by
 simp [loadVar, AF, GR ht, hd, load, Sem.run, hc]
theorem FU {t : TypeId} {dsc : TypeDesc} {p : Addr} {vs : List Value} {w : World} (ht : P.underlying t = some dsc) (hd : EB dsc = true) (hsz : (P.info? t).map (·.size) = some vs.length) (hc : CellsAt w p vs) :
  (loadVar t p).run P w = .ok (.agg vs.toArray) w := by
 cases hq : P.info? t with
 | none => simp [hq] at hsz
 | some i =>
  have hi : i.size = vs.length := by simpa [hq] using hsz
  have hl : (loadCells p vs.length).run P w = .ok vs.toArray w := run_loadCells_list (P := P) w p vs hc
  simp [loadVar, AF, GR ht, hd, sizeOf, typeInfo, hq, hi, hl]
theorem F1 {g : Nat} {e : TypeId} {cs : List Value} (h : (Res.box g e cs).holds w) : CellsAt w ⟨g, 0, none⟩ cs := fun j u hu => by
 have : (⟨g, 0, none⟩ : Addr).add j = ⟨g, j, none⟩ := by unfold Addr.add; split <;> simp_all
 rw [this, cell_of_row w g j cs.toArray e (0, 0) h]
 simpa using hu
theorem Hj {t : TypeId} {x : Operand} {g j i : Nat} {e : TypeId} {cs : List Value} {v : Value} {dsc : TypeDesc} (hs : SteV P X Next o a w) (hR : Reg a N l) (hS : St w0 Z M w m ds) (hd : o.dst = some d) (ho : o.op = .load t x) (hx : ev l x = some (.pointer (some ⟨g, j, none⟩)))
  (hi : m[i]? = some (.box g e cs)) (hv : cs[j]? = some v) (ht : P.underlying t = some dsc) (hag : EB dsc = false) (hdN : d < N) (k : ∀ a', Reg a' N ((d, v) :: l) → Next a' w) : X := by
 refine Cv hs hR hd hdN ?_ k
 have hc : w.cell? ⟨g, j, none⟩ = some v := by
  have hb : w.heap[g]? = some (.cells cs.toArray e (0, 0)) := hS.res hi
  rw [cell_of_row w g j cs.toArray e (0, 0) hb]
  simpa using hv
 unfold execOp; rw [ho]
 simp only [hR.ev hx, Instr.loadAt, Instr.sureAddr, AF, Bg, Az, Ft ht hag hc]
theorem RM {t : TypeId} {x : Operand} {g j i : Nat} {e : TypeId} {cs vs : List Value} {dsc : TypeDesc} (hs : SteV P X Next o a w) (hR : Reg a N l) (hS : St w0 Z M w m ds) (hd : o.dst = some d) (ho : o.op = .load t x) (hx : ev l x = some (.pointer (some ⟨g, j, none⟩)))
  (hi : m[i]? = some (.box g e cs)) (hv : (cs.drop j).take vs.length = vs) (ht : P.underlying t = some dsc) (hag : EB dsc = true) (hsz : (P.info? t).map (·.size) = some vs.length) (hdN : d < N) (k : ∀ a', Reg a' N ((d, .agg vs.toArray) :: l) → Next a' w) : X := by
 refine Cv hs hR hd hdN ?_ k
 have hc : CellsAt w ⟨g, j, none⟩ vs := by
  have h1 := ((F1 (hS.res hi)).drop j).take vs.length
  rw [hv] at h1
  have : (⟨g, 0, none⟩ : Addr).add j = ⟨g, j, none⟩ := by unfold Addr.add; split <;> simp_all
  rwa [this] at h1
 unfold execOp; rw [ho]
 simp only [hR.ev hx, Instr.loadAt, Instr.sureAddr, AF, Bg, Az, FU ht hag hsz hc]
theorem G8 {t : TypeId} {x : Operand} {A : Option Addr} {j : Nat} {vs : List Value} {v : Value} {dsc : TypeDesc} (hs : SteV P X Next o a w) (hR : Reg a N l) (hd : o.dst = some d) (ho : o.op = .load t x) (hx : ev l x = some (.pointer (eP A j)))
  (i : Nat) (j0 : Nat) (he : ElemAt w A j0 vs) (hj : j = j0 + i) (hv : vs[i]? = some v) (ht : P.underlying t = some dsc) (hag : EB dsc = false) (hdN : d < N) (k : ∀ a', Reg a' N ((d, v) :: l) → Next a' w) : X := by
 obtain ⟨ad, rfl, hc⟩ := he
 subst hj
 refine Cv hs hR hd hdN ?_ k
 have h1 := hc i v hv
 rw [DE] at h1
 unfold execOp; rw [ho]
 simp only [hR.ev hx, eP, Cm, Instr.loadAt, Instr.sureAddr, AF, Bg, Az, Ft ht hag h1]
theorem Cw {t : TypeId} {x : Operand} {A : Option Addr} {j : Nat} {vs : List Value} {dsc : TypeDesc} (hs : SteV P X Next o a w) (hR : Reg a N l) (hd : o.dst = some d) (ho : o.op = .load t x) (hx : ev l x = some (.pointer (eP A j)))
  (he : ElemAt w A j vs) (ht : P.underlying t = some dsc) (hag : EB dsc = true) (hsz : (P.info? t).map (·.size) = some vs.length) (hdN : d < N) (k : ∀ a', Reg a' N ((d, .agg vs.toArray) :: l) → Next a' w) : X := by
 obtain ⟨ad, rfl, hc⟩ := he
 refine Cv hs hR hd hdN ?_ k
 unfold execOp; rw [ho]
 simp only [hR.ev hx, eP, Cm, Instr.loadAt, Instr.sureAddr, AF, Bg, Az, FU ht hag hsz hc]
theorem RL {t : TypeId} {x y : Operand} {g j i : Nat} {e : TypeId} {cs cs' : List Value} {v : Value} (hs : Ste P X Next o a w) (hR : Reg a N l) (hS : St w0 Z M w m ds) (hd : o.dst = none) (ho : o.op = .store t x y) (hx : ev l x = some (.pointer (some ⟨g, j, none⟩))) (hy : ev l y = some v)
  (hi : m[i]? = some (.box g e cs)) (hsz : (P.info? t).map (·.size) = some v.cells.toList.length) (hone : v.cells.toList.all Value.oneCell' = true) (hfit : decide (j + v.cells.toList.length ≤ cs.length) = true) (hcs : cs.take j ++ v.cells.toList ++ cs.drop (j + v.cells.toList.length) = cs')
  (k : ∀ a' w', Reg a' N l → St w0 Z M w' (m.set i (.box g e cs')) ds → Next a' w') : X := by
 have hb : w.heap[g]? = some (.cells cs.toArray e (0, 0)) := hS.res hi
 have hfit' : j + v.cells.toList.length ≤ cs.length := by simpa using hfit
 cases hq : P.info? t with
 | none => simp [hq] at hsz
 | some inf =>
  have hii : inf.size = v.cells.toList.length := by simpa [hq] using hsz
  have hrun : (storeVar t ⟨g, j, none⟩ v).run P w = .ok () (w.setRow g cs'.toArray) := by
   have h1 := run_storeCells_at P g j e v.cells.toList 0 cs.toArray w hb (by simpa using hfit') (List.all_eq_true.1 hone)
   simp only [Nat.add_zero] at h1
   rw [hcs] at h1
   have hii' : v.cells.size = inf.size := by simpa using hii.symm
   simp [storeVar, AF, sizeOf, typeInfo, hq, hii', h1]
  refine hs.skip (w.setRow g cs'.toArray) ?_ ?_
  ·
   unfold execOp; rw [ho]
   simp only [hR.ev hx, hR.ev hy, Instr.storeAt, Instr.sureAddr, AF, Bg, Az, hrun]
  ·
   rw [hd]
   refine k _ _ (hR.put_none _) ?_
   refine hS.turn hi rfl rfl rfl (by simp) (fun k' hk' hne => setRow_other w g k' _ (fun e' => hne (by rw [e']; rfl))) (setRow_heap w g _ _ e (0, 0) hb) (fun k' hk' => ?_)
   have : g = k' := by simpa [Res.blk] using hk'
   subst this
   exact ⟨by simpa using (hS.own _ (Ax hi) g rfl).1, .inl rfl⟩
theorem CV {t : TypeId} {x y : Operand} {A : Option Addr} {n c j i size : Nat} {p : Int} {ki : IntKind} {e : TypeId} (hs : SteV P X Next o a w) (hR : Reg a N l) (hd : o.dst = some d) (ho : o.op = .indexAddr t x y) (hx : ev l x = some (.slice A n c)) (hy : ev l y = some (.int ki p))
  (ht : P.underlying t = some (.slice e)) (hsz : (P.info? e).map (·.size) = some size) (hp : p = (i : Int)) (hi : i < n) (hA : A.isSome = true) (hj : i * size = j) (hdN : d < N)
  (k : ∀ a', Reg a' N ((d, .pointer (eP A j)) :: l) → Next a' w) : X := by
 obtain ⟨ad, rfl⟩ := Option.isSome_iff_exists.1 hA
 subst hj
 subst hp
 cases hq : P.info? e with
 | none => simp [hq] at hsz
 | some inf =>
  have hii : inf.size = size := by simpa [hq] using hsz
  refine Cv hs hR hd hdN ?_ k
  unfold execOp; rw [ho]
  simp [hR.ev hx, hR.ev hy, Instr.indexAt, asIntOf, run_underlying ht, hi, sizeOf, typeInfo, hq, hii, eP]
theorem Lb {t : TypeId} {x y : Operand} {g n j i size : Nat} {p : Int} {ki : IntKind} {e : TypeId} (hs : SteV P X Next o a w) (hR : Reg a N l) (hd : o.dst = some d) (ho : o.op = .indexAddr t x y) (hx : ev l x = some (.pointer (some ⟨g, 0, none⟩))) (hy : ev l y = some (.int ki p))
  (ht : P.underlying t = some (.array n e)) (hsz : (P.info? e).map (·.size) = some size) (hp : p = (i : Int)) (hi : i < n) (hj : i * size = j) (hdN : d < N)
  (k : ∀ a', Reg a' N ((d, .pointer (eP (some ⟨g, 0, none⟩) j)) :: l) → Next a' w) : X := by
 subst hj
 subst hp
 cases hq : P.info? e with
 | none => simp [hq] at hsz
 | some inf =>
  have hii : inf.size = size := by simpa [hq] using hsz
  refine Cv hs hR hd hdN ?_ k
  unfold execOp; rw [ho]
  simp [hR.ev hx, hR.ev hy, Instr.indexAt, Instr.sureAddr, asIntOf, run_underlying ht, hi, sizeOf, typeInfo, hq, hii, eP]
theorem I2 {t e : TypeId} {size n cap k m : Nat} {kd kd' : IntKind} {A : Option Addr} {w : World} (lo hi : Option Value) (ht : P.underlying t = some (.slice e)) (hs : (P.info? e).map (·.size) = some size) (hk : k ≤ m) (hm : m ≤ cap)
  (hlo : lo = some (.int kd (k : Int)) ∨ lo = none ∧ k = 0) (hhi : hi = some (.int kd' (m : Int)) ∨ hi = none ∧ m = n) :
  (Instr.sliceAt t (.slice A n cap) lo hi none).run P w = .ok (.slice (if cap = k then A else A.map (·.add (k * size))) (m - k) (cap - k)) w := by
 cases hq : P.info? e with
 | none => simp [hq] at hs
 | some i =>
  have hsz : i.size = size := by simpa [hq] using hs
  rcases hlo with rfl | ⟨rfl, rfl⟩ <;> rcases hhi with rfl | ⟨rfl, rfl⟩ <;>
   simp [Instr.sliceAt, Instr.slice, Instr.sliceBounds, Instr.sliceBound, asIntOf, run_underlying ht, sizeOf, typeInfo, hq, hsz, hk, hm]
theorem Wr {t e : TypeId} {x : Operand} {lo hi : Option Operand} {vlo vhi : Option Value} {A : Option Addr} {n cap size : Nat} {kd kd' : IntKind} {xs : List Value} {I : Nat → Prop} (hs : SteV P X Next o a w) (hR : Reg a N l) (hd : o.dst = some d)
  (ho : o.op = .slice t x lo hi none) (hx : ev l x = some (.slice A n cap)) (hvlo : lo.map (ev l) = vlo.map some) (hvhi : hi.map (ev l) = vhi.map some) (k q : Nat)
  (hlo : vlo = some (.int kd (k : Int)) ∨ vlo = none ∧ k = 0) (hhi : vhi = some (.int kd' ((k + q : Nat) : Int)) ∨ vhi = none ∧ k + q = n)
  (hrow : RowI w I size A n xs) (ht : P.underlying t = some (.slice e)) (hsz : (P.info? e).map (·.size) = some size) (hm : k + q ≤ n) (hc : n ≤ cap) (hdN : d < N)
  (kk : ∀ a' A' c', q ≤ c' → RowI w I size A' q ((xs.drop (k * size)).take (q * size)) → Reg a' N ((d, .slice A' q c') :: l) → Next a' w) : X := by
 have hr := (hrow.from_ (k := k) (by omega) hc).take (k := q) (by omega)
 have hl : lo.map a.eval = vlo := by
  cases lo <;> cases vlo <;> simp_all
  exact hR.ev hvlo
 have hh : hi.map a.eval = vhi := by
  cases hi <;> cases vhi <;> simp_all
  exact hR.ev hvhi
 have hrun := I2 (P := P) (w := w) (A := A) (n := n) (cap := cap) (k := k) (m := k + q) (kd := kd) (kd' := kd') vlo vhi ht hsz (by omega) (by omega) hlo hhi
 rw [show k + q - k = q by omega] at hrun
 refine Cv hs hR hd hdN ?_ (fun a' hR' => kk a' _ (cap - k) (by omega) hr hR')
 unfold execOp; rw [ho]
 simp only [hR.ev hx, hl, hh, Option.map_none, AF, hrun, Az, Bg]
end
end
section
/- The operations, one rule each: what makes rows; pieces of code. -/
open Go.RowKit
section
variable {P : Program} {X : Prop} {Next : Act → World → Prop} {o : Oper} {a : Act} {w w0 : World} {N : Nat} {l : List (Nat × Value)} {d : Nat} {Z M : Nat → Prop} {m : List Res} {ds : List Dat}
def evp (l : List (Nat × Value)) : List (Nat × Operand) → Option (List (Nat × Value))
 | [] => some []
 | (i, x) :: xs => match ev l x, evp l xs with
  | some v, some vs => some ((i, v) :: vs)
  | _, _ => none
theorem Reg.evp (h : Reg a N l) : ∀ {ps : List (Nat × Operand)} {vs : List (Nat × Value)}, evp l ps = some vs → ps.map (fun (i, x) => (i, a.eval x)) = vs
 | [], vs, hx => by simpa [YtpfmnpaifchleaaGreatDoor.evp] using hx
 | (i, x) :: xs, vs, hx => by
  simp only [YtpfmnpaifchleaaGreatDoor.evp] at hx
  cases h1 : YtpfmnpaifchleaaGreatDoor.ev l x with
  | none => simp [h1] at hx
  | some v =>
   cases h2 : YtpfmnpaifchleaaGreatDoor.evp l xs with
   | none => simp [h1, h2] at hx
   | some us =>
    simp only [h1, h2] at hx
    obtain rfl := B4 hx
    rw [BJ, h.evp h2]
    simp only [h.ev h1]
theorem RP {t : TypeId} {ps : List (Nat × Operand)} {vs : List (Nat × Value)} {v : Value} (hs : SteV P X Next o a w) (hR : Reg a N l) (hd : o.dst = some d) (ho : o.op = .build t ps.toArray) (hx : evp l ps = some vs)
  (hrun : ∀ w, (Instr.build t vs.toArray).run P w = .ok v w) (hdN : d < N) (k : ∀ a', Reg a' N ((d, v) :: l) → Next a' w) : X := by
 refine Cv hs hR hd hdN ?_ k
 have hm : ps.toArray.map (fun (i, x) => (i, a.eval x)) = vs.toArray := by
  rw [← hR.evp hx]; simp
 unfold execOp; rw [ho]
 simp only [hm, AF, hrun, Az, Bg]
theorem Io {t : TypeId} {x : Operand} {f : Nat} {v u : Value} (hs : SteV P X Next o a w) (hR : Reg a N l) (hd : o.dst = some d) (ho : o.op = .field t x f) (hx : ev l x = some u)
  (hrun : ∀ w, (Instr.field t u f).run P w = .ok v w) (hdN : d < N) (k : ∀ a', Reg a' N ((d, v) :: l) → Next a' w) : X := by
 refine Cv hs hR hd hdN ?_ k
 unfold execOp; rw [ho]
 simp only [hR.ev hx, AF, hrun, Az, Bg]
theorem IH (w : World) (e size n : Nat) (cs : List Value) (hl : cs.length = n * size) (hn : n ≤ maxLen) : (w.alloc (.cells cs.toArray e)).ownsRow 0 e size (.slice (some ⟨w.heap.size, 0, none⟩) n n) n cs :=
 ⟨hl, .inr ⟨w.heap.size, n, cs.toArray, rfl, Nat.zero_le _, heap_alloc_new w _, Af _, hn, by simpa using hl, by simp [← hl]⟩⟩
theorem HO {t e : TypeId} {n size : Nat} {ps : List (Nat × Operand)} {vs : List (Nat × Value)} {z : Value} {bytes : Nat} {cs : List Value} (hs : SteV P X Next o a w) (hR : Reg a N l) (hS : St w0 Z M w m ds) (hd : o.dst = some d) (ho : o.op = .buildSlice t n ps.toArray) (hx : evp l ps = some vs)
  (ht : P.underlying t = some (.slice e)) (hi : (P.info? e).map (fun i => (i.zero, i.size, i.bytes)) = some (some z, size, bytes)) (hn : decide (n * size ≤ 1000000) = true) (hn1 : decide (n ≤ 1000000) = true)
  (hf : Instr.fill (fun i => some (i * size, size)) ((Array.range (n * size)).map fun i => (if n * size = 0 then #[] else z.cells)[i % (if n * size = 0 then (#[] : Array Value) else z.cells).size]!) vs = some cs.toArray) (hl : (cs.length == n * size) = true) (hdN : d < N)
  (k : ∀ a' w' g, Reg a' N ((d, .slice (some ⟨g, 0, none⟩) n n) :: l) → St w0 Z M w' (m ++ [.row (some ⟨g, 0, none⟩) n n e size cs]) ds → Next a' w') : X := by
 have hn' : n * size ≤ 1000000 := by simpa using hn
 have hn1' : n ≤ 1000000 := by simpa using hn1
 have hl' : cs.length = n * size := by simpa using hl
 cases hq : P.info? e with
 | none => simp [hq] at hi
 | some inf =>
  simp only [hq, Cm, Cs, DH] at hi
  obtain ⟨hz, hsz, hby⟩ := hi
  have hm : ps.toArray.map (fun (i, x) => (i, a.eval x)) = vs.toArray := by
   rw [← hR.evp hx]; simp
  refine hs.val (.slice (some ⟨w.heap.size, 0, none⟩) n n) (w.alloc (.cells cs.toArray e)) ?_ ?_
  ·
   unfold execOp; rw [ho]
   have h24 : ¬ n * size > 2 ^ 24 := by omega
   simp only [hm, Instr.buildSlice, AF, run_underlying ht, Az, sizeOf, typeInfo, hq, hsz, Bg, program, Sem.run, h24, ↓reduceIte]
   by_cases h0 : n * size = 0
   ·
    simp only [h0, ↓reduceIte] at hf ⊢
    simp only [AF, Bg, Az, hf]
    rfl
   ·
    simp only [h0, ↓reduceIte] at hf ⊢
    simp [zeroValue, typeInfo, hq, hz, hf, newRow, newObj]; rfl
  ·
   rw [hd]
   exact k _ _ _ (hR.put hdN _) (hS.alloc (.row (some ⟨w.heap.size, 0, none⟩) n n e size cs) _ (IH w e size n cs hl' (by unfold maxLen; omega)) rfl)
theorem IU {t e : TypeId} {n size : Nat} {x y : Operand} {p q : Int} {kx ky : IntKind} {z : Value} {bytes : Nat} (hs : SteV P X Next o a w) (hR : Reg a N l) (hS : St w0 Z M w m ds) (hd : o.dst = some d) (ho : o.op = .makeSlice t x y) (hx : ev l x = some (.int kx p)) (hy : ev l y = some (.int ky q))
  (hp : p = (n : Int)) (hq' : q = (n : Int)) (ht : P.underlying t = some (.slice e)) (hi : (P.info? e).map (fun i => (i.zero, i.size, i.bytes)) = some (some z, size, bytes)) (hzs : z.cells.size = size) (hsz1 : (size == 1) = true) (hby : decide (bytes ≤ 1000) = true) (hn : n ≤ 1000000) (hdN : d < N)
  (k : ∀ a' w' g, Reg a' N ((d, .slice (some ⟨g, 0, none⟩) n n) :: l) → St w0 Z M w' (m ++ [.row (some ⟨g, 0, none⟩) n n e size (List.replicate n (z.cells.getD 0 undef))]) ds → Next a' w') : X := by
 subst hp
 subst hq'
 have hby' : bytes ≤ 1000 := by simpa using hby
 have hs1 : size = 1 := by simpa using hsz1
 cases hq : P.info? e with
 | none => simp [hq] at hi
 | some inf =>
  simp only [hq, Cm, Cs, DH] at hi
  obtain ⟨hz, hsz, hbb⟩ := hi
  have hb2 : (inf.bytes : Int) * (n : Int) ≤ 281474976710656 := by
   have h1 : inf.bytes * n ≤ 1000 * 1000000 := Nat.mul_le_mul (by omega) hn
   have h : ((inf.bytes * n : Nat) : Int) ≤ 281474976710656 := by omega
   rwa [Int.natCast_mul] at h
  have hr := run_make (P := P) w t e inf z ht hq hz kx ky n n (by omega) (by omega) hb2 (by omega)
  simp only [Int.toNat_natCast] at hr
  refine hs.val (.slice (some ⟨w.heap.size, 0, none⟩) n n) (w.alloc (.cells (madeCells z.cells (n * inf.size)) e)) ?_ ?_
  ·
   unfold execOp; rw [ho]
   simp only [hR.ev hx, hR.ev hy, AF, hr, Az, Bg]
  ·
   rw [hd]
   have hcells : madeCells z.cells (n * inf.size) = (List.replicate n (z.cells.getD 0 undef)).toArray := by
    have hz1 : z.cells = #[z.cells.getD 0 undef] := by
     have h1 : z.cells.size = 1 := by omega
     apply Array.ext
     · simpa using h1
     ·
      intro i h2 h3
      have : i = 0 := by omega
      subst this
      simp [Array.getD, h1]
    rw [hsz, hs1, Nat.mul_one]
    conv => lhs; rw [hz1]
    apply Array.toList_inj.1
    rw [toList_madeCells_one]
   rw [hcells]
   refine k _ _ _ (hR.put hdN _) (hS.alloc (.row (some ⟨w.heap.size, 0, none⟩) n n e size _) _ (IH w e size n _ (by simp [hs1]) (by unfold maxLen; omega)) rfl)
theorem I3 (base : Nat) (t ty e : TypeId) (i : TypeInfo) (z : Value) (size bytes : Nat) (ht : P.underlying t = some (.slice e)) (hi : P.info? e = some i) (hz : i.zero = some z)
  (hsize : i.size = size) (hby : i.bytes = bytes) (hzs : z.cells.size = size) (hsz : 0 < size)
  (v : Value) (n : Nat) (xs : List Value) (hown : w.ownsRow base e size v n xs)
  (A : Option Addr) (q c : Nat) (news : List Value) (hl : news.length = q * size) (hr : 0 < q → ∃ ad, A = some ad ∧ CellsAt w ad news) (h1 : ∀ u ∈ news, u.oneCell' = true)
  (h63 : n + q ≤ maxLen) (hbytes : (n + q) * bytes ≤ 140737488355328) (hbase : base ≤ w.heap.size) :
  ∃ v' w', (Builtin.append_ #[t, t] ty #[v, .slice A q c]).run P w = .ok v' w' ∧ w'.ownsRow base e size v' (n + q) (xs ++ news) ∧ w.grownBy w' v.ownBlock ∧
   (v'.ownBlock = v.ownBlock ∨ v'.ownBlock = some w.heap.size) := by
 by_cases hq : q = 0
 ·
  subst hq
  have hn : news = [] := BB (by simpa using hl)
  subst hn
  rcases A with _ | ad
  ·
   refine ⟨v, w, ?_, by simpa using hown, World.grownBy.refl w _, .inl rfl⟩
   rcases hown.2 with ⟨rfl, rfl⟩ | ⟨g, cap, cur, rfl, _, _, hnc, _⟩
   · simp [Builtin.append_, run_underlying ht, sizeOf, typeInfo, hi, Builtin.lenOf, Builtin.firstCells]
   · simp [Builtin.append_, run_underlying ht, sizeOf, typeInfo, hi, Builtin.lenOf, Builtin.firstCells, hnc, storeCells]
  ·
   obtain ⟨v', w', hrun, h2, h3, _, h5⟩ := run_append_own_at (P := P) w base t ty e i z size bytes ht hi hz hsize hby hzs hsz v n xs hown ad 0 c [] hl (by simp) h1 h63 hbytes hbase
   exact ⟨v', w', hrun, h2, h3, h5⟩
 ·
  obtain ⟨ad, rfl, hc⟩ := hr (by omega)
  obtain ⟨v', w', hrun, h2, h3, _, h5⟩ := run_append_own_at (P := P) w base t ty e i z size bytes ht hi hz hsize hby hzs hsz v n xs hown ad q c news hl hc h1 h63 hbytes hbase
  exact ⟨v', w', hrun, h2, h3, h5⟩
theorem OJ {t e : TypeId} {x y : Operand} {A A2 : Option Addr} {n n0 cap q c2 size bytes i : Nat} {xs news : List Value} {z : Value} (hs : SteV P X Next o a w) (hR : Reg a N l) (hS : St w0 Z M w m ds) (hd : o.dst = some d)
  (ho : o.op = .call { callee := .builtin .append, args := #[x, y], argTypes := #[t, t] }) (hx : ev l x = some (.slice A n cap)) (hy : ev l y = some (.slice A2 q c2)) (hi : m[i]? = some (.row A n0 cap e size xs)) (hn : n ≤ n0)
  (ht : P.underlying t = some (.slice e)) (hinf : (P.info? e).map (fun i => (i.zero, i.size, i.bytes)) = some (some z, size, bytes)) (hzs : (z.cells.size == size) = true) (hsz : (size == 0) = false)
  (hl : news.length = q * size) (hr : 0 < q → ∃ ad, A2 = some ad ∧ CellsAt w ad news) (h1 : ∀ u ∈ news, u.oneCell' = true) (hby : decide (bytes ≤ 1000) = true) (hb : n + q ≤ 100000000) (hdN : d < N)
  (k : ∀ a' w' A' cap', n + q ≤ cap' → Reg a' N ((d, .slice A' (n + q) cap') :: l) → St w0 Z M w' (m.set i (.row A' (n + q) cap' e size (xs.take (n * size) ++ news))) ds → Next a' w') : X := by
 have hzs' : z.cells.size = size := by simpa using hzs
 have hsz' : size ≠ 0 := by simpa using hsz
 have hby' : bytes ≤ 1000 := by simpa using hby
 cases hq : P.info? e with
 | none => simp [hq] at hinf
 | some inf =>
  simp only [hq, Cm, Cs, DH] at hinf
  obtain ⟨hz, hs2, hb2⟩ := hinf
  have hown0 : w.ownsRow 0 e size (.slice A n0 cap) n0 xs := hS.res hi
  have hown := O6 hown0 hn
  have hbytes : (n + q) * bytes ≤ 140737488355328 := by
   have : (n + q) * bytes ≤ 100000000 * 1000 := Nat.mul_le_mul hb hby'
   omega
  obtain ⟨v', w', hrun, h2, h3, h4⟩ := I3 (P := P) (w := w) 0 t o.type e inf z size bytes ht hq hz hs2 hb2 hzs' (by omega) (.slice A n cap) n (xs.take (n * size)) hown A2 q c2 news hl hr h1 (by unfold maxLen; omega) hbytes (Nat.zero_le _)
  obtain ⟨A', cap', rfl, hcap, h2'⟩ := KS h2
  refine hs.val (.slice A' (n + q) cap') w' ?_ ?_
  ·
   unfold execOp; rw [ho]
   simp only [resolve, invoke, builtin, AF, Bg, Az, List.map_toArray, BJ, C6, hR.ev hx, hR.ev hy, hrun]
  ·
   rw [hd]
   refine k _ _ _ _ hcap (hR.put hdN _) (hS.turn hi h3.os h3.tape h3.output h3.size (fun k' hk' hne => h3.block k' hk' ?_) h2' (fun k' hk' => ?_))
   ·
    intro e'
    refine hne ?_
    cases A with
    | none => cases e'
    | some ad => rw [e']; rfl
   ·
    have hown' : (Value.slice A' (n + q) cap').ownBlock = some k' := by
     cases A' with
     | none => cases hk'
     | some ad => exact hk'
    refine ⟨(h2.lt k' hown').2, ?_⟩
    rcases h4 with h4 | h4
    ·
     left
     rw [h4] at hown'
     cases A with
     | none => cases hown'
     | some ad => exact hown'
    ·
     right
     rw [hown'] at h4
     have := B4 h4
     omega
end
section
variable {P : Program} {Q : Exit → Act → World → Prop} {a : Act} {w : World} {N : Nat} {l : List (Nat × Value)}
theorem A0 {id : Nat} {ls : List Oper} (h : wpList P ls.toArray Q ls a w) : (Code.region id ls.toArray false).wp P Q a w := wp_region_lit h
end
end
section
/- Terms as lists of nodes, and as trees. -/
structure Nd where
 K : Int
 N : Int
 M : Int
 S : ByteArray
 deriving DecidableEq
def letter (c : UInt8) : Bool := (97 ≤ c && c ≤ 122) || (65 ≤ c && c ≤ 90) || c == 95
def Ui (c : UInt8) : Bool := 48 ≤ c && c ≤ 57
def CJ (s : ByteArray) : Bool :=
 match s.data.toList with
 | [] => false
 | c :: r => decide (s.size ≤ 16) && letter c && r.all fun c => letter c || Ui c
structure Shp where
 b : List Int
 n : Bool
 m : Bool
 s : Bool
 deriving DecidableEq
def shp : Nat → Shp
 | 0 => ⟨[], true, false, false⟩
 | 1 => ⟨[], false, false, true⟩
 | 2 => ⟨[], true, false, false⟩
 | 3 => ⟨[0, 1], true, false, false⟩
 | 4 => ⟨[0, 1], false, false, false⟩
 | 5 => ⟨[0, 0], false, false, false⟩
 | 6 => ⟨[0, 1], true, false, false⟩
 | 7 => ⟨[0, 0, 0], false, false, false⟩
 | 8 => ⟨[0], false, false, false⟩
 | 9 => ⟨[0], false, false, false⟩
 | 10 => ⟨[], false, false, false⟩
 | 11 => ⟨[], false, false, false⟩
 | 12 => ⟨[0], false, false, false⟩
 | 13 => ⟨[1, 0, 2, 0], false, false, false⟩
 | 14 => ⟨[], false, false, false⟩
 | 15 => ⟨[0, 0], false, false, false⟩
 | 16 => ⟨[], false, false, false⟩
 | 17 => ⟨[], false, false, false⟩
 | 18 => ⟨[0, 0, 0], false, false, false⟩
 | 19 => ⟨[0, 0], false, false, false⟩
 | 20 => ⟨[0, 0, 0, 0], false, false, false⟩
 | 21 => ⟨[0, 0, 1, 0, 0, 0], false, false, false⟩
 | 22 => ⟨[0, 2, 0, 0, 0], false, false, false⟩
 | 23 => ⟨[0, 0], false, false, false⟩
 | 24 => ⟨[0, 1, 0, 0], false, false, false⟩
 | 25 => ⟨[], false, false, true⟩
 | 26 => ⟨[], true, true, true⟩
 | 27 => ⟨[], false, true, true⟩
 | 28 => ⟨[0], false, false, false⟩
 | _ => ⟨[], false, false, false⟩
def most (k : Int) : Int := if k = 0 then 99 else if k = 3 ∨ k = 6 then 3 else 5
def right (n : Nd) : Bool :=
  decide (0 ≤ n.K) && decide (n.K < 30) &&
  (let x := shp n.K.toNat
   (if x.n then decide (0 ≤ n.N) && decide (n.N ≤ if n.K = 2 then 9 else most n.K) else n.N == 0) &&
   (if x.m then decide (0 ≤ n.M) && decide (n.M ≤ 6) else n.M == 0) &&
   (if x.s then CJ n.S else n.S.size == 0))
def binds (n : Nd) : List Int :=
 if n.K = 26 then List.replicate n.M.toNat 0
 else if n.K = 27 then 1 :: List.replicate (n.M.toNat + 1) 0
 else (shp n.K.toNat).b
def many (n : Nd) : Nat := (binds n).length
inductive T where
 | mk (n : Nd) (l : List T)
def T.root : T → Nd
 | .mk n _ => n
def T.args : T → List T
 | .mk _ l => l
mutual
def T.flat : T → List Nd
 | .mk n l => AA l ++ [n]
def AA : List T → List Nd
 | [] => []
 | t :: l => t.flat ++ AA l
end
mutual
def T.wf : T → Bool
 | .mk n l => right n && many n == l.length && T.wfs l
def T.wfs : List T → Bool
 | [] => true
 | t :: l => t.wf && T.wfs l
end
mutual
def T.deep : T → Nat
 | .mk _ l => BZ l + 1
def BZ : List T → Nat
 | [] => 0
 | t :: l => max t.deep (BZ l)
end
theorem Bi (n : Nd) (l : List T) : (T.mk n l).flat = AA l ++ [n] := by simp [T.flat]
theorem AZ : AA [] = [] := by simp [AA]
theorem Bh (t : T) (l : List T) : AA (t :: l) = t.flat ++ AA l := by simp [AA]
theorem C4 (a b : List T) : AA (a ++ b) = AA a ++ AA b := by
 induction a with
 | nil => simp [AA]
 | cons t a ih => simp [AA, ih]
theorem DQ (t : T) : AA [t] = t.flat := by simp [AA]
theorem Fi (a b : List T) : T.wfs (a ++ b) = (T.wfs a && T.wfs b) := by
 induction a with
 | nil => simp [T.wfs]
 | cons t a ih => simp [T.wfs, ih, Bool.and_assoc]
theorem E8 (n : Nd) (l : List T) : (T.mk n l).wf = (right n && many n == l.length && T.wfs l) := by simp [T.wf]
theorem SX (t : T) : t.flat ≠ [] := by cases t; simp [T.flat]
theorem EJ (t : T) : 0 < t.flat.length := by cases t; simp [T.flat]
theorem EQ (l : List T) : T.wfs l = true ↔ ∀ t ∈ l, t.wf = true := by
 induction l with
 | nil => simp [T.wfs]
 | cons t l ih => simp [T.wfs, ih]
def E5 (st : List T) (n : Nd) : Option (List T) :=
 if right n && decide (many n ≤ st.length) then
  some (st.take (st.length - many n) ++ [T.mk n (st.drop (st.length - many n))])
 else none
def CM (st : List T) : List Nd → Option (List T)
 | [] => some st
 | n :: t => match E5 st n with
  | some st' => CM st' t
  | none => none
theorem DN (st : List T) (a b : List Nd) : CM st (a ++ b) = (CM st a).bind fun s => CM s b := by
 induction a generalizing st with
 | nil => simp [CM]
 | cons n a ih =>
  simp only [List.cons_append, CM]
  cases E5 st n with
  | none => simp
  | some s => simp [ih]
theorem P6 {st st' : List T} {n : Nd} (h : E5 st n = some st') (hw : T.wfs st = true) : AA st' = AA st ++ [n] ∧ T.wfs st' = true := by
 unfold E5 at h
 split at h
 ·
  rename_i hc
  simp only [AK, B8] at hc
  obtain rfl := B4 h
  have hsplit : st = st.take (st.length - many n) ++ st.drop (st.length - many n) := (List.take_append_drop _ _).symm
  have hw' := hw
  rw [hsplit, Fi] at hw'
  simp only [AK] at hw'
  constructor
  · rw [C4, DQ, Bi, ← BG, ← C4, List.take_append_drop]
  ·
   rw [Fi]
   simp only [T.wfs, E8, Bool.and_true, AK, beq_iff_eq]
   exact ⟨hw'.1, ⟨hc.1, by rw [BK]; omega⟩, hw'.2⟩
 · cases h
theorem Fs {st st' : List T} {t : List Nd} (h : CM st t = some st') (hw : T.wfs st = true) : AA st' = AA st ++ t ∧ T.wfs st' = true := by
 induction t generalizing st with
 | nil => simp only [CM] at h; obtain rfl := B4 h; simp [hw]
 | cons n t ih =>
  simp only [CM] at h
  cases hp : E5 st n with
  | none => simp [hp] at h
  | some s =>
   simp only [hp] at h
   obtain ⟨h1, h2⟩ := P6 hp hw
   obtain ⟨h3, h4⟩ := ih h h2
   exact ⟨by rw [h3, h1]; simp, h4⟩
theorem T5 (st l : List T) (n : Nd) (h : (T.mk n l).wf = true) : E5 (st ++ l) n = some (st ++ [T.mk n l]) := by
 rw [E8] at h
 simp only [AK, beq_iff_eq] at h
 unfold E5
 have hl : (st ++ l).length - many n = st.length := by rw [Ab]; omega
 rw [At (by simp only [AK, B8]; exact ⟨h.1.1, by rw [Ab]; omega⟩), hl]
 simp
mutual
theorem Gl (st : List T) : ∀ t : T, t.wf = true → CM st t.flat = some (st ++ [t])
 | .mk n l, h => by
  have h' := h
  rw [E8] at h'
  simp only [AK] at h'
  rw [Bi, DN, FA st l h'.2]
  simp only [Option.bind_some, CM, T5 st l n h]
theorem FA (st : List T) : ∀ l : List T, T.wfs l = true → CM st (AA l) = some (st ++ l)
 | [], _ => by simp [AA, CM]
 | t :: l, h => by
  simp only [T.wfs, AK] at h
  rw [Bh, DN, Gl st t h.1]
  simp only [Option.bind_some]
  rw [FA (st ++ [t]) l h.2]
  simp
end
def chk (t : List Nd) : Int :=
 if t.length > 4000 then 21 else
 match CM [] t with
 | some [x] => if x.deep > 60 then 22 else 0
 | _ => 20
theorem Uq {x : T} (h : x.wf = true) : chk x.flat = if x.flat.length > 4000 then 21 else if x.deep > 60 then 22 else 0 := by
 unfold chk
 rw [Gl [] x h]
 rfl
theorem Pc {t : List Nd} : chk t = 0 ↔ ∃ x : T, x.wf = true ∧ x.flat = t ∧ t.length ≤ 4000 ∧ x.deep ≤ 60 := by
 constructor
 ·
  intro h
  unfold chk at h
  split at h
  · cases h
  ·
   rename_i hl
   split at h
   ·
    rename_i x hs
    split at h
    · cases h
    ·
     rename_i hd
     have := Fs hs (by simp [T.wfs])
     simp [AA, T.wfs] at this
     exact ⟨x, this.2, this.1, by omega, by omega⟩
   · cases h
 ·
  rintro ⟨x, hw, rfl, hl, hd⟩
  rw [Uq hw]
  rw [Aq (by omega), Aq (by omega)]
theorem Fc (l : List T) : l.length ≤ (AA l).length := by
 induction l with
 | nil => simp
 | cons t l ih => rw [Bh, Ab, Ad]; have := EJ t; omega
theorem Ng {n : Nd} (h : right n = true) : 0 ≤ n.K ∧ n.K < 30 := by
 unfold right at h
 simp only [AK, B8] at h
 exact h.1
theorem I5 {n : Nd} (h : right n = true) (hk : n.K = 26) : 0 ≤ n.N ∧ n.N ≤ 5 ∧ 0 ≤ n.M ∧ n.M ≤ 6 := by
 unfold right at h
 rw [hk] at h
 simp [shp, most] at h
 omega
theorem Gm {n : Nd} (h : right n = true) (hk : n.K = 27) : 0 ≤ n.M ∧ n.M ≤ 6 := by
 unfold right at h
 rw [hk] at h
 simp [shp] at h
 omega
theorem OI {n : Nd} (h : right n = true) (hk : n.K = 26) : n.M = ((many n : Nat) : Int) := by
 have := I5 h hk
 simp [many, binds, hk]
 omega
theorem IQ {n : Nd} (h : right n = true) (hk : n.K = 27) : n.M + 2 = ((many n : Nat) : Int) := by
 have := Gm h hk
 simp [many, binds, hk]
 omega
theorem KZ {n : Nd} (h1 : ¬ n.K = 26) (h2 : ¬ n.K = 27) : (((shp n.K.toNat).b.length : Nat) : Int) = ((many n : Nat) : Int) := by
 simp [many, binds, h1, h2]
theorem QD (k : Nat) : (shp k).b.length ≤ 6 := by
 unfold shp
 split <;> simp
theorem FY {n : Nd} (h : right n = true) : many n ≤ 8 := by
 by_cases h1 : n.K = 26
 · have := OI h h1; have := I5 h h1; omega
 ·
  by_cases h2 : n.K = 27
  · have := IQ h h2; have := Gm h h2; omega
  · have := KZ h1 h2; have := QD n.K.toNat; omega
end
section
/- Kinds of data; how a call begins and ends. -/
open Go.RowKit
def Bw (size : Nat) (A : Option Addr) (n cap : Nat) (xs : List Value) : Dat :=
 ⟨fun w I => n ≤ cap ∧ RowI w I size A n xs, fun _ _ _ _ _ h hk => ⟨h.1, h.2.mono hk⟩⟩
def ndz : Nd := ⟨0, 0, 0, .empty⟩
def nth (t : List Nd) (k : Nat) : Nd := t.getD k ndz
def Eb (n : Nd) : List Value := [.int .i64 n.K, .int .i64 n.N, .int .i64 n.M, .string n.S]
def Cd (l : List Nd) : List Value := l.flatMap Eb
def EI (n : Int) : List Value := [.int .i64 n]
def BN (l : List Int) : List Value := l.flatMap EI
def Ci (t : List Int) (k : Nat) : Int := t.getD k 0
def Ss (p : Int × Int) : List Value := [.int .i64 p.1, .int .i64 p.2]
def EF (l : List (Int × Int)) : List Value := l.flatMap Ss
def Ht (t : List (Int × Int)) (k : Nat) : Int × Int := t.getD k (0, 0)
section
variable {α : Type} {f : α → List Value} {size : Nat}
theorem Dr (hf : ∀ x, (f x).length = size) (l : List α) : (l.flatMap f).length = l.length * size := by
 induction l with
 | nil => simp
 | cons x l ih => rw [List.flatMap_cons, Ab, ih, hf, Ad, Nat.add_mul]; omega
theorem Hm (hf : ∀ x, (f x).length = size) (l : List α) (k : Nat) : (l.flatMap f).drop (k * size) = (l.drop k).flatMap f := by
 induction l generalizing k with
 | nil => simp
 | cons x l ih =>
  cases k with
  | zero => simp
  | succ k =>
   rw [List.flatMap_cons, List.drop_succ_cons, Nat.add_mul, Nat.one_mul, Nat.add_comm, ← List.drop_drop, List.drop_left' (hf x), ih]
theorem FJ (hf : ∀ x, (f x).length = size) (l : List α) (k : Nat) : (l.flatMap f).take (k * size) = (l.take k).flatMap f := by
 induction l generalizing k with
 | nil => simp
 | cons x l ih =>
  cases k with
  | zero => simp
  | succ k =>
   rw [List.flatMap_cons, List.take_succ_cons, List.flatMap_cons, Nat.add_mul, Nat.one_mul, Nat.add_comm, List.take_add, List.take_left' (hf x), List.drop_left' (hf x), ih]
theorem EO (hf : ∀ x, (f x).length = size) (l : List α) (k : Nat) (hk : k < l.length) (z : α) : ((l.flatMap f).drop (k * size)).take size = f (l.getD k z) := by
 rw [Hm hf, List.drop_eq_getElem_cons hk, List.flatMap_cons, List.take_left' (hf _)]
 simp [hk]
end
theorem Cq (n : Nd) : (Eb n).length = 4 := rfl
theorem CC (n : Int) : (EI n).length = 1 := rfl
theorem Ip (n : Int × Int) : (Ss n).length = 2 := rfl
theorem HQ (l : List Nd) : (Cd l).length = l.length * 4 := Dr Cq l
theorem HR (l : List Int) : (BN l).length = l.length * 1 := Dr CC l
theorem Dz (l : List Nd) : ∀ u ∈ Cd l, u.oneCell' = true := by
 intro u hu
 obtain ⟨n, _, hn⟩ := List.mem_flatMap.1 hu
 simp [Eb] at hn
 rcases hn with rfl | rfl | rfl | rfl <;> rfl
theorem Do (l : List Int) : ∀ u ∈ BN l, u.oneCell' = true := by
 intro u hu
 obtain ⟨n, _, hn⟩ := List.mem_flatMap.1 hu
 simp [EI] at hn
 subst hn
 rfl
theorem OY (l : List (Int × Int)) : ∀ u ∈ EF l, u.oneCell' = true := by
 intro u hu
 obtain ⟨n, _, hn⟩ := List.mem_flatMap.1 hu
 simp [Ss] at hn
 rcases hn with rfl | rfl <;> rfl
section
variable {w : World} {I : Nat → Prop} {A : Option Addr} {k n cap e : Nat}
theorem Bp {t : List Nd} (h : RowI w I 4 A t.length (Cd t)) (hk : k < t.length) : ElemAt w A (k * 4) (Eb (nth t k)) := by
 have := h.elem hk
 rwa [show (Cd t) = t.flatMap Eb from rfl, EO Cq t k hk ndz] at this
theorem Ds {t : List Int} (h : RowI w I 1 A t.length (BN t)) (hk : k < t.length) : ElemAt w A (k * 1) (EI (Ci t k)) := by
 have := h.elem hk
 rwa [show (BN t) = t.flatMap EI from rfl, EO CC t k hk 0] at this
theorem H4 {t : List (Int × Int)} (h : RowI w I 2 A t.length (EF t)) (hk : k < t.length) : ElemAt w A (k * 2) (Ss (Ht t k)) := by
 have := h.elem hk
 rwa [show (EF t) = t.flatMap Ss from rfl, EO Ip t k hk (0, 0)] at this
theorem Da {t : List Nd} (h : (Res.row A t.length cap e 4 (Cd t)).holds w) (hk : k < t.length) : ElemAt w A (k * 4) (Eb (nth t k)) := by
 have := Hb h hk
 rwa [show (Cd t) = t.flatMap Eb from rfl, EO Cq t k hk ndz] at this
theorem EZ {t : List Int} (h : (Res.row A t.length cap e 1 (BN t)).holds w) (hk : k < t.length) : ElemAt w A (k * 1) (EI (Ci t k)) := by
 have := Hb h hk
 rwa [show (BN t) = t.flatMap EI from rfl, EO CC t k hk 0] at this
theorem UV {t : List (Int × Int)} (h : (Res.row A t.length cap e 2 (EF t)).holds w) (hk : k < t.length) : ElemAt w A (k * 2) (Ss (Ht t k)) := by
 have := Hb h hk
 rwa [show (EF t) = t.flatMap Ss from rfl, EO Ip t k hk (0, 0)] at this
theorem ElemAt.some_ {j : Nat} {vs : List Value} (h : ElemAt w A j vs) : A.isSome = true := by
 obtain ⟨ad, rfl, _⟩ := h
 rfl
theorem RowI.news {size : Nat} {xs : List Value} (h : RowI w I size A n xs) : 0 < n → ∃ ad, A = some ad ∧ CellsAt w ad xs := fun hn => by
 obtain ⟨ad, h1, _, h2⟩ := h.2 hn
 exact ⟨ad, h1, h2⟩
end
def FOK (P : Program) (f : FuncId) : Prop := ∀ args w, (callFunc f args).run P w = .ok (.enter f args) w
theorem fok {P : Program} {f : FuncId} {fn : Func} (hf : P.funcs[f]? = some fn) (hb : fn.body.isNone = false) (hn : (fn.name == "runtime.NumGoroutine") = false) : FOK P f := fun args w => by
 have hn' : fn.name ≠ "runtime.NumGoroutine" := by simpa using hn
 have hb' : fn.body ≠ none := by intro e; rw [e] at hb; cases hb
 simp [callFunc, hf, hn', hb']
def idx : Nat → List Value → List (Nat × Value)
 | _, [] => []
 | k, v :: vs => (k, v) :: idx (k + 1) vs
theorem NH : ∀ (vs : List Value) (k i : Nat) (v : Value), (idx k vs).lookup i = some v → k ≤ i ∧ vs[i - k]? = some v
 | [], _, _, _, h => by simp [idx] at h
 | u :: vs, k, i, v, h => by
  simp only [idx, List.lookup] at h
  by_cases hik : i = k
  ·
   subst hik
   simp only [BEq.rfl] at h
   exact ⟨Af _, by simpa using h⟩
  ·
   have : (i == k) = false := by simpa using hik
   simp only [this] at h
   obtain ⟨h1, h2⟩ := NH vs (k + 1) i v h
   refine ⟨by omega, ?_⟩
   rw [show i - k = (i - (k + 1)) + 1 by omega]
   simpa using h2
theorem AE {P : Program} {f : FuncId} {fn : Func} {c : Code} {vs : List Value} {w : World} {R : Ending → World → Prop} {N : Nat} (hf : P.funcs[f]? = some fn) (hb : fn.body = some c) (hN : fn.ntmps = N) (hsz : (decide (vs.length ≤ N ∧ N ≤ 1000000)) = true)
  (h : ∀ a, Reg a N ((1000000, .bool false) :: idx 0 vs) → c.wp P (bodyPost P fn R) a w) : Calls P f vs.toArray w R := by
 subst hN
 have hsz0 := A9 hsz
 have hsz' : vs.length ≤ fn.ntmps := hsz0.1
 refine calls_of_wp hf hb (h _ (Reg.start vs.toArray fn.ntmps (by simpa using hsz') hsz0.2 _ fun i v hv => ?_))
 obtain ⟨_, h2⟩ := NH vs 0 i v hv
 have h3 : vs[i]? = some v := by simpa using h2
 obtain ⟨hlt, h4⟩ := List.getElem?_eq_some_iff.1 h3
 simp [Array.getElem?_append, hlt, h4]
section
variable {P : Program} {X : Prop} {Next : Act → World → Prop} {o : Oper} {a : Act} {w : World} {N : Nat} {l : List (Nat × Value)} {d : Nat}
theorem Mr {f : FuncId} {xs : List Operand} {ts : Array TypeId} {vs : List Value} {R : Ending → World → Prop} (hs : Ste P X Next o a w) (hR : Reg a N l) (hd : o.dst = some d)
  (ho : o.op = .call { callee := .value (.func f), args := xs.toArray, argTypes := ts }) (hx : evs l xs = some vs) (hdN : d < N) (hf : FOK P f) (hc : Calls P f vs.toArray w R)
  (k : ∀ e w', R e w' → ∃ v, e = .returned v ∧ ∀ a', Reg a' N ((d, v) :: l) → Next a' w') : X := by
 refine hs.enter f vs.toArray w ?_ (hc.mono fun e w' he => ?_)
 ·
  have hm : xs.toArray.map a.eval = vs.toArray := by rw [← hR.evs hx]; simp
  unfold execOp
  rw [ho]
  simp only [resolve, hm, Act.eval, Deferred.ofValue, AF, Bg, Az, invoke, Array.append_empty, Array.empty_append]
  exact hf _ _
 ·
  obtain ⟨v, rfl, hk⟩ := k e w' he
  exact ⟨v, rfl, by rw [hd]; exact hk _ (hR.put hdN v)⟩
theorem DI {g : Operand} {f : FuncId} {cs : Array Value} {xs : List Operand} {ts : Array TypeId} {vs : List Value} {R : Ending → World → Prop} (hs : Ste P X Next o a w) (hR : Reg a N l) (hd : o.dst = some d)
  (ho : o.op = .call { callee := .value g, args := xs.toArray, argTypes := ts }) (hg : ev l g = some (.func (.func f) #[] cs)) (hx : evs l xs = some vs) (hdN : d < N) (hf : FOK P f) (hc : Calls P f (vs.toArray ++ cs) w R)
  (k : ∀ e w', R e w' → ∃ v, e = .returned v ∧ ∀ a', Reg a' N ((d, v) :: l) → Next a' w') : X := by
 refine hs.enter f (vs.toArray ++ cs) w ?_ (hc.mono fun e w' he => ?_)
 ·
  have hm : xs.toArray.map a.eval = vs.toArray := by rw [← hR.evs hx]; simp
  unfold execOp
  rw [ho]
  simp only [resolve, hm, hR.ev hg, Deferred.ofValue, AF, Bg, Az, invoke, Array.empty_append]
  exact hf _ _
 ·
  obtain ⟨v, rfl, hk⟩ := k e w' he
  exact ⟨v, rfl, by rw [hd]; exact hk _ (hR.put hdN v)⟩
theorem want_t {ops : Array Oper} {j : Nat} {b : Bool} {oj : Oper} {dj : Nat} (hR : Reg a N l) (hg : o.guard = some (j, b)) (hj : ops[j]? = some oj) (hdj : oj.dst = some dj) (hdN : dj < N) (hv : l.lookup dj = some (.bool b)) : Region.wanted o (yielded ops a.tmps) = true := by
 have h1 := hR.get dj _ (by have := hR.top; omega) hv
 have hlt : dj < a.tmps.size := by rw [hR.size]; exact hdN
 have h2 : a.tmps[dj]? = some (.bool b) := by
  rw [Array.getD, dif_pos hlt] at h1
  rw [Array.getElem?_eq_getElem hlt, ← h1]
  rfl
 simp [Region.wanted, hg, yielded, hj, hdj, h2]
theorem Qm {ops : Array Oper} {j : Nat} {b b' : Bool} {oj : Oper} {dj : Nat} (hR : Reg a N l) (hg : o.guard = some (j, b)) (hj : ops[j]? = some oj) (hdj : oj.dst = some dj) (hdN : dj < N) (hv : l.lookup dj = some (.bool b')) (hb : (b' == b) = false) : Region.wanted o (yielded ops a.tmps) = false := by
 have h1 := hR.get dj _ (by have := hR.top; omega) hv
 have hlt : dj < a.tmps.size := by rw [hR.size]; exact hdN
 have h2 : a.tmps[dj]? = some (.bool b') := by
  rw [Array.getD, dif_pos hlt] at h1
  rw [Array.getElem?_eq_getElem hlt, ← h1]
  rfl
 simpa [Region.wanted, hg, yielded, hj, hdj, h2] using hb
theorem want_u {ops : Array Oper} {j : Nat} {b : Bool} {oj : Oper} {dj : Nat} (hR : Reg a N l) (hg : o.guard = some (j, b)) (hj : ops[j]? = some oj) (hdj : oj.dst = some dj) (hdN : dj < N) (hv : l.lookup dj = some undef) : Region.wanted o (yielded ops a.tmps) = false := by
 have h1 := hR.get dj _ (by have := hR.top; omega) hv
 have hlt : dj < a.tmps.size := by rw [hR.size]; exact hdN
 have h2 : a.tmps[dj]? = some undef := by
  rw [Array.getD, dif_pos hlt] at h1
  rw [Array.getElem?_eq_getElem hlt, ← h1]
  rfl
 simp [Region.wanted, hg, yielded, hj, hdj, h2, undef]
theorem UK {ops : Array Oper} {Q : Exit → Act → World → Prop} {rest : List Oper} (hR : Reg a N l) (hd : o.dst = some d) (hdN : d < N) (hw : Region.wanted o (yielded ops a.tmps) = false) (k : ∀ a', Reg a' N ((d, undef) :: l) → wpList P ops Q rest a' w) :
  wpList P ops Q (o :: rest) a w := V9 hw (by rw [hd]; exact k _ (hR.put hdN _))
theorem Reg.setb (h : Reg a N l) {B b : Bool} (hv : l.lookup d = some (.bool B)) (hb : B = b) : Reg a N ((d, .bool b) :: l) := h.cons h (by rw [hv, hb])
end
section
variable {P : Program} {Q : Exit → Act → World → Prop} {K : Act → World → Prop} {a : Act} {w : World} {id id' : Nat}
theorem AC (h : K a w) : Exit.then K Q .normal a w := h
theorem EW (h : Q (.exit id) a w) : Exit.then K Q (.exit id) a w := h
theorem AX (h : Q .ret a w) : Exit.then K Q .ret a w := h
theorem A7 (h : Q .normal a w) : Exit.inBlock id Q .normal a w := h
theorem Bf (h : Q .ret a w) : Exit.inBlock id Q .ret a w := h
theorem EH (h : Q .normal a w) : Exit.inBlock id Q (.exit id) a w := by
 unfold Exit.inBlock
 simpa using h
variable {fn : Func} {R : Ending → World → Prop} {N : Nat} {l : List (Nat × Value)}
theorem e_ret1 {t : Nat} {v : Value} (hR : Reg a N l) (h0 : l.lookup 1000000 = some (.bool false)) (hr : fn.results = #[.tmp t]) (hv : ev l (.tmp t) = some v) (h : R (.returned v) w) : bodyPost P fn R .ret a w :=
 ⟨hR.dfr h0, v, by have := hR.ev hv; rw [results_tmp hr]; exact congrArg (fun v => Result.ok v w) this, h⟩
theorem e_ret2 {t u : Nat} {v v' : Value} (hR : Reg a N l) (h0 : l.lookup 1000000 = some (.bool false)) (hr : fn.results = #[.tmp t, .tmp u]) (hv : ev l (.tmp t) = some v) (hv' : ev l (.tmp u) = some v') (h : R (.returned (.tuple #[v, v'])) w) : bodyPost P fn R .ret a w :=
 ⟨hR.dfr h0, .tuple #[v, v'], by have h1 : a.tmps.getD t undef = v := hR.ev hv; have h2 : a.tmps.getD u undef = v' := hR.ev hv'; rw [results_tmp2 hr, h1, h2], h⟩
theorem Kr (hR : Reg a N l) (h0 : l.lookup 1000000 = some (.bool false)) (hr : fn.results = #[]) (h : R (.returned (.tuple #[])) w) : bodyPost P fn R .ret a w :=
 ⟨hR.dfr h0, _, results_none hr _ _ _, h⟩
theorem Jc (hR : Reg a N l) (h0 : l.lookup 1000000 = some (.bool false)) (hr : fn.results = #[]) (h : R (.returned (.tuple #[])) w) : bodyPost P fn R .normal a w :=
 ⟨hR.dfr h0, _, results_none hr _ _ _, h⟩
end
section
variable {w0 w : World} {Z M : Nat → Prop} {m : List Res} {ds : List Dat}
theorem St.erase (h : St w0 Z M w m ds) (i : Nat) : St w0 Z M w (m.eraseIdx i) ds := h.drop _ (List.eraseIdx_sublist m i)
theorem St.forget (h : St w0 Z M w m ds) (i : Nat) : St w0 Z M w m (ds.eraseIdx i) := h.datas _ fun d hd => h.dat d ((List.eraseIdx_sublist ds i).subset hd)
theorem Fl {k : Nat} (h : imm Z w0 m w k) : nxt Z w0 w k := ⟨h.1, h.2.1⟩
theorem N2 {w' : World} (h : St w0 Z M w m ds) {k : Nat} (hk : nxt (imm Z w0 m w) w w' k) : imm Z w0 m w' k := by
 refine ⟨hk.1, fun hlt => ?_, fun r hr e => ?_⟩
 · exact (hk.2 (BS hlt h.size)).2.1 hlt
 · exact (hk.2 (h.own r hr k e).1).2.2 r hr e
end
def dAg (w1 : World) (J : Nat → Prop) : Dat := ⟨fun w I => w1.heap.size ≤ w.heap.size ∧ ∀ k, J k → I k ∧ w.heap[k]? = w1.heap[k]?, fun _ _ _ _ hs h hk => ⟨Bo h.1 hs, fun k hJ => ⟨(hk k (h.2 k hJ).1).1, (hk k (h.2 k hJ).1).2.trans (h.2 k hJ).2⟩⟩⟩
theorem St.agree {w0 w : World} {Z M : Nat → Prop} {m : List Res} {ds : List Dat} (h : St w0 Z M w m ds) : ∃ J : Nat → Prop, (∀ (i : Nat) (d : Dat), ds[i]? = some d → d.φ w J) ∧ St w0 Z M w m (ds ++ [dAg w J]) :=
 ⟨imm Z w0 m w, fun _ _ hi => h.get hi, h.data _ ⟨Af _, fun _ hk => ⟨hk, rfl⟩⟩⟩
theorem D6 {d : Dat} {w x : World} {J : Nat → Prop} (h : d.φ w J) (hx : w.heap.size ≤ x.heap.size ∧ ∀ k, J k → x.heap[k]? = w.heap[k]?) : d.φ x J := d.mono _ _ _ _ hx.1 h fun k hk => ⟨hk, hx.2 k hk⟩
theorem D8 {w : World} {g j : Nat} {e : TypeId} {cs : List Value} {v : Value} (h : (Res.box g e cs).holds w) (hv : cs[j]? = some v) : w.cell? ⟨g, j, none⟩ = some v := by
 rw [cell_of_row w g j cs.toArray e (0, 0) h]
 simpa using hv
theorem CellsAt.nil (w : World) (p : Addr) : CellsAt w p [] := fun j u hu => by simp at hu
theorem Ay {w : World} {g j : Nat} {v : Value} {vs : List Value} (h : w.cell? ⟨g, j, none⟩ = some v) (hs : CellsAt w ⟨g, j + 1, none⟩ vs) : CellsAt w ⟨g, j, none⟩ (v :: vs) := fun i u hu => by
 have hadd : ∀ (k : Nat) (i : Nat), (⟨g, k, none⟩ : Addr).add i = ⟨g, k + i, none⟩ := fun k i => by unfold Addr.add; split <;> simp_all
 rw [hadd]
 cases i with
 | zero =>
  have : v = u := by simpa using hu
  subst this
  exact h
 | succ i =>
  have := hs i u (by simpa using hu)
  rw [hadd] at this
  rw [show j + (i + 1) = j + 1 + i by omega]
  exact this
section
variable {P : Program} {X : Prop} {Next : Act → World → Prop} {o : Oper} {a : Act} {w : World} {N : Nat} {l : List (Nat × Value)} {d : Nat}
theorem BR {t : TypeId} {x : Operand} {p : Addr} {v : Value} {dsc : TypeDesc} (hs : SteV P X Next o a w) (hR : Reg a N l) (hd : o.dst = some d) (ho : o.op = .load t x) (hx : ev l x = some (.pointer (some p)))
  (hc : w.cell? p = some v) (ht : P.underlying t = some dsc) (hag : EB dsc = false) (hdN : d < N) (k : ∀ a', Reg a' N ((d, v) :: l) → Next a' w) : X := by
 refine Cv hs hR hd hdN ?_ k
 unfold execOp; rw [ho]
 simp only [hR.ev hx, Instr.loadAt, Instr.sureAddr, AF, Bg, Az, Ft ht hag hc]
theorem C9 {t : TypeId} {x : Operand} {p : Addr} {vs : List Value} {dsc : TypeDesc} (hs : SteV P X Next o a w) (hR : Reg a N l) (hd : o.dst = some d) (ho : o.op = .load t x) (hx : ev l x = some (.pointer (some p)))
  (hc : CellsAt w p vs) (ht : P.underlying t = some dsc) (hag : EB dsc = true) (hsz : (P.info? t).map (·.size) = some vs.length) (hdN : d < N) (k : ∀ a', Reg a' N ((d, .agg vs.toArray) :: l) → Next a' w) : X := by
 refine Cv hs hR hd hdN ?_ k
 unfold execOp; rw [ho]
 simp only [hR.ev hx, Instr.loadAt, Instr.sureAddr, AF, Bg, Az, FU ht hag hsz hc]
end
section
variable {P : Program} {ops : Array Oper} {Q : Exit → Act → World → Prop} {S : World → Prop} {a : Act} {w w0 : World} {N : Nat} {l : List (Nat × Value)} {d : Nat} {Z M : Nat → Prop} {m : List Res} {ds : List Dat} {oi : Oper} {i fuel : Nat} {listed : Array Bool}
theorem Um {id n : Nat} (hm : P.follows .mixedOrders = true) (hn : ops.size = n) (hS : St w0 Z M w m ds) (h : ∀ w', St w0 Z M w' m ds → wpAnyH P .any ops Q S n (Array.replicate n false) a w') : (Code.region id ops true).wp P Q a w :=
 wp_region_held hm (by rw [hn]; exact h _ hS.drew)
theorem Sx {v : Value} (hi : ops[i]? = some oi) (hs : Region.noSelect ops = true) (hf : Region.free .any ops listed i = true) (hr : (Region.ready .any ops listed).contains i = true)
  (hQ : ∀ c a w, Q (.panic c) (a.put oi.dst v) w → Q (.panic c) a w) (hd : oi.dst = some d) (hdN : d < N) (hR : Reg a N l) (hw : Region.wanted oi (yielded ops a.tmps) = true) (hy : ∀ x, S x → (execOp a.eval oi).run P x = .ok (.value v) x) (hS : S w)
  (h : ∀ a', Reg a' N ((d, v) :: l) → wpAnyH P .any ops Q S fuel (listed.setIfInBounds i true) a' w) : wpAnyH P .any ops Q S (fuel + 1) listed a w :=
 wpAnyH_take hi hs hf hr hQ (.inl ⟨hw, hy⟩) hS (by rw [hd]; exact h _ (hR.put hdN v))
theorem Vs (hi : ops[i]? = some oi) (hs : Region.noSelect ops = true) (hf : Region.free .any ops listed i = true) (hr : (Region.ready .any ops listed).contains i = true)
  (hQ : ∀ c a w, Q (.panic c) (a.put oi.dst undef) w → Q (.panic c) a w) (hd : oi.dst = some d) (hdN : d < N) (hR : Reg a N l) (hw : Region.wanted oi (yielded ops a.tmps) = false) (hS : S w)
  (h : ∀ a', Reg a' N ((d, undef) :: l) → wpAnyH P .any ops Q S fuel (listed.setIfInBounds i true) a' w) : wpAnyH P .any ops Q S (fuel + 1) listed a w :=
 wpAnyH_take hi hs hf hr hQ (.inr ⟨hw, rfl⟩) hS (by rw [hd]; exact h _ (hR.put hdN _))
theorem d_one (hr : Region.ready .any ops listed = [i]) (h : wpOp P ops Q i (fun a' w' => S w' ∧ wpAnyH P .any ops Q S fuel (listed.setIfInBounds i true) a' w') a w) : wpAnyH P .any ops Q S (fuel + 1) listed a w :=
 wpAnyH_all hr (by simp) (fun j hj => by rw [AB] at hj; subst hj; exact h)
end
end
section
/- Where paths come together. -/
open Go.RowKit
section
variable {P : Program} {ops : Array Oper} {Q : Exit → Act → World → Prop} {a : Act} {w : World}
theorem Mf {o : Oper} {I K' : Act → World → Prop} {J : Act → World → Prop} (h : ∀ a w, J a w → K' a w) (hh : o.wp P a w J (Exit.then I Q)) : o.wp P a w K' Q := by
 unfold Oper.wp at *
 generalize (execOp a.eval o).run P w = r at *
 cases r with
 | ok n w' =>
  cases n <;> simp only [Oper.upon] at hh ⊢ <;>
   first
    | exact h _ _ hh
    | exact Calls.mono hh (fun e w'' he => by cases e <;> first | exact h _ _ he | exact he)
    | exact Rows.mono hh (fun _ _ he => h _ _ he)
 | halt x w' => cases x <;> simp only [Oper.upon] at hh ⊢ <;> exact hh
theorem Ww {I : Act → World → Prop} {ys : List Oper} (k : ∀ a w, I a w → wpList P ops Q ys a w) : ∀ (xs : List Oper) (a : Act) (w : World), wpList P ops (Exit.then I Q) xs a w → wpList P ops Q (xs ++ ys) a w
 | [], a, w, h => k a w h
 | o :: xs, a, w, h => by
  rw [List.cons_append]
  unfold wpList at h ⊢
  split
  ·
   rename_i hw
   rw [At hw] at h
   exact h.imp (Mf (Ww k xs)) (fun h => ⟨h.1, h.2⟩)
  ·
   rename_i hw
   rw [Aq hw] at h
   exact Ww k xs _ _ h
theorem EA {l : List Oper} (I : Act → World → Prop) (n : Nat) (h : wpList P ops (Exit.then I Q) (l.take n) a w) (k : ∀ a w, I a w → wpList P ops Q (l.drop n) a w) : wpList P ops Q l a w := by
 have := Ww (ys := l.drop n) k (l.take n) a w h
 rwa [List.take_append_drop] at this
theorem Gc {x y : Code} (I : Act → World → Prop) (h : x.wp P (Exit.then I Q) a w) (k : ∀ a w, I a w → y.wp P Q a w) : (Code.seq x y).wp P Q a w :=
 wp_seq (wp_mono h fun e a w he => by
  cases e with
  | normal => exact k _ _ he
  | _ => exact he)
theorem St.row {w0 w : World} {Z M : Nat → Prop} {m : List Res} {ds : List Dat} (h : St w0 Z M w m ds) {i size n cap : Nat} {A : Option Addr} {xs : List Value} (hi : ds[i]? = some (Bw size A n cap xs)) : n ≤ cap ∧ RowI w (imm Z w0 m w) size A n xs := h.get hi
variable {N : Nat} {l l' : List (Nat × Value)}
end
end
section
/- The table of shapes; small closing lemmas. -/
open Go Go.RowKit
def Cu (w : World) (I : Nat → Prop) : Prop := ∀ k, k < 30 → ∃ (A : Option Addr) (cap : Nat),
 ((shp k).b.length ≤ cap ∧ RowI w I 1 A (shp k).b.length (BN (shp k).b)) ∧ I 0 ∧
 CellsAt w ((⟨0, 0, none⟩ : Addr).add (k * 4)) [.slice A (shp k).b.length cap, .bool (shp k).n, .bool (shp k).m, .bool (shp k).s]
def Br : Dat := ⟨Cu, fun w w' I I' _ h hk k hlt => by
 obtain ⟨A, cap, ⟨h1, h2⟩, h3, h4⟩ := h k hlt
 exact ⟨A, cap, ⟨h1, h2.mono hk⟩, (hk 0 h3).1, h4.keep (by rw [Eh]; exact (hk 0 h3).2)⟩⟩
theorem I1 {w : World} {I : Nat → Prop} (h : Cu w I) (k : Nat) (hk : k < 30) : ∃ (A : Option Addr) (cap : Nat),
  (Bw 1 A (shp k).b.length cap (BN (shp k).b)).φ w I ∧
  ElemAt w (some ⟨0, 0, none⟩) (k * 4) [.slice A (shp k).b.length cap, .bool (shp k).n, .bool (shp k).m, .bool (shp k).s] := by
 obtain ⟨A, cap, h1, h3, h4⟩ := h k hk
 exact ⟨A, cap, h1, _, rfl, h4⟩
theorem Bz {k : IntKind} {a b : Int} (h : a = b) : Value.int k a = Value.int k b := by rw [h]
theorem BQ {a b : Bool} (h : a = b) : Value.bool a = Value.bool b := by rw [h]
theorem Bj {a b a' b' : Value} (h : a = a') (h' : b = b') : Ending.returned (.tuple #[a, b]) = Ending.returned (.tuple #[a', b']) := by rw [h, h']
end
section
/- Bytes of strings; bits. -/
open Go Go.RowKit
def CK (s : ByteArray) (i : Nat) : Nat := if h : i < s.size then s[i].toNat else 0
theorem Gd (s : ByteArray) (i : Nat) : CK s i < 256 := by
 unfold CK
 split
 · exact UInt8.toNat_lt _
 · omega
def orB (a b : Nat) : Nat := a ||| b
def andB (a b : Nat) : Nat := a &&& b
section
variable {P : Program} {X : Prop} {Next : Act → World → Prop} {o : Oper} {a : Act} {w : World} {N : Nat} {l : List (Nat × Value)} {d : Nat}
theorem Mb {t : TypeId} {x y : Operand} {s : ByteArray} {p : Int} {ki : IntKind} {i : Nat} (hs : SteV P X Next o a w) (hR : Reg a N l) (hd : o.dst = some d) (ho : o.op = .index t x y) (hx : ev l x = some (.string s)) (hy : ev l y = some (.int ki p))
  (ht : P.underlying t = some .string) (hp : p = (i : Int)) (hi : i < s.size) (hdN : d < N) (k : ∀ a', Reg a' N ((d, .int .u8 ((CK s i : Nat) : Int)) :: l) → Next a' w) : X :=
 T4 hs hR hd ho hx hy ht hp hi hdN (by simpa [CK, hi] using k)
theorem QL {P : Program} {w : World} {t : TypeId} {a b : Nat} (ha : a < 256) (hb : b < 256) : (Go.binOp .or t (.int .u8 (a : Int)) (.int .u8 (b : Int))).run P w = .ok (.int .u8 ((orB a b : Nat) : Int)) w := by
 have h : a ||| b < 256 := Nat.or_lt_two_pow (n := 8) ha hb
 have h1 : (BitVec.ofInt 8 (a : Int) ||| BitVec.ofInt 8 (b : Int)).toNat = a ||| b := by
  simp [Nat.mod_eq_of_lt ha, Nat.mod_eq_of_lt hb]
 show Result.ok (Value.int .u8 (IntKind.u8.wrap (((BitVec.ofInt 8 (a : Int) ||| BitVec.ofInt 8 (b : Int)).toNat : Nat) : Int))) w = _
 rw [h1]
 unfold IntKind.wrap
 simp only [IntKind.bits, IntKind.signed, Bool.false_and, if_false, Bool.false_eq_true]
 congr 2
 unfold orB
 omega
theorem Tu {P : Program} {w : World} {t : TypeId} {a b : Nat} (ha : a < 2 ^ 31) (hb : b < 2 ^ 31) : (Go.binOp .or t (.int .i64 (a : Int)) (.int .i64 (b : Int))).run P w = .ok (.int .i64 ((orB a b : Nat) : Int)) w := by
 have h : a ||| b < 2 ^ 31 := Nat.or_lt_two_pow (n := 31) ha hb
 have h1 : (BitVec.ofInt 64 (a : Int) ||| BitVec.ofInt 64 (b : Int)).toNat = a ||| b := by
  simp [Nat.mod_eq_of_lt (show a < 18446744073709551616 by omega), Nat.mod_eq_of_lt (show b < 18446744073709551616 by omega)]
 show Result.ok (Value.int .i64 (IntKind.i64.wrap (((BitVec.ofInt 64 (a : Int) ||| BitVec.ofInt 64 (b : Int)).toNat : Nat) : Int))) w = _
 rw [h1, IntWalk.i64_in _ (by constructor <;> omega)]
 rfl
theorem QM {P : Program} {w : World} {t : TypeId} {a b : Nat} (ha : a < 2 ^ 31) (hb : b < 2 ^ 31) : (Go.binOp .and t (.int .i64 (a : Int)) (.int .i64 (b : Int))).run P w = .ok (.int .i64 ((andB a b : Nat) : Int)) w := by
 have h : a &&& b < 2 ^ 31 := Nat.and_lt_two_pow (n := 31) a hb
 have h1 : (BitVec.ofInt 64 (a : Int) &&& BitVec.ofInt 64 (b : Int)).toNat = a &&& b := by
  simp [Nat.mod_eq_of_lt (show a < 18446744073709551616 by omega), Nat.mod_eq_of_lt (show b < 18446744073709551616 by omega)]
 show Result.ok (Value.int .i64 (IntKind.i64.wrap (((BitVec.ofInt 64 (a : Int) &&& BitVec.ofInt 64 (b : Int)).toNat : Nat) : Int))) w = _
 rw [h1, IntWalk.i64_in _ (by constructor <;> omega)]
 rfl
end
set_option maxRecDepth 100000 in
theorem RS : ∀ c : Fin 256, ((97 ≤ orB c.val 32 ∧ orB c.val 32 ≤ 122) ∨ c.val = 95) ↔ letter (UInt8.ofNat c.val) = true := by decide
class NAg (P : Program) (t : TypeId) : Prop where h : ∃ d, P.underlying t = some d ∧ EB d = false
class Agg (P : Program) (t : TypeId) (n : outParam Nat) : Prop where h : ∃ d, P.underlying t = some d ∧ EB d = true ∧ (P.info? t).map (·.size) = some n
class Fld (P : Program) (t : TypeId) (f : Nat) (off : outParam Nat) : Prop where h : ∃ fs fl sz, P.underlying t = some (.struct fs) ∧ fs[f]? = some fl ∧ fl.offset = off ∧ (P.info? fl.type).map (·.size) = some sz ∧ (sz == 0) = false
class Siz (P : Program) (t : TypeId) (n : outParam Nat) : Prop where h : (P.info? t).map (·.size) = some n
class Zer (P : Program) (t : TypeId) (z : outParam Value) : Prop where h : (P.info? t).map (·.zero) = some (some z)
class Zis (P : Program) (t : TypeId) (z : outParam Value) (n b : outParam Nat) : Prop where h : (P.info? t).map (fun i => (i.zero, i.size, i.bytes)) = some (some z, n, b)
class Bld (P : Program) (t : TypeId) (zs : outParam (List Value)) (offs : outParam (List Nat)) : Prop where h : True
class Slc (P : Program) (t : TypeId) (e : outParam TypeId) : Prop where h : P.underlying t = some (.slice e)
class StrT (P : Program) (t : TypeId) : Prop where h : P.underlying t = some .string
end
section
/- Cuts of slices, and appends, by lists. -/
open Go Go.RowKit
section
variable {P : Program} {X : Prop} {Next : Act → World → Prop} {o : Oper} {a : Act} {w w0 : World} {N : Nat} {l : List (Nat × Value)} {d : Nat} {Z M : Nat → Prop} {m : List Res} {ds : List Dat}
theorem Gp {t e : TypeId} {x : Operand} {lo hi : Option Operand} {vlo vhi : Option Value} {A : Option Addr} {n cap size : Nat} {kd kd' : IntKind} (hs : SteV P X Next o a w) (hR : Reg a N l) (hd : o.dst = some d)
  (ho : o.op = .slice t x lo hi none) (hx : ev l x = some (.slice A n cap)) (hvlo : lo.map (ev l) = vlo.map some) (hvhi : hi.map (ev l) = vhi.map some) (k q : Nat)
  (hlo : vlo = some (.int kd (k : Int)) ∨ vlo = none ∧ k = 0) (hhi : vhi = some (.int kd' ((k + q : Nat) : Int)) ∨ vhi = none ∧ k + q = n)
  (ht : P.underlying t = some (.slice e)) (hsz : (P.info? e).map (·.size) = some size) (hm : k + q ≤ cap) (hdN : d < N)
  (kk : ∀ a', Reg a' N ((d, .slice (if cap = k then A else A.map (·.add (k * size))) q (cap - k)) :: l) → Next a' w) : X := by
 have hl : lo.map a.eval = vlo := by
  cases lo <;> cases vlo <;> simp_all
  exact hR.ev hvlo
 have hh : hi.map a.eval = vhi := by
  cases hi <;> cases vhi <;> simp_all
  exact hR.ev hvhi
 have hrun := I2 (P := P) (w := w) (A := A) (n := n) (cap := cap) (k := k) (m := k + q) (kd := kd) (kd' := kd') vlo vhi ht hsz (by omega) (by omega) hlo hhi
 rw [show k + q - k = q by omega] at hrun
 refine Cv hs hR hd hdN ?_ kk
 unfold execOp; rw [ho]
 simp only [hR.ev hx, hl, hh, Option.map_none, AF, hrun, Az, Bg]
theorem FQ (ad : Addr) : ad.add 0 = ad := by simp [Addr.add]
theorem Ez {t e : TypeId} {x y : Operand} {A : Option Addr} {n cap size : Nat} {kd : IntKind} {p : Int} (hs : SteV P X Next o a w) (hR : Reg a N l) (hd : o.dst = some d)
  (ho : o.op = .slice t x none (some y) none) (hx : ev l x = some (.slice A n cap)) (hy : ev l y = some (.int kd p)) (q : Nat) (hp : p = (q : Int))
  (ht : P.underlying t = some (.slice e)) (hsz : (P.info? e).map (·.size) = some size) (hm : q ≤ cap) (hdN : d < N)
  (kk : ∀ a', Reg a' N ((d, .slice A q cap) :: l) → Next a' w) : X := by
 subst hp
 refine Gp (vlo := none) (vhi := some (.int kd (q : Int))) (kd := .i64) (kd' := kd) hs hR hd ho hx rfl (by simp [hy]) 0 q (.inr ⟨rfl, rfl⟩) (.inl (by simp)) ht hsz (by omega) hdN (fun a' hR' => kk a' ?_)
 have : (if cap = 0 then A else A.map (·.add (0 * size))) = A := by
  split
  · rfl
  · cases A <;> simp [FQ]
 rw [this] at hR'
 simpa using hR'
def Cut (size : Nat) (A A' : Option Addr) (k q : Nat) : Prop := ∀ j, j < q → A'.map (·.add (j * size)) = A.map (·.add ((k + j) * size))
theorem Cut.elem {size k q j : Nat} {A A' : Option Addr} (h : Cut size A A' k q) {w : World} {vs : List Value} (hj : j < q) (he : ElemAt w A ((k + j) * size) vs) : ElemAt w A' (j * size) vs := by
 obtain ⟨ad, rfl, hc⟩ := he
 have h1 := h j hj
 cases A' with
 | none => cases h1
 | some ad' =>
  have h2 : ad'.add (j * size) = ad.add ((k + j) * size) := by simpa using h1
  exact ⟨ad', rfl, by rw [h2]; exact hc⟩
theorem Hi {t e : TypeId} {x : Operand} {lo hi : Option Operand} {vlo vhi : Option Value} {A : Option Addr} {n cap size : Nat} {kd kd' : IntKind} (hs : SteV P X Next o a w) (hR : Reg a N l) (hd : o.dst = some d)
  (ho : o.op = .slice t x lo hi none) (hx : ev l x = some (.slice A n cap)) (hvlo : lo.map (ev l) = vlo.map some) (hvhi : hi.map (ev l) = vhi.map some) (k q : Nat)
  (hlo : vlo = some (.int kd (k : Int)) ∨ vlo = none ∧ k = 0) (hhi : vhi = some (.int kd' ((k + q : Nat) : Int)) ∨ vhi = none ∧ k + q = n)
  (ht : P.underlying t = some (.slice e)) (hsz : (P.info? e).map (·.size) = some size) (hm : k + q ≤ cap) (hdN : d < N)
  (kk : ∀ a' A' c', q ≤ c' → Cut size A A' k q → Reg a' N ((d, .slice A' q c') :: l) → Next a' w) : X :=
 Gp hs hR hd ho hx hvlo hvhi k q hlo hhi ht hsz hm hdN (fun a' hR' => kk a' _ _ (by omega) (fun j hj => by
  rw [Aq (by omega)]
  cases A with
  | none => rfl
  | some ad => simp [DE, Nat.add_mul]) hR')
theorem TP {α : Type} {f : α → List Value} {t e : TypeId} {x : Operand} {lo hi : Option Operand} {vlo vhi : Option Value} {A : Option Addr} {cap size : Nat} {kd kd' : IntKind} {I : Nat → Prop} {L : List α} (hs : SteV P X Next o a w) (hR : Reg a N l) (hd : o.dst = some d)
  (ho : o.op = .slice t x lo hi none) (hx : ev l x = some (.slice A L.length cap)) (hvlo : lo.map (ev l) = vlo.map some) (hvhi : hi.map (ev l) = vhi.map some) (k q : Nat)
  (hlo : vlo = some (.int kd (k : Int)) ∨ vlo = none ∧ k = 0) (hhi : vhi = some (.int kd' ((k + q : Nat) : Int)) ∨ vhi = none ∧ k + q = L.length)
  (M' : List α) (hM : (L.drop k).take q = M') (hf : ∀ x, (f x).length = size)
  (hrow : L.length ≤ cap ∧ RowI w I size A L.length (L.flatMap f)) (ht : P.underlying t = some (.slice e)) (hsz : (P.info? e).map (·.size) = some size) (hm : k + q ≤ L.length) (hdN : d < N)
  (kk : ∀ a' A' c', M'.length ≤ c' ∧ RowI w I size A' M'.length (M'.flatMap f) → Reg a' N ((d, .slice A' M'.length c') :: l) → Next a' w) : X := by
 subst hM
 have hq : ((L.drop k).take q).length = q := by rw [Ah, BK]; omega
 refine Wr hs hR hd ho hx hvlo hvhi k q hlo hhi hrow.2 ht hsz hm hrow.1 hdN (fun a' A' c' hc hr hR' => kk a' A' c' ?_ ?_)
 ·
  rw [hq, ← FJ hf, ← Hm hf]
  exact ⟨hc, hr⟩
 · rw [hq]; exact hR'
theorem BL {α : Type} {f : α → List Value} {t e : TypeId} {x y : Operand} {A A2 : Option Addr} {cap c2 size bytes i : Nat} {z : Value} (L M' : List α) (hs : SteV P X Next o a w) (hR : Reg a N l) (hS : St w0 Z M w m ds) (hd : o.dst = some d)
  (ho : o.op = .call { callee := .builtin .append, args := #[x, y], argTypes := #[t, t] }) (hx : ev l x = some (.slice A L.length cap)) (hy : ev l y = some (.slice A2 M'.length c2)) (hi : m[i]? = some (.row A L.length cap e size (L.flatMap f)))
  (hf : ∀ x, (f x).length = size) (h1 : ∀ u ∈ M'.flatMap f, u.oneCell' = true)
  (ht : P.underlying t = some (.slice e)) (hinf : (P.info? e).map (fun i => (i.zero, i.size, i.bytes)) = some (some z, size, bytes)) (hzs : (z.cells.size == size) = true) (hsz : (size == 0) = false)
  (hr : 0 < M'.length → ∃ ad, A2 = some ad ∧ CellsAt w ad (M'.flatMap f)) (hby : decide (bytes ≤ 1000) = true) (hb : L.length + M'.length ≤ 100000000) (hdN : d < N)
  (k : ∀ a' w' A' cap', (L ++ M').length ≤ cap' → Reg a' N ((d, .slice A' (L ++ M').length cap') :: l) → St w0 Z M w' (m.set i (.row A' (L ++ M').length cap' e size ((L ++ M').flatMap f))) ds → Next a' w') : X := by
 refine OJ (news := M'.flatMap f) hs hR hS hd ho hx hy hi (Af _) ht hinf hzs hsz (Dr hf M') hr h1 hby hb hdN (fun a' w' A' cap' hc hR' hS' => k a' w' A' cap' ?_ ?_ ?_)
 · rw [Ab]; exact hc
 · rw [Ab]; exact hR'
 ·
  rw [Ab, List.flatMap_append]
  rw [FJ hf, CQ] at hS'
  exact hS'
theorem Mm {α : Type} {f : α → List Value} {t e : TypeId} {x y : Operand} {A A2 : Option Addr} {n cap c2 size bytes i : Nat} {z : Value} (L M' : List α) (hs : SteV P X Next o a w) (hR : Reg a N l) (hS : St w0 Z M w m ds) (hd : o.dst = some d)
  (ho : o.op = .call { callee := .builtin .append, args := #[x, y], argTypes := #[t, t] }) (hx : ev l x = some (.slice A n cap)) (hy : ev l y = some (.slice A2 M'.length c2)) (hi : m[i]? = some (.row A L.length cap e size (L.flatMap f)))
  (hn : n ≤ L.length) (hf : ∀ x, (f x).length = size) (h1 : ∀ u ∈ M'.flatMap f, u.oneCell' = true)
  (ht : P.underlying t = some (.slice e)) (hinf : (P.info? e).map (fun i => (i.zero, i.size, i.bytes)) = some (some z, size, bytes)) (hzs : (z.cells.size == size) = true) (hsz : (size == 0) = false)
  (hr : 0 < M'.length → ∃ ad, A2 = some ad ∧ CellsAt w ad (M'.flatMap f)) (hby : decide (bytes ≤ 1000) = true) (hb : n + M'.length ≤ 100000000) (hdN : d < N)
  (k : ∀ a' w' A' cap', (L.take n ++ M').length ≤ cap' → Reg a' N ((d, .slice A' (L.take n ++ M').length cap') :: l) → St w0 Z M w' (m.set i (.row A' (L.take n ++ M').length cap' e size ((L.take n ++ M').flatMap f))) ds → Next a' w') : X := by
 have hl : (L.take n ++ M').length = n + M'.length := by rw [Ab, Ah, Nat.min_eq_left hn]
 refine OJ (news := M'.flatMap f) hs hR hS hd ho hx hy hi hn ht hinf hzs hsz (Dr hf M') hr h1 hby hb hdN (fun a' w' A' cap' hc hR' hS' => k a' w' A' cap' ?_ ?_ ?_)
 · rw [hl]; exact hc
 · rw [hl]; exact hR'
 ·
  rw [hl, List.flatMap_append]
  rw [FJ hf] at hS'
  exact hS'
theorem BU {α : Type} {f : α → List Value} {w : World} {A : Option Addr} {n cap e size : Nat} {xs : List Value} (h : (Res.row A n cap e size xs).holds w) : 0 < n → ∃ ad, A = some ad ∧ CellsAt w ad xs := O7 h
end
theorem IJ {b : Bool} (h : (!b) = true) : b = false := by cases b <;> simp_all
theorem He {b : Bool} (h : (!b) = false) : b = true := by cases b <;> simp_all
theorem CU {a b : Bool} (h : (a || b) = false) : a = false := by cases a <;> simp_all
theorem CT {a b : Bool} (h : (a || b) = false) : b = false := by cases b <;> simp_all
theorem Eu {a b : Bool} (h : (a && b) = true) : a = true := by cases a <;> simp_all
theorem Et {a b : Bool} (h : (a && b) = true) : b = true := by cases b <;> simp_all
end
section
/- Appends of zeros; nodes compared; boxes of the caller's. -/
open Go Go.RowKit
theorem GI (k : Nat) : (Builtin.zeroCells (Value.int .i64 0).cells k).toList = List.replicate k (.int .i64 0) := by
 apply List.ext_getElem
 · simp [Builtin.zeroCells, Value.cells]
 ·
  intro i h1 h2
  simp [Builtin.zeroCells, Value.cells, Nat.mod_one]
theorem JG (q : Nat) : (List.replicate q (0 : Int)).flatMap EI = List.replicate q (Value.int .i64 0) := by
 induction q with
 | zero => rfl
 | succ q ih => rw [List.replicate_succ, List.flatMap_cons, ih]; rfl
section
variable {P : Program} {X : Prop} {Next : Act → World → Prop} {o : Oper} {a : Act} {w w0 : World} {N : Nat} {l : List (Nat × Value)} {d : Nat} {Z M : Nat → Prop} {m : List Res} {ds : List Dat}
theorem HX {t tn ty e : TypeId} {inf : TypeInfo} {kn kq : IntKind} {xs : List Value} {g n cap q : Nat} (ht : P.underlying t = some (.slice e)) (htn : P.underlying tn = some (.int kn)) (hi : P.info? e = some inf) (hz : inf.zero = some (.int .i64 0)) (hsize : inf.size = 1) (hby : inf.bytes = 8)
  (hown : w.ownsRow 0 e 1 (.slice (some ⟨g, 0, none⟩) n cap) n xs) (hq : 0 < q) (hb : n + q ≤ 100000000) :
  ∃ v' w', (Builtin.append_ #[t, tn] ty #[.slice (some ⟨g, 0, none⟩) n cap, .int kq (q : Int)]).run P w = .ok v' w' ∧ w'.ownsRow 0 e 1 v' (n + q) (xs ++ List.replicate q (.int .i64 0)) ∧ w.grownBy w' (some g) ∧
   (v'.ownBlock = some g ∨ v'.ownBlock = some w.heap.size) := by
 have hlen : (xs ++ List.replicate q (Value.int .i64 0)).length = (n + q) * 1 := by rw [Ab, hown.1, BP]; omega
 rcases hown.2 with ⟨h, _⟩ | ⟨g', cap', cur, hv, hbg, hg, hnc, hcm, hcs, htake⟩
 · cases h
 ·
  injection hv with hv1 hv2 hv3
  injection hv1 with hv1
  injection hv1 with hv1
  subst hv1
  subst hv3
  have hw : IntKind.i64.wrap (q : Int) = q := by rw [IntKind.wrap_i64]; omega
  by_cases hroom : n + q ≤ cap
  ·
   have hst := run_storeCells_at P g (n * 1) e (List.replicate q (Value.int .i64 0)) 0 cur w hg (by rw [BP, hcs]; omega) (fun u hu => by rw [List.mem_replicate] at hu; rw [hu.2]; rfl)
   simp only [Nat.add_zero, BP, Nat.mul_one] at hst
   have hr : (Builtin.append_ #[t, tn] ty #[.slice (some ⟨g, 0, none⟩) n cap, .int kq (q : Int)]).run P w =
     .ok (.slice (some ⟨g, 0, none⟩) (n + q) cap) (w.setRow g (cur.toList.take n ++ List.replicate q (Value.int .i64 0) ++ cur.toList.drop (n + q)).toArray) := by
    have hneg : ¬ ((q : Int) < 0) := by omega
    have h48i : ¬ (281474976710656 < (q : Int) * (inf.bytes : Int)) := by rw [hby]; omega
    have hq0 : q ≠ 0 := by omega
    simp [Builtin.append_, run_underlying ht, run_underlying htn, sizeOf, typeInfo, zeroValue, hi, hz, hsize, asInt, asIntOf, hw, hq0, hneg, h48i, hroom, GI, Addr.add_lit, hst]
   refine ⟨_, _, hr, ⟨hlen, .inr ⟨g, cap, _, rfl, hbg, setRow_heap w g cur _ e _ hg, hroom, hcm, ?_, ?_⟩⟩, ⟨rfl, rfl, rfl, by simp, fun k _ hk => setRow_other w g k _ (fun e => hk (by rw [e]))⟩, .inl rfl⟩
   ·
    simp only [List.size_toArray, Ab, Ah, BK, Array.length_toList, BP]
    omega
   ·
    have : cur.toList.take n = xs := by rw [← htake, Nat.mul_one]
    rw [this, ← hlen]
    exact List.take_left
  ·
   have holds : ∀ j u, xs[j]? = some u → w.drew.cell? ((⟨g, 0, none⟩ : Addr).add j) = some u := fun j u hu => hown.cells (g := g) rfl j u hu
   have hold := run_firstCells_some (P := P) w.drew inf.size n ⟨g, 0, none⟩ n cap xs (by rw [hsize]; exact hown.1) holds
   clear hw
   have hr := Lib.run_append_grow_zeros (P := P) w t tn ty e inf _ kq kn ht htn hi hz (some ⟨g, 0, none⟩) n cap xs hold q hq (by omega) (by omega) (by omega) (by rw [hby]; omega) (by rw [hby]; exact growslice_fits (by omega) (by omega))
   have hge := grownCap_ge w (n + q) cap e
   have hcm' : grownCap w (n + q) cap e ≤ maxLen := grownCap_le_maxLen w (n + q) cap e (by unfold maxLen; omega)
   refine ⟨_, _, hr, ⟨hlen, .inr ⟨w.heap.size, _, _, rfl, Nat.zero_le _, heap_alloc_new w.drew _, hge, hcm', ?_, ?_⟩⟩, ⟨rfl, rfl, rfl, by simp, fun k hk _ => HT w.drew _ k hk⟩, .inr rfl⟩
   ·
    simp only [Array.size_append, List.size_toArray, size_zeroCells, hown.1]
    simp [Value.cells]
    omega
   ·
    simp only [Array.toList_append, GI]
    rw [← hlen]
    exact List.take_left
theorem Ml {t tn e : TypeId} {kn kq : IntKind} {x y : Operand} {A : Option Addr} {cap i : Nat} {p : Int} (L : List Int) (q : Nat) (hs : SteV P X Next o a w) (hR : Reg a N l) (hS : St w0 Z M w m ds) (hd : o.dst = some d)
  (ho : o.op = .call { callee := .builtin .append, args := #[x, y], argTypes := #[t, tn] }) (hx : ev l x = some (.slice A L.length cap)) (hy : ev l y = some (.int kq p)) (hi : m[i]? = some (.row A L.length cap e 1 (L.flatMap EI)))
  (hp : p = (q : Int)) (hq : 0 < q) (hL : 0 < L.length) (hb : L.length + q ≤ 100000000)
  (ht : P.underlying t = some (.slice e)) (htn : P.underlying tn = some (.int kn)) (hinf : (P.info? e).map (fun i => (i.zero, i.size, i.bytes)) = some (some (.int .i64 0), 1, 8)) (hdN : d < N)
  (k : ∀ a' w' A' cap', (L ++ List.replicate q 0).length ≤ cap' → Reg a' N ((d, .slice A' (L ++ List.replicate q 0).length cap') :: l) → St w0 Z M w' (m.set i (.row A' (L ++ List.replicate q 0).length cap' e 1 ((L ++ List.replicate q 0).flatMap EI))) ds → Next a' w') : X := by
 subst hp
 cases hqq : P.info? e with
 | none => simp [hqq] at hinf
 | some inf =>
  simp only [hqq, Cm, Cs, DH] at hinf
  obtain ⟨hz, hs2, hb2⟩ := hinf
  have hown : w.ownsRow 0 e 1 (.slice A L.length cap) L.length (L.flatMap EI) := hS.res hi
  obtain ⟨g, rfl⟩ := EY hown hL
  obtain ⟨v', w', hrun, h2, h3, h4⟩ := HX (P := P) (ty := o.type) (kq := kq) ht htn hqq hz hs2 hb2 hown hq hb
  obtain ⟨A', cap', rfl, hcap, h2'⟩ := KS h2
  have hl : (L ++ List.replicate q 0).length = L.length + q := by simp
  have hxs : (L ++ List.replicate q 0).flatMap EI = L.flatMap EI ++ List.replicate q (Value.int .i64 0) := by
   rw [List.flatMap_append]
   congr 1
   exact JG q
  refine hs.val (.slice A' (L.length + q) cap') w' ?_ ?_
  ·
   unfold execOp; rw [ho]
   simp only [resolve, invoke, builtin, AF, Bg, Az, List.map_toArray, BJ, C6, hR.ev hx, hR.ev hy, hrun]
  ·
   rw [hd]
   refine k _ _ A' cap' (by rw [hl]; exact hcap) (by rw [hl]; exact hR.put hdN _) ?_
   rw [hl, hxs]
   refine hS.turn hi h3.os h3.tape h3.output h3.size (fun k' hk' hne => h3.block k' hk' (fun e' => hne (by rw [e']; rfl))) h2' (fun k' hk' => ?_)
   have hown' : (Value.slice A' (L.length + q) cap').ownBlock = some k' := by
    cases A' with
    | none => cases hk'
    | some ad => exact hk'
   refine ⟨(h2.lt k' hown').2, ?_⟩
   rcases h4 with h4 | h4
   ·
    left
    rw [h4] at hown'
    exact hown'
   ·
    right
    rw [hown'] at h4
    have := B4 h4
    omega
theorem Ke {t e : TypeId} {n : Nat} {x y : Operand} {p q : Int} {kx ky : IntKind} (hs : SteV P X Next o a w) (hR : Reg a N l) (hS : St w0 Z M w m ds) (hd : o.dst = some d) (ho : o.op = .makeSlice t x y) (hx : ev l x = some (.int kx p)) (hy : ev l y = some (.int ky q))
  (hp : p = (n : Int)) (hq' : q = (n : Int)) (ht : P.underlying t = some (.slice e)) (hi : (P.info? e).map (fun i => (i.zero, i.size, i.bytes)) = some (some (.int .i64 0), 1, 8)) (hn : n ≤ 1000000) (hdN : d < N)
  (k : ∀ a' w' g, Reg a' N ((d, .slice (some ⟨g, 0, none⟩) (List.replicate n (0 : Int)).length (List.replicate n (0 : Int)).length) :: l) → St w0 Z M w' (m ++ [.row (some ⟨g, 0, none⟩) (List.replicate n (0 : Int)).length (List.replicate n (0 : Int)).length e 1 (BN (List.replicate n 0))]) ds → Next a' w') : X :=
 IU hs hR hS hd ho hx hy hp hq' ht hi rfl rfl rfl hn hdN (fun a' w' g hR' hS' => k a' w' g (by rw [BP]; exact hR') (by rw [BP, BN, JG]; exact hS'))
theorem Wk {m n : Nd} : m = n ↔ m.K = n.K ∧ m.N = n.N ∧ m.M = n.M ∧ m.S = n.S := by
 cases m; cases n; simp
theorem Ev {fn : Func} {R : Ending → World → Prop} {t i g : Nat} {e ty : TypeId} {vs : List Value} {dsc : TypeDesc} {how : Exit} (hhow : how = .ret ∨ how = .normal) (hR : Reg a N l) (hS : St w0 Z M w m ds) (h0 : l.lookup 1000000 = some (.bool false)) (hr : fn.results = #[.cell t ty]) (hv : ev l (.tmp t) = some (.pointer (some ⟨g, 0, none⟩)))
  (hi : m[i]? = some (.box g e vs)) (ht : P.underlying ty = some dsc) (hag : EB dsc = true) (hsz : (P.info? ty).map (·.size) = some vs.length) (h : R (.returned (.agg vs.toArray)) w) : bodyPost P fn R how a w := by
 have hc : CellsAt w ⟨g, 0, none⟩ vs := F1 (hS.res hi)
 have hl := FU (P := P) ht hag hsz hc
 have hgt : a.tmps.getD t undef = .pointer (some ⟨g, 0, none⟩) := hR.ev hv
 have : bodyPost P fn R .ret a w := ⟨hR.dfr h0, .agg vs.toArray, by
  simp only [results, hr]
  have hgt' : a.tmps[t]?.getD undef = .pointer (some ⟨g, 0, none⟩) := by rw [← Array.getD_eq_getD_getElem?]; exact hgt
  simp [AF, hgt', asAddr, hl], h⟩
 rcases hhow with rfl | rfl
 · exact this
 · exact this
end
end
section
/- Facts of types and functions, read off the program. Printed by gen.py. -/
open Go Go.RowKit
theorem J9 : Tryz.prog.follows .mixedOrders = true := by kernel_rfl
theorem sz3 : (Tryz.prog.info? 3).map (·.size) = some 1 := by kernel_rfl
theorem ze3 : (Tryz.prog.info? 3).map (·.zero) = some (some (.int .i64 0)) := by kernel_rfl
theorem zi3 : (Tryz.prog.info? 3).map (fun i => (i.zero, i.size, i.bytes)) = some (some (.int .i64 0), 1, 8) := by kernel_rfl
theorem sz4 : (Tryz.prog.info? 4).map (·.size) = some 1 := by kernel_rfl
theorem zi4 : (Tryz.prog.info? 4).map (fun i => (i.zero, i.size, i.bytes)) = some (some (.bool false), 1, 1) := by kernel_rfl
theorem sz9 : (Tryz.prog.info? 9).map (·.size) = some 1 := by kernel_rfl
theorem zi9 : (Tryz.prog.info? 9).map (fun i => (i.zero, i.size, i.bytes)) = some (some (.string (⟨#[]⟩ : ByteArray)), 1, 16) := by kernel_rfl
theorem LG : (Tryz.prog.info? 22).map (·.size) = some 1 := by kernel_rfl
theorem ze22 : (Tryz.prog.info? 22).map (·.zero) = some (some (.slice none 0 0)) := by kernel_rfl
theorem L3 : (Tryz.prog.info? 22).map (fun i => (i.zero, i.size, i.bytes)) = some (some (.slice none 0 0), 1, 24) := by kernel_rfl
theorem sz23 : (Tryz.prog.info? 23).map (·.size) = some 1 := by kernel_rfl
theorem Xn : (Tryz.prog.info? 25).map (·.size) = some 6 := by kernel_rfl
theorem ze25 : (Tryz.prog.info? 25).map (·.zero) = some (some (.agg #[.int .i64 0, .int .i64 0, .string (⟨#[]⟩ : ByteArray), .slice none 0 0, .slice none 0 0, .slice none 0 0])) := by kernel_rfl
theorem sz26 : (Tryz.prog.info? 26).map (·.size) = some 1 := by kernel_rfl
theorem DK : (Tryz.prog.info? 30).map (·.size) = some 4 := by kernel_rfl
theorem ze30 : (Tryz.prog.info? 30).map (·.zero) = some (some (.agg #[.int .i64 0, .int .i64 0, .int .i64 0, .string (⟨#[]⟩ : ByteArray)])) := by kernel_rfl
theorem Qj : (Tryz.prog.info? 30).map (fun i => (i.zero, i.size, i.bytes)) = some (some (.agg #[.int .i64 0, .int .i64 0, .int .i64 0, .string (⟨#[]⟩ : ByteArray)]), 4, 40) := by kernel_rfl
theorem V6 : (Tryz.prog.info? 31).map (·.size) = some 1 := by kernel_rfl
theorem ze31 : (Tryz.prog.info? 31).map (·.zero) = some (some (.int .i64 0)) := by kernel_rfl
theorem sz35 : (Tryz.prog.info? 35).map (·.size) = some 6 := by kernel_rfl
theorem sz37 : (Tryz.prog.info? 37).map (·.size) = some 1 := by kernel_rfl
theorem ze37 : (Tryz.prog.info? 37).map (·.zero) = some (some (.slice none 0 0)) := by kernel_rfl
theorem zi37 : (Tryz.prog.info? 37).map (fun i => (i.zero, i.size, i.bytes)) = some (some (.slice none 0 0), 1, 24) := by kernel_rfl
theorem sz54 : (Tryz.prog.info? 54).map (·.size) = some 1 := by kernel_rfl
theorem sz56 : (Tryz.prog.info? 56).map (·.size) = some 2 := by kernel_rfl
theorem sz57 : (Tryz.prog.info? 57).map (·.size) = some 1 := by kernel_rfl
theorem ze57 : (Tryz.prog.info? 57).map (·.zero) = some (some (.slice none 0 0)) := by kernel_rfl
theorem Hs : (Tryz.prog.info? 65).map (·.size) = some 2 := by kernel_rfl
theorem ze65 : (Tryz.prog.info? 65).map (·.zero) = some (some (.agg #[.slice none 0 0, .int .i64 0])) := by kernel_rfl
theorem zi65 : (Tryz.prog.info? 65).map (fun i => (i.zero, i.size, i.bytes)) = some (some (.agg #[.slice none 0 0, .int .i64 0]), 2, 32) := by kernel_rfl
theorem LH : (Tryz.prog.info? 116).map (·.size) = some 1 := by kernel_rfl
theorem zi116 : (Tryz.prog.info? 116).map (fun i => (i.zero, i.size, i.bytes)) = some (some (.nilFunc), 1, 8) := by kernel_rfl
theorem Pu : (Tryz.prog.info? 126).map (·.size) = some 2 := by kernel_rfl
theorem ze126 : (Tryz.prog.info? 126).map (·.zero) = some (some (.agg #[.int .i64 0, .int .i64 0])) := by kernel_rfl
theorem Vy : (Tryz.prog.info? 126).map (fun i => (i.zero, i.size, i.bytes)) = some (some (.agg #[.int .i64 0, .int .i64 0]), 2, 16) := by kernel_rfl
theorem Q4 : (Tryz.prog.info? 154).map (·.size) = some 4 := by kernel_rfl
theorem ze154 : (Tryz.prog.info? 154).map (·.zero) = some (some (.agg #[.slice none 0 0, .bool false, .bool false, .bool false])) := by kernel_rfl
theorem sz164 : (Tryz.prog.info? 164).map (·.size) = some 2 := by kernel_rfl
theorem Ei : (Tryz.prog.info? 172).map (·.size) = some 3 := by kernel_rfl
theorem ze172 : (Tryz.prog.info? 172).map (·.zero) = some (some (.agg #[.int .i64 0, .int .i64 0, .string (⟨#[]⟩ : ByteArray)])) := by kernel_rfl
theorem sz182 : (Tryz.prog.info? 182).map (·.size) = some 1 := by kernel_rfl
theorem sz184 : (Tryz.prog.info? 184).map (·.size) = some 1 := by kernel_rfl
theorem sz189 : (Tryz.prog.info? 189).map (·.size) = some 5 := by kernel_rfl
theorem ze189 : (Tryz.prog.info? 189).map (·.zero) = some (some (.agg #[.int .i64 0, .int .i64 0, .int .i64 0, .string (⟨#[]⟩ : ByteArray), .string (⟨#[]⟩ : ByteArray)])) := by kernel_rfl
instance in3 : NAg Tryz.prog 3 := ⟨⟨_, Bl, rfl⟩⟩
instance iz3 : Siz Tryz.prog 3 1 := ⟨sz3⟩
instance ie3 : Zer Tryz.prog 3 (.int .i64 0) := ⟨ze3⟩
instance ii3 : Zis Tryz.prog 3 (.int .i64 0) 1 8 := ⟨zi3⟩
instance in4 : NAg Tryz.prog 4 := ⟨⟨_, C2, rfl⟩⟩
instance iz4 : Siz Tryz.prog 4 1 := ⟨sz4⟩
instance ii4 : Zis Tryz.prog 4 (.bool false) 1 1 := ⟨zi4⟩
instance ib7 : Bld Tryz.prog 7 [.int .i64 0, .int .i64 0, .bool false, .int .u8 0] [0, 1, 2, 3] := ⟨trivial⟩
instance ib8 : Bld Tryz.prog 8 [.int .i64 0, .int .i64 0, .bool false, .int .u8 0] [0, 1, 2, 3] := ⟨trivial⟩
instance in9 : NAg Tryz.prog 9 := ⟨⟨_, A8, rfl⟩⟩
instance ir9 : StrT Tryz.prog 9 := ⟨A8⟩
instance ib13 : Bld Tryz.prog 13 [.string (⟨#[]⟩ : ByteArray), .int .u64 0] [0, 1] := ⟨trivial⟩
instance ib14 : Bld Tryz.prog 14 [.string (⟨#[]⟩ : ByteArray), .int .u64 0] [0, 1] := ⟨trivial⟩
instance in22 : NAg Tryz.prog 22 := ⟨⟨_, Au, rfl⟩⟩
instance il22 : Slc Tryz.prog 22 30 := ⟨Au⟩
instance iz22 : Siz Tryz.prog 22 1 := ⟨LG⟩
instance ie22 : Zer Tryz.prog 22 (.slice none 0 0) := ⟨ze22⟩
instance ii22 : Zis Tryz.prog 22 (.slice none 0 0) 1 24 := ⟨L3⟩
instance in23 : NAg Tryz.prog 23 := ⟨⟨_, G0, rfl⟩⟩
instance il23 : Slc Tryz.prog 23 37 := ⟨G0⟩
instance ib24 : Bld Tryz.prog 24 [.int .i64 0, .int .i64 0, .string (⟨#[]⟩ : ByteArray), .slice none 0 0, .slice none 0 0, .slice none 0 0] [0, 1, 2, 3, 4, 5] := ⟨trivial⟩
instance ia25 : Agg Tryz.prog 25 6 := ⟨⟨_, CD, rfl, Xn⟩⟩
instance if25_0 : Fld Tryz.prog 25 0 0 := ⟨⟨_, _, _, CD, rfl, rfl, sz3, rfl⟩⟩
instance if25_1 : Fld Tryz.prog 25 1 1 := ⟨⟨_, _, _, CD, rfl, rfl, sz3, rfl⟩⟩
instance if25_2 : Fld Tryz.prog 25 2 2 := ⟨⟨_, _, _, CD, rfl, rfl, sz9, rfl⟩⟩
instance if25_3 : Fld Tryz.prog 25 3 3 := ⟨⟨_, _, _, CD, rfl, rfl, LG, rfl⟩⟩
instance if25_4 : Fld Tryz.prog 25 4 4 := ⟨⟨_, _, _, CD, rfl, rfl, LG, rfl⟩⟩
instance if25_5 : Fld Tryz.prog 25 5 5 := ⟨⟨_, _, _, CD, rfl, rfl, sz23, rfl⟩⟩
instance iz25 : Siz Tryz.prog 25 6 := ⟨Xn⟩
instance ie25 : Zer Tryz.prog 25 (.agg #[.int .i64 0, .int .i64 0, .string (⟨#[]⟩ : ByteArray), .slice none 0 0, .slice none 0 0, .slice none 0 0]) := ⟨ze25⟩
instance ib25 : Bld Tryz.prog 25 [.int .i64 0, .int .i64 0, .string (⟨#[]⟩ : ByteArray), .slice none 0 0, .slice none 0 0, .slice none 0 0] [0, 1, 2, 3, 4, 5] := ⟨trivial⟩
instance in26 : NAg Tryz.prog 26 := ⟨⟨_, Ek, rfl⟩⟩
instance il26 : Slc Tryz.prog 26 4 := ⟨Ek⟩
instance ib29 : Bld Tryz.prog 29 [.int .i64 0, .int .i64 0, .int .i64 0, .string (⟨#[]⟩ : ByteArray)] [0, 1, 2, 3] := ⟨trivial⟩
instance ia30 : Agg Tryz.prog 30 4 := ⟨⟨_, Ar, rfl, DK⟩⟩
instance if30_0 : Fld Tryz.prog 30 0 0 := ⟨⟨_, _, _, Ar, rfl, rfl, sz3, rfl⟩⟩
instance if30_1 : Fld Tryz.prog 30 1 1 := ⟨⟨_, _, _, Ar, rfl, rfl, sz3, rfl⟩⟩
instance if30_2 : Fld Tryz.prog 30 2 2 := ⟨⟨_, _, _, Ar, rfl, rfl, sz3, rfl⟩⟩
instance if30_3 : Fld Tryz.prog 30 3 3 := ⟨⟨_, _, _, Ar, rfl, rfl, sz9, rfl⟩⟩
instance iz30 : Siz Tryz.prog 30 4 := ⟨DK⟩
instance ie30 : Zer Tryz.prog 30 (.agg #[.int .i64 0, .int .i64 0, .int .i64 0, .string (⟨#[]⟩ : ByteArray)]) := ⟨ze30⟩
instance ii30 : Zis Tryz.prog 30 (.agg #[.int .i64 0, .int .i64 0, .int .i64 0, .string (⟨#[]⟩ : ByteArray)]) 4 40 := ⟨Qj⟩
instance ib30 : Bld Tryz.prog 30 [.int .i64 0, .int .i64 0, .int .i64 0, .string (⟨#[]⟩ : ByteArray)] [0, 1, 2, 3] := ⟨trivial⟩
instance in31 : NAg Tryz.prog 31 := ⟨⟨_, CX, rfl⟩⟩
instance iz31 : Siz Tryz.prog 31 1 := ⟨V6⟩
instance ie31 : Zer Tryz.prog 31 (.int .i64 0) := ⟨ze31⟩
instance ia35 : Agg Tryz.prog 35 6 := ⟨⟨_, Ej, rfl, sz35⟩⟩
instance if35_0 : Fld Tryz.prog 35 0 0 := ⟨⟨_, _, _, Ej, rfl, rfl, sz3, rfl⟩⟩
instance if35_1 : Fld Tryz.prog 35 1 1 := ⟨⟨_, _, _, Ej, rfl, rfl, sz3, rfl⟩⟩
instance if35_2 : Fld Tryz.prog 35 2 2 := ⟨⟨_, _, _, Ej, rfl, rfl, sz9, rfl⟩⟩
instance if35_3 : Fld Tryz.prog 35 3 3 := ⟨⟨_, _, _, Ej, rfl, rfl, LG, rfl⟩⟩
instance if35_4 : Fld Tryz.prog 35 4 4 := ⟨⟨_, _, _, Ej, rfl, rfl, LG, rfl⟩⟩
instance if35_5 : Fld Tryz.prog 35 5 5 := ⟨⟨_, _, _, Ej, rfl, rfl, sz23, rfl⟩⟩
instance ib35 : Bld Tryz.prog 35 [.int .i64 0, .int .i64 0, .string (⟨#[]⟩ : ByteArray), .slice none 0 0, .slice none 0 0, .slice none 0 0] [0, 1, 2, 3, 4, 5] := ⟨trivial⟩
instance in37 : NAg Tryz.prog 37 := ⟨⟨_, Be, rfl⟩⟩
instance il37 : Slc Tryz.prog 37 22 := ⟨Be⟩
instance iz37 : Siz Tryz.prog 37 1 := ⟨sz37⟩
instance ie37 : Zer Tryz.prog 37 (.slice none 0 0) := ⟨ze37⟩
instance ii37 : Zis Tryz.prog 37 (.slice none 0 0) 1 24 := ⟨zi37⟩
instance in52 : NAg Tryz.prog 52 := ⟨⟨_, B9, rfl⟩⟩
instance if54_0 : Fld Tryz.prog 54 0 0 := ⟨⟨_, _, _, Tryz.underlying54, rfl, rfl, V6, rfl⟩⟩
instance ib55 : Bld Tryz.prog 55 [.int .i64 0, .int .i64 0] [0, 1] := ⟨trivial⟩
instance if56_0 : Fld Tryz.prog 56 0 0 := ⟨⟨_, _, _, Tryz.underlying56, rfl, rfl, sz54, rfl⟩⟩
instance if56_1 : Fld Tryz.prog 56 1 1 := ⟨⟨_, _, _, Tryz.underlying56, rfl, rfl, sz3, rfl⟩⟩
instance ib56 : Bld Tryz.prog 56 [.int .i64 0, .int .i64 0] [0, 1] := ⟨trivial⟩
instance in57 : NAg Tryz.prog 57 := ⟨⟨_, AU, rfl⟩⟩
instance il57 : Slc Tryz.prog 57 3 := ⟨AU⟩
instance iz57 : Siz Tryz.prog 57 1 := ⟨sz57⟩
instance ie57 : Zer Tryz.prog 57 (.slice none 0 0) := ⟨ze57⟩
instance ib58 : Bld Tryz.prog 58 [.int .i64 0, .int .i64 0, .int .i64 0, .int .i64 0, .string (⟨#[]⟩ : ByteArray), .slice none 0 0, .slice none 0 0, .slice none 0 0, .int .i64 0, .slice none 0 0, .bool false, .slice none 0 0, .slice none 0 0, .slice none 0 0] [0, 2, 8, 9, 10, 11, 12, 13] := ⟨trivial⟩
instance if59_0 : Fld Tryz.prog 59 0 0 := ⟨⟨_, _, _, DJ, rfl, rfl, sz56, rfl⟩⟩
instance if59_1 : Fld Tryz.prog 59 1 2 := ⟨⟨_, _, _, DJ, rfl, rfl, Xn, rfl⟩⟩
instance if59_2 : Fld Tryz.prog 59 2 8 := ⟨⟨_, _, _, DJ, rfl, rfl, sz3, rfl⟩⟩
instance if59_3 : Fld Tryz.prog 59 3 9 := ⟨⟨_, _, _, DJ, rfl, rfl, sz26, rfl⟩⟩
instance if59_4 : Fld Tryz.prog 59 4 10 := ⟨⟨_, _, _, DJ, rfl, rfl, sz4, rfl⟩⟩
instance if59_5 : Fld Tryz.prog 59 5 11 := ⟨⟨_, _, _, DJ, rfl, rfl, LG, rfl⟩⟩
instance if59_6 : Fld Tryz.prog 59 6 12 := ⟨⟨_, _, _, DJ, rfl, rfl, sz37, rfl⟩⟩
instance if59_7 : Fld Tryz.prog 59 7 13 := ⟨⟨_, _, _, DJ, rfl, rfl, sz57, rfl⟩⟩
instance ib59 : Bld Tryz.prog 59 [.int .i64 0, .int .i64 0, .int .i64 0, .int .i64 0, .string (⟨#[]⟩ : ByteArray), .slice none 0 0, .slice none 0 0, .slice none 0 0, .int .i64 0, .slice none 0 0, .bool false, .slice none 0 0, .slice none 0 0, .slice none 0 0] [0, 2, 8, 9, 10, 11, 12, 13] := ⟨trivial⟩
instance il63 : Slc Tryz.prog 63 65 := ⟨Tryz.underlying63⟩
instance ib64 : Bld Tryz.prog 64 [.slice none 0 0, .int .i64 0] [0, 1] := ⟨trivial⟩
instance ia65 : Agg Tryz.prog 65 2 := ⟨⟨_, AO, rfl, Hs⟩⟩
instance if65_0 : Fld Tryz.prog 65 0 0 := ⟨⟨_, _, _, AO, rfl, rfl, LG, rfl⟩⟩
instance if65_1 : Fld Tryz.prog 65 1 1 := ⟨⟨_, _, _, AO, rfl, rfl, V6, rfl⟩⟩
instance iz65 : Siz Tryz.prog 65 2 := ⟨Hs⟩
instance ie65 : Zer Tryz.prog 65 (.agg #[.slice none 0 0, .int .i64 0]) := ⟨ze65⟩
instance ii65 : Zis Tryz.prog 65 (.agg #[.slice none 0 0, .int .i64 0]) 2 32 := ⟨zi65⟩
instance ib65 : Bld Tryz.prog 65 [.slice none 0 0, .int .i64 0] [0, 1] := ⟨trivial⟩
instance in81 : NAg Tryz.prog 81 := ⟨⟨_, Tryz.underlying81, rfl⟩⟩
instance ib90 : Bld Tryz.prog 90 [.int .i64 0, .int .i64 0] [0, 1] := ⟨trivial⟩
instance il92 : Slc Tryz.prog 92 126 := ⟨ES⟩
instance ib109 : Bld Tryz.prog 109 [.int .i64 0, .int .i64 0, .slice none 0 0, .slice none 0 0] [0, 2, 3] := ⟨trivial⟩
instance if110_0 : Fld Tryz.prog 110 0 0 := ⟨⟨_, _, _, Tryz.underlying110, rfl, rfl, sz56, rfl⟩⟩
instance if110_1 : Fld Tryz.prog 110 1 2 := ⟨⟨_, _, _, Tryz.underlying110, rfl, rfl, LG, rfl⟩⟩
instance if110_2 : Fld Tryz.prog 110 2 3 := ⟨⟨_, _, _, Tryz.underlying110, rfl, rfl, LG, rfl⟩⟩
instance ib110 : Bld Tryz.prog 110 [.int .i64 0, .int .i64 0, .slice none 0 0, .slice none 0 0] [0, 2, 3] := ⟨trivial⟩
instance in116 : NAg Tryz.prog 116 := ⟨⟨_, Tryz.underlying116, rfl⟩⟩
instance ii116 : Zis Tryz.prog 116 (.nilFunc) 1 8 := ⟨zi116⟩
instance ib125 : Bld Tryz.prog 125 [.int .i64 0, .int .i64 0] [0, 1] := ⟨trivial⟩
instance ia126 : Agg Tryz.prog 126 2 := ⟨⟨_, DZ, rfl, Pu⟩⟩
instance if126_0 : Fld Tryz.prog 126 0 0 := ⟨⟨_, _, _, DZ, rfl, rfl, sz3, rfl⟩⟩
instance if126_1 : Fld Tryz.prog 126 1 1 := ⟨⟨_, _, _, DZ, rfl, rfl, sz3, rfl⟩⟩
instance iz126 : Siz Tryz.prog 126 2 := ⟨Pu⟩
instance ie126 : Zer Tryz.prog 126 (.agg #[.int .i64 0, .int .i64 0]) := ⟨ze126⟩
instance ii126 : Zis Tryz.prog 126 (.agg #[.int .i64 0, .int .i64 0]) 2 16 := ⟨Vy⟩
instance ib126 : Bld Tryz.prog 126 [.int .i64 0, .int .i64 0] [0, 1] := ⟨trivial⟩
instance il145 : Slc Tryz.prog 145 116 := ⟨Dk⟩
instance ib153 : Bld Tryz.prog 153 [.slice none 0 0, .bool false, .bool false, .bool false] [0, 1, 2, 3] := ⟨trivial⟩
instance if154_0 : Fld Tryz.prog 154 0 0 := ⟨⟨_, _, _, DY, rfl, rfl, sz57, rfl⟩⟩
instance if154_1 : Fld Tryz.prog 154 1 1 := ⟨⟨_, _, _, DY, rfl, rfl, sz4, rfl⟩⟩
instance if154_2 : Fld Tryz.prog 154 2 2 := ⟨⟨_, _, _, DY, rfl, rfl, sz4, rfl⟩⟩
instance if154_3 : Fld Tryz.prog 154 3 3 := ⟨⟨_, _, _, DY, rfl, rfl, sz4, rfl⟩⟩
instance iz154 : Siz Tryz.prog 154 4 := ⟨Q4⟩
instance ie154 : Zer Tryz.prog 154 (.agg #[.slice none 0 0, .bool false, .bool false, .bool false]) := ⟨ze154⟩
instance ib154 : Bld Tryz.prog 154 [.slice none 0 0, .bool false, .bool false, .bool false] [0, 1, 2, 3] := ⟨trivial⟩
instance in159 : NAg Tryz.prog 159 := ⟨⟨_, Tryz.underlying159, rfl⟩⟩
instance il162 : Slc Tryz.prog 162 9 := ⟨E7⟩
instance ib163 : Bld Tryz.prog 163 [.slice none 0 0, .slice none 0 0] [0, 1] := ⟨trivial⟩
instance ib164 : Bld Tryz.prog 164 [.slice none 0 0, .slice none 0 0] [0, 1] := ⟨trivial⟩
instance in167 : NAg Tryz.prog 167 := ⟨⟨_, Tryz.underlying167, rfl⟩⟩
instance ib171 : Bld Tryz.prog 171 [.int .i64 0, .int .i64 0, .string (⟨#[]⟩ : ByteArray)] [0, 1, 2] := ⟨trivial⟩
instance iz172 : Siz Tryz.prog 172 3 := ⟨Ei⟩
instance ie172 : Zer Tryz.prog 172 (.agg #[.int .i64 0, .int .i64 0, .string (⟨#[]⟩ : ByteArray)]) := ⟨ze172⟩
instance ib172 : Bld Tryz.prog 172 [.int .i64 0, .int .i64 0, .string (⟨#[]⟩ : ByteArray)] [0, 1, 2] := ⟨trivial⟩
instance in182 : NAg Tryz.prog 182 := ⟨⟨_, AW, rfl⟩⟩
instance in184 : NAg Tryz.prog 184 := ⟨⟨_, Dj, rfl⟩⟩
instance ib186 : Bld Tryz.prog 186 [.slice none 0 0, .slice none 0 0, .map none, .map none, .slice none 0 0, .int .i64 0, .int .i64 0] [0, 2, 3, 4, 5, 6] := ⟨trivial⟩
instance if187_0 : Fld Tryz.prog 187 0 0 := ⟨⟨_, _, _, E6, rfl, rfl, sz164, rfl⟩⟩
instance if187_1 : Fld Tryz.prog 187 1 2 := ⟨⟨_, _, _, E6, rfl, rfl, sz182, rfl⟩⟩
instance if187_2 : Fld Tryz.prog 187 2 3 := ⟨⟨_, _, _, E6, rfl, rfl, sz184, rfl⟩⟩
instance if187_3 : Fld Tryz.prog 187 3 4 := ⟨⟨_, _, _, E6, rfl, rfl, LG, rfl⟩⟩
instance if187_4 : Fld Tryz.prog 187 4 5 := ⟨⟨_, _, _, E6, rfl, rfl, sz3, rfl⟩⟩
instance if187_5 : Fld Tryz.prog 187 5 6 := ⟨⟨_, _, _, E6, rfl, rfl, V6, rfl⟩⟩
instance ib187 : Bld Tryz.prog 187 [.slice none 0 0, .slice none 0 0, .map none, .map none, .slice none 0 0, .int .i64 0, .int .i64 0] [0, 2, 3, 4, 5, 6] := ⟨trivial⟩
instance ib188 : Bld Tryz.prog 188 [.int .i64 0, .int .i64 0, .int .i64 0, .string (⟨#[]⟩ : ByteArray), .string (⟨#[]⟩ : ByteArray)] [0, 4] := ⟨trivial⟩
instance ie189 : Zer Tryz.prog 189 (.agg #[.int .i64 0, .int .i64 0, .int .i64 0, .string (⟨#[]⟩ : ByteArray), .string (⟨#[]⟩ : ByteArray)]) := ⟨ze189⟩
instance ib189 : Bld Tryz.prog 189 [.int .i64 0, .int .i64 0, .int .i64 0, .string (⟨#[]⟩ : ByteArray), .string (⟨#[]⟩ : ByteArray)] [0, 4] := ⟨trivial⟩
instance ib202 : Bld Tryz.prog 202 [.pointer none, .pointer none, .pointer none, .string (⟨#[]⟩ : ByteArray)] [0, 1, 2, 3] := ⟨trivial⟩
instance ib203 : Bld Tryz.prog 203 [.pointer none, .pointer none, .pointer none, .string (⟨#[]⟩ : ByteArray)] [0, 1, 2, 3] := ⟨trivial⟩
theorem ok5 : FOK Tryz.prog 5 := fok Tryz.func5 rfl rfl
theorem ok6 : FOK Tryz.prog 6 := fok Tryz.func6 rfl rfl
theorem ok7 : FOK Tryz.prog 7 := fok Tryz.func7 rfl rfl
theorem ok8 : FOK Tryz.prog 8 := fok Tryz.func8 rfl rfl
theorem ok9 : FOK Tryz.prog 9 := fok Tryz.func9 rfl rfl
theorem R4 : FOK Tryz.prog 10 := fok Tryz.func10 rfl rfl
theorem ok11 : FOK Tryz.prog 11 := fok Tryz.func11 rfl rfl
theorem R3 : FOK Tryz.prog 12 := fok Tryz.func12 rfl rfl
theorem ok13 : FOK Tryz.prog 13 := fok Tryz.func13 rfl rfl
theorem ok14 : FOK Tryz.prog 14 := fok Tryz.func14 rfl rfl
theorem ok15 : FOK Tryz.prog 15 := fok Tryz.func15 rfl rfl
theorem ok16 : FOK Tryz.prog 16 := fok Tryz.func16 rfl rfl
theorem ok18 : FOK Tryz.prog 18 := fok Tryz.func18 rfl rfl
theorem ok19 : FOK Tryz.prog 19 := fok Tryz.func19 rfl rfl
theorem Vb : FOK Tryz.prog 20 := fok Tryz.func20 rfl rfl
theorem ok21 : FOK Tryz.prog 21 := fok Tryz.func21 rfl rfl
theorem ok22 : FOK Tryz.prog 22 := fok Tryz.func22 rfl rfl
theorem ok23 : FOK Tryz.prog 23 := fok Tryz.func23 rfl rfl
theorem ok24 : FOK Tryz.prog 24 := fok Tryz.func24 rfl rfl
theorem Th : FOK Tryz.prog 25 := fok Tryz.func25 rfl rfl
theorem ok26 : FOK Tryz.prog 26 := fok Tryz.func26 rfl rfl
theorem ok27 : FOK Tryz.prog 27 := fok Tryz.func27 rfl rfl
theorem ok28 : FOK Tryz.prog 28 := fok Tryz.func28 rfl rfl
theorem ok29 : FOK Tryz.prog 29 := fok Tryz.func29 rfl rfl
theorem ok30 : FOK Tryz.prog 30 := fok Tryz.func30 rfl rfl
theorem ok31 : FOK Tryz.prog 31 := fok Tryz.func31 rfl rfl
theorem ok32 : FOK Tryz.prog 32 := fok Tryz.func32 rfl rfl
theorem ok33 : FOK Tryz.prog 33 := fok Tryz.func33 rfl rfl
theorem ok34 : FOK Tryz.prog 34 := fok Tryz.func34 rfl rfl
theorem Wh : FOK Tryz.prog 35 := fok Tryz.func35 rfl rfl
theorem ok36 : FOK Tryz.prog 36 := fok Tryz.func36 rfl rfl
theorem ok37 : FOK Tryz.prog 37 := fok Tryz.func37 rfl rfl
theorem ok38 : FOK Tryz.prog 38 := fok Tryz.func38 rfl rfl
theorem ok49 : FOK Tryz.prog 49 := fok Tryz.func49 rfl rfl
theorem ok50 : FOK Tryz.prog 50 := fok Tryz.func50 rfl rfl
theorem ok51 : FOK Tryz.prog 51 := fok Tryz.func51 rfl rfl
theorem ok52 : FOK Tryz.prog 52 := fok Tryz.func52 rfl rfl
theorem ok53 : FOK Tryz.prog 53 := fok Tryz.func53 rfl rfl
theorem ok54 : FOK Tryz.prog 54 := fok Tryz.func54 rfl rfl
theorem ok55 : FOK Tryz.prog 55 := fok Tryz.func55 rfl rfl
theorem ok56 : FOK Tryz.prog 56 := fok Tryz.func56 rfl rfl
theorem ok57 : FOK Tryz.prog 57 := fok Tryz.func57 rfl rfl
theorem ok58 : FOK Tryz.prog 58 := fok Tryz.func58 rfl rfl
theorem ok59 : FOK Tryz.prog 59 := fok Tryz.func59 rfl rfl
theorem ok60 : FOK Tryz.prog 60 := fok Tryz.func60 rfl rfl
theorem ok61 : FOK Tryz.prog 61 := fok Tryz.func61 rfl rfl
theorem ok62 : FOK Tryz.prog 62 := fok Tryz.func62 rfl rfl
theorem ok63 : FOK Tryz.prog 63 := fok Tryz.func63 rfl rfl
theorem ok64 : FOK Tryz.prog 64 := fok Tryz.func64 rfl rfl
theorem ok65 : FOK Tryz.prog 65 := fok Tryz.func65 rfl rfl
theorem ok66 : FOK Tryz.prog 66 := fok Tryz.func66 rfl rfl
theorem ok67 : FOK Tryz.prog 67 := fok Tryz.func67 rfl rfl
theorem ok68 : FOK Tryz.prog 68 := fok Tryz.func68 rfl rfl
theorem ok69 : FOK Tryz.prog 69 := fok Tryz.func69 rfl rfl
theorem ok70 : FOK Tryz.prog 70 := fok Tryz.func70 rfl rfl
theorem ok71 : FOK Tryz.prog 71 := fok Tryz.func71 rfl rfl
theorem Tg : FOK Tryz.prog 72 := fok Tryz.func72 rfl rfl
theorem ok73 : FOK Tryz.prog 73 := fok Tryz.func73 rfl rfl
theorem ok75 : FOK Tryz.prog 75 := fok Tryz.func75 rfl rfl
theorem ok76 : FOK Tryz.prog 76 := fok Tryz.func76 rfl rfl
theorem ok77 : FOK Tryz.prog 77 := fok Tryz.func77 rfl rfl
theorem ok78 : FOK Tryz.prog 78 := fok Tryz.func78 rfl rfl
theorem ok79 : FOK Tryz.prog 79 := fok Tryz.func79 rfl rfl
theorem Mg : FOK Tryz.prog 80 := fok Tryz.func80 rfl rfl
theorem ok81 : FOK Tryz.prog 81 := fok Tryz.func81 rfl rfl
theorem ok82 : FOK Tryz.prog 82 := fok Tryz.func82 rfl rfl
theorem ok83 : FOK Tryz.prog 83 := fok Tryz.func83 rfl rfl
theorem ok84 : FOK Tryz.prog 84 := fok Tryz.func84 rfl rfl
theorem ok85 : FOK Tryz.prog 85 := fok Tryz.func85 rfl rfl
theorem ok86 : FOK Tryz.prog 86 := fok Tryz.func86 rfl rfl
theorem ok87 : FOK Tryz.prog 87 := fok Tryz.func87 rfl rfl
theorem ok88 : FOK Tryz.prog 88 := fok Tryz.func88 rfl rfl
theorem ok89 : FOK Tryz.prog 89 := fok Tryz.func89 rfl rfl
theorem ok94 : FOK Tryz.prog 94 := fok Tryz.func94 rfl rfl
theorem ok95 : FOK Tryz.prog 95 := fok Tryz.func95 rfl rfl
theorem Wg : FOK Tryz.prog 96 := fok Tryz.func96 rfl rfl
theorem ok97 : FOK Tryz.prog 97 := fok Tryz.func97 rfl rfl
theorem ok98 : FOK Tryz.prog 98 := fok Tryz.func98 rfl rfl
theorem ok99 : FOK Tryz.prog 99 := fok Tryz.func99 rfl rfl
theorem ok100 : FOK Tryz.prog 100 := fok Tryz.func100 rfl rfl
theorem ok101 : FOK Tryz.prog 101 := fok Tryz.func101 rfl rfl
theorem Wi : FOK Tryz.prog 102 := fok Tryz.func102 rfl rfl
theorem ok103 : FOK Tryz.prog 103 := fok Tryz.func103 rfl rfl
theorem ok104 : FOK Tryz.prog 104 := fok Tryz.func104 rfl rfl
theorem ok105 : FOK Tryz.prog 105 := fok Tryz.func105 rfl rfl
theorem ok106 : FOK Tryz.prog 106 := fok Tryz.func106 rfl rfl
theorem ok107 : FOK Tryz.prog 107 := fok Tryz.func107 rfl rfl
theorem ok108 : FOK Tryz.prog 108 := fok Tryz.func108 rfl rfl
theorem ok109 : FOK Tryz.prog 109 := fok Tryz.func109 rfl rfl
theorem ok110 : FOK Tryz.prog 110 := fok Tryz.func110 rfl rfl
theorem ok111 : FOK Tryz.prog 111 := fok Tryz.func111 rfl rfl
theorem ok112 : FOK Tryz.prog 112 := fok Tryz.func112 rfl rfl
theorem ok113 : FOK Tryz.prog 113 := fok Tryz.func113 rfl rfl
theorem N1 : FOK Tryz.prog 114 := fok Tryz.func114 rfl rfl
theorem ok115 : FOK Tryz.prog 115 := fok Tryz.func115 rfl rfl
theorem ok116 : FOK Tryz.prog 116 := fok Tryz.func116 rfl rfl
theorem ok117 : FOK Tryz.prog 117 := fok Tryz.func117 rfl rfl
theorem ok118 : FOK Tryz.prog 118 := fok Tryz.func118 rfl rfl
theorem ok119 : FOK Tryz.prog 119 := fok Tryz.func119 rfl rfl
theorem TE : FOK Tryz.prog 120 := fok Tryz.func120 rfl rfl
theorem ok121 : FOK Tryz.prog 121 := fok Tryz.func121 rfl rfl
theorem ok122 : FOK Tryz.prog 122 := fok Tryz.func122 rfl rfl
theorem ok123 : FOK Tryz.prog 123 := fok Tryz.func123 rfl rfl
theorem ok124 : FOK Tryz.prog 124 := fok Tryz.func124 rfl rfl
theorem ok125 : FOK Tryz.prog 125 := fok Tryz.func125 rfl rfl
theorem ok126 : FOK Tryz.prog 126 := fok Tryz.func126 rfl rfl
theorem ok127 : FOK Tryz.prog 127 := fok Tryz.func127 rfl rfl
theorem ok129 : FOK Tryz.prog 129 := fok Tryz.func129 rfl rfl
theorem ok130 : FOK Tryz.prog 130 := fok Tryz.func130 rfl rfl
theorem ok131 : FOK Tryz.prog 131 := fok Tryz.func131 rfl rfl
theorem ok132 : FOK Tryz.prog 132 := fok Tryz.func132 rfl rfl
theorem ok133 : FOK Tryz.prog 133 := fok Tryz.func133 rfl rfl
theorem ok134 : FOK Tryz.prog 134 := fok Tryz.func134 rfl rfl
theorem ok135 : FOK Tryz.prog 135 := fok Tryz.func135 rfl rfl
theorem ok136 : FOK Tryz.prog 136 := fok Tryz.func136 rfl rfl
theorem ok137 : FOK Tryz.prog 137 := fok Tryz.func137 rfl rfl
theorem ok138 : FOK Tryz.prog 138 := fok Tryz.func138 rfl rfl
theorem ok139 : FOK Tryz.prog 139 := fok Tryz.func139 rfl rfl
theorem ok140 : FOK Tryz.prog 140 := fok Tryz.func140 rfl rfl
theorem ok141 : FOK Tryz.prog 141 := fok Tryz.func141 rfl rfl
theorem ok142 : FOK Tryz.prog 142 := fok Tryz.func142 rfl rfl
theorem ok143 : FOK Tryz.prog 143 := fok Tryz.func143 rfl rfl
theorem ok144 : FOK Tryz.prog 144 := fok Tryz.func144 rfl rfl
theorem ok145 : FOK Tryz.prog 145 := fok Tryz.func145 rfl rfl
theorem ok146 : FOK Tryz.prog 146 := fok Tryz.func146 rfl rfl
theorem ok147 : FOK Tryz.prog 147 := fok Tryz.func147 rfl rfl
theorem ok148 : FOK Tryz.prog 148 := fok Tryz.func148 rfl rfl
theorem ok149 : FOK Tryz.prog 149 := fok Tryz.func149 rfl rfl
theorem ok150 : FOK Tryz.prog 150 := fok Tryz.func150 rfl rfl
theorem ok151 : FOK Tryz.prog 151 := fok Tryz.func151 rfl rfl
theorem ok152 : FOK Tryz.prog 152 := fok Tryz.func152 rfl rfl
theorem ok153 : FOK Tryz.prog 153 := fok Tryz.func153 rfl rfl
theorem ok154 : FOK Tryz.prog 154 := fok Tryz.func154 rfl rfl
theorem ok155 : FOK Tryz.prog 155 := fok Tryz.func155 rfl rfl
theorem ok156 : FOK Tryz.prog 156 := fok Tryz.func156 rfl rfl
theorem ok157 : FOK Tryz.prog 157 := fok Tryz.func157 rfl rfl
theorem ok158 : FOK Tryz.prog 158 := fok Tryz.func158 rfl rfl
theorem ok159 : FOK Tryz.prog 159 := fok Tryz.func159 rfl rfl
theorem ok160 : FOK Tryz.prog 160 := fok Tryz.func160 rfl rfl
theorem ok161 : FOK Tryz.prog 161 := fok Tryz.func161 rfl rfl
theorem ok162 : FOK Tryz.prog 162 := fok Tryz.func162 rfl rfl
theorem ok163 : FOK Tryz.prog 163 := fok Tryz.func163 rfl rfl
theorem ok164 : FOK Tryz.prog 164 := fok Tryz.func164 rfl rfl
theorem ok165 : FOK Tryz.prog 165 := fok Tryz.func165 rfl rfl
theorem ok166 : FOK Tryz.prog 166 := fok Tryz.func166 rfl rfl
theorem ok167 : FOK Tryz.prog 167 := fok Tryz.func167 rfl rfl
end
section
/- Nodes compared, by the program's type of nodes. -/
open Go Go.RowKit
section
variable {X : Prop} {Next : Act → World → Prop} {o : Oper} {a : Act} {w w0 : World} {N : Nat} {l : List (Nat × Value)} {d : Nat}
theorem IL (w : World) (m n : Nd) : (Op.equalIn 10000 30 (.agg (Eb m).toArray) (.agg (Eb n).toArray)).run Tryz.prog w = .ok (decide (m = n)) w := by
 have h1 : Tryz.prog.underlying 30 = some (.struct (Tryz.prog.fieldsOf 30)) := by kernel_rfl
 have h2 : Tryz.prog.stoodInHeld 30 = false := by kernel_rfl
 have h3 : (Tryz.prog.fieldsOf 30).toList.map (fun f => (f.name == "_", f.type, f.offset)) = [(false, 3, 0), (false, 3, 1), (false, 3, 2), (false, 9, 3)] := by kernel_rfl
 rw [run_equalIn_agg w 9999 _ _ _ h1 h2]
 generalize (Tryz.prog.fieldsOf 30).toList = fs at h3
 rcases fs with _ | ⟨f1, _ | ⟨f2, _ | ⟨f3, _ | ⟨f4, _ | ⟨f5, fs⟩⟩⟩⟩⟩
 · simp at h3
 · simp at h3
 · simp at h3
 · simp at h3
 ·
  simp only [BJ, C6, List.cons.injEq, DH, and_true, beq_eq_false_iff_ne] at h3
  obtain ⟨⟨a1, a2, a3⟩, ⟨b1, b2, b3⟩, ⟨c1, c2, c3⟩, d1, d2, d3⟩ := h3
  have hi : ∀ w, (isAgg 3).run Tryz.prog w = .ok false w := fun w => GR Bl w
  have hs : ∀ w, (isAgg 9).run Tryz.prog w = .ok false w := fun w => GR A8 w
  have e1 : ∀ w x y, (Op.equalIn 9999 3 (.int .i64 x) (.int .i64 y)).run Tryz.prog w = .ok (x == y) w := fun w x y => run_equalIn_int w 9998 _ _ _ _ _ Bl
  have e2 : ∀ w x y, (Op.equalIn 9999 9 (.string x) (.string y)).run Tryz.prog w = .ok (x.toList == y.toList) w := fun w x y => run_equalIn_string w 9998 _ _ _ A8
  simp only [Op.eqFields, a1, b1, c1, d1, ne_eq, not_false_eq_true, if_true, a2, a3, b2, b3, c2, c3, d2, d3, part, AF, hi, hs, Az, Bool.false_eq_true, if_false, Eb]
  simp only [List.getElem?_toArray, List.getElem?_cons_zero, List.getElem?_cons_succ, Bg, Az, e1, e2, toList_eq, Sem.run_ite]
  by_cases q1 : m.K = n.K <;> by_cases q2 : m.N = n.N <;> by_cases q3 : m.M = n.M <;> by_cases q4 : m.S = n.S <;> simp [q1, q2, q3, q4, Wk, e1, e2, toList_eq]
 · simp at h3
theorem IZ (op : BinOp) (x y : Operand) (m n : Nd) : (eqGuard op 30 x y (.agg (Eb m).toArray) (.agg (Eb n).toArray)).run Tryz.prog w = .ok () w :=
 run_eqGuard_agg w op _ x y _ _ (by kernel_rfl)
theorem UO {x y : Operand} {u : TypeId} {m n : Nd} (hs : SteV Tryz.prog X Next o a w) (hR : Reg a N l) (hd : o.dst = some d) (ho : o.op = .binOp .eql 30 x y u) (hx : ev l x = some (.agg (Eb m).toArray)) (hy : ev l y = some (.agg (Eb n).toArray)) (hdN : d < N)
  (k : ∀ a', Reg a' N ((d, .bool (decide (m = n))) :: l) → Next a' w) : X := by
 refine Cv hs hR hd hdN ?_ k
 unfold execOp
 rw [ho]
 simp only [hR.ev hx, hR.ev hy, AF, IZ, Az, run_eql_struct, IL, Bg]
theorem Oz {x y : Operand} {u : TypeId} {m n : Nd} (hs : SteV Tryz.prog X Next o a w) (hR : Reg a N l) (hd : o.dst = some d) (ho : o.op = .binOp .neq 30 x y u) (hx : ev l x = some (.agg (Eb m).toArray)) (hy : ev l y = some (.agg (Eb n).toArray)) (hdN : d < N)
  (k : ∀ a', Reg a' N ((d, .bool (!decide (m = n))) :: l) → Next a' w) : X := by
 refine Cv hs hR hd hdN ?_ k
 unfold execOp
 rw [ho]
 simp only [hR.ev hx, hR.ev hy, AF, IZ, Az, run_neq_struct, IL, Bg]
end
end
section
/- Boxes of the caller's that a call changes. -/
open Go Go.RowKit
section
variable {w0 w w' : World} {Z M : Nat → Prop} {m : List Res} {ds : List Dat}
theorem SY (w0 : World) (Z : Nat → Prop) (ds : List Dat) (g : Nat) (t : TypeId) (cs : List Value) (hb : (Res.box g t cs).holds w0) (h : ∀ d ∈ ds, d.φ w0 (imm Z w0 [.box g t cs] w0)) : St w0 Z (· = g) w0 [.box g t cs] ds :=
 ⟨rfl, rfl, rfl, Af _, fun _ _ _ => rfl, (fun r h => by rw [AB] at h; subst h; exact hb), (fun r h k e => by
  rw [AB] at h; subst h
  have : g = k := by simpa [Res.blk] using e
  subst this
  exact ⟨(AV.1 hb).1, .inr rfl⟩), .cons (fun _ h => by cases h) .nil, h⟩
theorem PP {g : Nat} {t : TypeId} {cs : List Value} (hZ : ∀ k, Z k → k < w0.heap.size) (hg : ¬ Z g) {k : Nat} (hk : Z k) : imm Z w0 [.box g t cs] w0 k ∧ w0.heap[k]? = w0.heap[k]? :=
 ⟨⟨hZ k hk, fun _ => hk, fun r hr e => by
  rw [AB] at hr; subst hr
  have : g = k := by simpa [Res.blk] using e
  subst this
  exact hg hk⟩, rfl⟩
theorem St.callM (h : St w0 Z M w m ds) {i g : Nat} {t : TypeId} {cs cs' : List Value} (hi : m[i]? = some (.box g t cs)) (hf : Fr (· = g) w w') (hb : (Res.box g t cs').holds w') : St w0 Z M w' (m.set i (.box g t cs')) ds :=
 h.turn hi hf.os hf.tape hf.output hf.size (fun k hk hne => hf.old k hk (fun e => hne (by rw [e]; rfl))) hb (fun k hk => by
  have : g = k := by simpa [Res.blk] using hk
  subst this
  exact ⟨(AV.1 hb).1, .inl rfl⟩)
theorem RW {i g k : Nat} {t : TypeId} {cs cs' : List Value} (hi : m[i]? = some (.box g t cs)) (h : imm Z w0 m w k) : imm Z w0 (m.set i (.box g t cs')) w k :=
 ⟨h.1, h.2.1, fun r hr e => by
  rcases List.mem_or_eq_of_mem_set hr with hr | rfl
  · exact h.2.2 r hr e
  · exact h.2.2 _ (Ax hi) e⟩
theorem Ca {i g : Nat} {t : TypeId} {cs : List Value} (hi : m[i]? = some (.box g t cs)) : ¬ imm Z w0 m w g := fun h => h.2.2 _ (Ax hi) rfl
theorem St.row_dataM {g : Nat} (h : St w0 Z (· = g) w m ds) {i : Nat} {A : Option Addr} {n cap e size : Nat} {xs : List Value}
  (hi : m[i]? = some (.row A n cap e size xs)) {j : Nat} {t : TypeId} {cs : List Value} (hj : m[j]? = some (.box g t cs)) (hij : i ≠ j) : St w0 Z (· = g) w (m.eraseIdx i) ds ∧ RowI w (imm Z w0 (m.eraseIdx i) w) size A n xs := by
 have hr : w.ownsRow 0 e size (.slice A n cap) n xs := h.res hi
 refine ⟨h.drop _ (List.eraseIdx_sublist m i), hr.1, fun hn => ?_⟩
 obtain ⟨b, rfl⟩ := EY hr hn
 refine ⟨_, rfl, ⟨(h.own _ (Ax hi) b rfl).1, fun hlt => ?_, fun r hmem e => ?_⟩, fun j u hu => hr.cells (g := b) rfl j u hu⟩
 ·
  rcases (h.own _ (Ax hi) b rfl).2 with h1 | h1
  ·
   have hlt' : b < w0.heap.size := hlt
   omega
  ·
   have hb : b = g := h1
   subst hb
   exact absurd rfl (CO h.apart hij hi hj rfl)
 obtain ⟨j', hj'⟩ := List.mem_iff_getElem?.1 hmem
 rw [List.getElem?_eraseIdx] at hj'
 by_cases hji : j' < i
 ·
  rw [At hji] at hj'
  exact CO h.apart (by omega : j' ≠ i) hj' hi e rfl
 ·
  rw [Aq hji] at hj'
  exact CO h.apart (by omega : j' + 1 ≠ i) hj' hi e rfl
end
end
section
/- Slices of slices of nodes. -/
open Go Go.RowKit
abbrev Sl := Option Addr × Nat × List Nd
def slz : Sl := (none, 0, [])
def FK (s : Sl) : List Value := [.slice s.1 s.2.2.length s.2.1]
def B7 (l : List Sl) : List Value := l.flatMap FK
def BF (t : List Sl) (k : Nat) : Sl := t.getD k slz
theorem Dc (s : Sl) : (FK s).length = 1 := rfl
theorem D7 (l : List Sl) : ∀ u ∈ B7 l, u.oneCell' = true := by
 intro u hu
 obtain ⟨n, _, hn⟩ := List.mem_flatMap.1 hu
 simp [FK] at hn
 subst hn
 rfl
theorem BD {w : World} {I : Nat → Prop} {A : Option Addr} {k : Nat} {t : List Sl} (h : RowI w I 1 A t.length (B7 t)) (hk : k < t.length) : ElemAt w A (k * 1) (FK (BF t k)) := by
 have := h.elem hk
 rwa [show (B7 t) = t.flatMap FK from rfl, EO Dc t k hk slz] at this
theorem Rv {w : World} {A : Option Addr} {k cap e : Nat} {t : List Sl} (h : (Res.row A t.length cap e 1 (B7 t)).holds w) (hk : k < t.length) : ElemAt w A (k * 1) (FK (BF t k)) := by
 have := Hb h hk
 rwa [show (B7 t) = t.flatMap FK from rfl, EO Dc t k hk slz] at this
def Cl (t : List Sl) : Dat := ⟨fun w I => ∀ s ∈ t, s.2.2.length ≤ s.2.1 ∧ RowI w I 4 s.1 s.2.2.length (Cd s.2.2), fun _ _ _ _ _ h hk s hs => ⟨(h s hs).1, (h s hs).2.mono hk⟩⟩
theorem Hc {t : List Sl} {k : Nat} (h : k < t.length) : BF t k ∈ t := by
 have : BF t k = t[k] := by simp [BF, h]
 rw [this]
 exact List.getElem_mem h
theorem SP {w : World} {I : Nat → Prop} {t : List Sl} {k : Nat} (h : (Cl t).φ w I) (hk : k < t.length) : (Bw 4 (BF t k).1 (BF t k).2.2.length (BF t k).2.1 (Cd (BF t k).2.2)).φ w I := h _ (Hc hk)
theorem Cp {w : World} {I : Nat → Prop} : (Cl []).φ w I := fun _ h => by cases h
theorem Cy {w : World} {I : Nat → Prop} {A : Option Addr} {c : Nat} {L : List Nd} {t : List Sl} (h : (Bw 4 A L.length c (Cd L)).φ w I) (ht : (Cl t).φ w I) : (Cl ((A, c, L) :: t)).φ w I := fun s hs => by
 rcases AD.1 hs with rfl | hs
 · exact h
 · exact ht s hs
theorem CH {w : World} {I : Nat → Prop} {a b : List Sl} (ha : (Cl a).φ w I) (hb : (Cl b).φ w I) : (Cl (a ++ b)).φ w I := fun s hs => by
 rcases B5.1 hs with hs | hs
 · exact ha s hs
 · exact hb s hs
def Bt (t : List Sl) : List (List Nd) := t.map (·.2.2)
end
section
/- Boxes that are let go; loops of so many rounds. -/
open Go Go.RowKit
def Ct (g : Nat) (cs : List Value) : Dat := ⟨fun w I => I g ∧ CellsAt w ⟨g, 0, none⟩ cs, fun _ _ _ _ _ h hk => ⟨(hk g h.1).1, h.2.keep (hk g h.1).2⟩⟩
theorem St.box_data {w0 w : World} {Z M : Nat → Prop} {m : List Res} {ds : List Dat} (h : St w0 Z M w m ds) {i g : Nat} {t : TypeId} {cs : List Value}
  (hi : m[i]? = some (.box g t cs)) (hM : ∀ k, ¬ M k) : St w0 Z M w (m.eraseIdx i) ds ∧ (Ct g cs).φ w (imm Z w0 (m.eraseIdx i) w) := by
 have hr : (Res.box g t cs).holds w := h.res hi
 refine ⟨h.drop _ (List.eraseIdx_sublist m i), ⟨(h.own _ (Ax hi) g rfl).1, fun hlt => ?_, fun r hmem e => ?_⟩, F1 hr⟩
 ·
  rcases (h.own _ (Ax hi) g rfl).2 with h1 | h1
  ·
   have hlt' : g < w0.heap.size := hlt
   omega
  · exact absurd h1 (hM g)
 obtain ⟨j, hj⟩ := List.mem_iff_getElem?.1 hmem
 rw [List.getElem?_eraseIdx] at hj
 by_cases hji : j < i
 ·
  rw [At hji] at hj
  exact CO h.apart (by omega : j ≠ i) hj hi e rfl
 ·
  rw [Aq hji] at hj
  exact CO h.apart (by omega : j + 1 ≠ i) hj hi e rfl
theorem Bn {w : World} {I : Nat → Prop} {g j : Nat} {cs : List Value} {v : Value} (h : (Ct g cs).φ w I) (hv : cs[j]? = some v) : w.cell? ⟨g, j, none⟩ = some v := by
 have := h.2 j v hv
 rwa [show (⟨g, 0, none⟩ : Addr).add j = ⟨g, j, none⟩ by unfold Addr.add; split <;> simp_all] at this
theorem Ep {P : Program} {c : Code} {Q : Exit → Act → World → Prop} {n : Nat} {a : Act} {w : World} (h : c.wp P (Exit.then (Code.rounds P c Q n) Q) a w) : Code.rounds P c Q (n + 1) a w := h
end
section
/- Regions that draw, where what follows is hidden. -/
open Go Go.RowKit
def DD (Q : Exit → Act → World → Prop) : Prop := ∀ c a d v w, Q (.panic c) (Act.put a d v) w → Q (.panic c) a w
theorem BC {P : Program} {fn : Func} {R : Ending → World → Prop} : DD (bodyPost P fn R) := fun _ _ d _ _ h => by
 cases d <;> exact h
theorem A5 {K : Act → World → Prop} {Q : Exit → Act → World → Prop} (h : DD Q) : DD (Exit.then K Q) := fun c a d v w hq => h c a d v w hq
theorem B3 {id : Nat} {Q : Exit → Act → World → Prop} (h : DD Q) : DD (Exit.inBlock id Q) := fun c a d v w hq => h c a d v w hq
theorem Sy {P : Program} {ops : Array Oper} {Q : Exit → Act → World → Prop} {S : World → Prop} {a : Act} {w w0 : World} {Z M : Nat → Prop} {m : List Res} {ds : List Dat}
  {id n : Nat} (hm : P.follows .mixedOrders = true) (hn : ops.size = n) (hS : St w0 Z M w m ds) (hp : DD Q)
  (h : ∀ (Q' : Exit → Act → World → Prop), DD Q' → (∀ a w, Q .normal a w → Q' .normal a w) → ∀ w', St w0 Z M w' m ds → wpAnyH P .any ops Q' S n (Array.replicate n false) a w') : (Code.region id ops true).wp P Q a w :=
 Um hm hn hS (h Q hp (fun _ _ h => h))
section
variable {P : Program} {ops : Array Oper} {Q : Exit → Act → World → Prop} {K : Act → World → Prop} {a : Act} {w : World} {N : Nat} {l l' : List (Nat × Value)} {d : Nat} {o : Oper} {rest : List Oper} {x : Operand} {v : Value}
theorem sv (hg : o.guard = none := by exact rfl) : SteV P (wpList P ops Q (o :: rest) a w) (wpList P ops Q rest) o a w := GN hg
theorem se (hg : o.guard = none := by exact rfl) : Ste P (wpList P ops Q (o :: rest) a w) (wpList P ops Q rest) o a w := Q8 hg
theorem mv (hR : Reg a N l) (k : ∀ a', Reg a' N ((d, v) :: l) → wpList P ops Q rest a' w) (hd : o.dst = some d := by exact rfl) (ho : o.op = .move x := by exact rfl) (hx : ev l x = some v := by exact rfl) (hdN : d < N := by decide) (hg : o.guard = none := by exact rfl) :
  wpList P ops Q (o :: rest) a w := CI (GN hg) hR hd ho hx hdN k
theorem asg (hR : Reg a N l) (k : ∀ a', Reg a' N ((d, v) :: l) → wpList P ops Q rest a' w) (hd : o.dst = some d := by exact rfl) (ho : o.op = .assign x := by exact rfl) (hx : ev l x = some v := by exact rfl) (hdN : d < N := by decide) (hg : o.guard = none := by exact rfl) :
  wpList P ops Q (o :: rest) a w := O0 (GN hg) hR hd ho hx hdN k
theorem wt {j : Nat} {b : Bool} {oj : Oper} {dj : Nat} (hR : Reg a N l) (hg : o.guard = some (j, b) := by exact rfl) (hj : ops[j]? = some oj := by exact rfl) (hdj : oj.dst = some dj := by exact rfl) (hdN : dj < N := by decide) (hv : l.lookup dj = some (.bool b) := by exact rfl) : Region.wanted o (yielded ops a.tmps) = true := want_t hR hg hj hdj hdN hv
theorem wff {j : Nat} {b b' : Bool} {oj : Oper} {dj : Nat} (hR : Reg a N l) (hg : o.guard = some (j, b) := by exact rfl) (hj : ops[j]? = some oj := by exact rfl) (hdj : oj.dst = some dj := by exact rfl) (hdN : dj < N := by decide) (hv : l.lookup dj = some (.bool b') := by exact rfl) (hb : (b' == b) = false := by exact rfl) : Region.wanted o (yielded ops a.tmps) = false := Qm hR hg hj hdj hdN hv hb
theorem wu {j : Nat} {b : Bool} {oj : Oper} {dj : Nat} (hR : Reg a N l) (hg : o.guard = some (j, b) := by exact rfl) (hj : ops[j]? = some oj := by exact rfl) (hdj : oj.dst = some dj := by exact rfl) (hdN : dj < N := by decide) (hv : l.lookup dj = some undef := by exact rfl) : Region.wanted o (yielded ops a.tmps) = false := want_u hR hg hj hdj hdN hv
theorem sy {V : Value} (hR : Reg a N l) (hd : o.dst = some d := by exact rfl) (hdN : d < N := by decide) : SteV P ((execOp a.eval o).run P w = .ok (.value V) w) (fun a' w' => a'.tmps.getD d undef = V ∧ w' = w) o a w := Tq hR hd hdN
theorem gt {V : Value} (hd : d ≠ 1000000 := by decide) : ∀ a', Reg a' N ((d, V) :: l) → (a'.tmps.getD d undef = V ∧ w = w) := fun _ h => ⟨h.get _ _ hd DC, rfl⟩
section
variable {S : World → Prop} {oi : Oper} {fuel : Nat} {listed : Array Bool}
theorem dt (i : Nat) (hi : ops[i]? = some oi) (hP : DD Q) (hR : Reg a N l) (hw : Region.wanted oi (yielded ops a.tmps) = true) (hy : ∀ x, S x → (execOp a.eval oi).run P x = .ok (.value v) x) (hS : S w)
  (h : ∀ a', Reg a' N ((d, v) :: l) → wpAnyH P .any ops Q S fuel (listed.setIfInBounds i true) a' w) (hd : oi.dst = some d := by exact rfl) (hdN : d < N := by decide) (hs : Region.noSelect ops = true := by kernel_rfl) (hf : Region.free .any ops listed i = true := by kernel_rfl) (hr : (Region.ready .any ops listed).contains i = true := by kernel_rfl) : wpAnyH P .any ops Q S (fuel + 1) listed a w :=
 Sx hi hs hf hr (fun c a w h => hP c _ _ _ _ h) hd hdN hR hw hy hS h
theorem dp (i : Nat) (hi : ops[i]? = some oi) (hP : DD Q) (hR : Reg a N l) (hw : Region.wanted oi (yielded ops a.tmps) = false) (hS : S w)
  (h : ∀ a', Reg a' N ((d, undef) :: l) → wpAnyH P .any ops Q S fuel (listed.setIfInBounds i true) a' w) (hd : oi.dst = some d := by exact rfl) (hdN : d < N := by decide) (hs : Region.noSelect ops = true := by kernel_rfl) (hf : Region.free .any ops listed i = true := by kernel_rfl) (hr : (Region.ready .any ops listed).contains i = true := by kernel_rfl) : wpAnyH P .any ops Q S (fuel + 1) listed a w :=
 Vs hi hs hf hr (fun c a w h => hP c _ _ _ _ h) hd hdN hR hw hS h
end
section
variable {S : World → Prop} {oi : Oper} {fuel : Nat} {listed : Array Bool} {c y : Operand}
theorem dtM (i : Nat) (hP : DD Q) (hR : Reg a N l) (hS : S w) (h : ∀ a', Reg a' N ((d, v) :: l) → wpAnyH P .any ops Q S fuel (listed.setIfInBounds i true) a' w)
  (hi : ops[i]? = some oi := by exact rfl) (hd : oi.dst = some d := by exact rfl) (ho : oi.op = .move x := by exact rfl) (hx : ev l x = some v := by exact rfl) (hw : Region.wanted oi (yielded ops a.tmps) = true := by exact AJ rfl) (hdN : d < N := by decide) (hne : d ≠ 1000000 := by decide) (hs : Region.noSelect ops = true := by kernel_rfl) (hf : Region.free .any ops listed i = true := by kernel_rfl) (hr : (Region.ready .any ops listed).contains i = true := by kernel_rfl) : wpAnyH P .any ops Q S (fuel + 1) listed a w :=
 dt i hi hP hR hw (fun _ _ => CI (sy hR hd hdN) hR hd ho hx hdN (gt hne)) hS h hd hdN hs hf hr
theorem dtA (i : Nat) (hP : DD Q) (hR : Reg a N l) (hS : S w) (h : ∀ a', Reg a' N ((d, v) :: l) → wpAnyH P .any ops Q S fuel (listed.setIfInBounds i true) a' w)
  (hi : ops[i]? = some oi := by exact rfl) (hd : oi.dst = some d := by exact rfl) (ho : oi.op = .assign x := by exact rfl) (hx : ev l x = some v := by exact rfl) (hw : Region.wanted oi (yielded ops a.tmps) = true := by exact AJ rfl) (hdN : d < N := by decide) (hne : d ≠ 1000000 := by decide) (hs : Region.noSelect ops = true := by kernel_rfl) (hf : Region.free .any ops listed i = true := by kernel_rfl) (hr : (Region.ready .any ops listed).contains i = true := by kernel_rfl) : wpAnyH P .any ops Q S (fuel + 1) listed a w :=
 dt i hi hP hR hw (fun _ _ => O0 (sy hR hd hdN) hR hd ho hx hdN (gt hne)) hS h hd hdN hs hf hr
end
theorem bl : (∀ b, (true && b) = b) ∧ (∀ b, (b && true) = b) ∧ (∀ b, (false && b) = false) ∧ (∀ b, (b && false) = false) ∧ (∀ b, (true || b) = true) ∧ (∀ b, (b || true) = true) ∧ (∀ b, (false || b) = b) ∧ (∀ b, (b || false) = b) ∧ ((!true) = false) ∧ ((!false) = true) ∧ (∀ a b : Int, (if True then a else b) = a) ∧ (∀ a b : Int, (if False then a else b) = b) ∧ ((false = true) = False) ∧ (∀ a b : Bool, (if True then a else b) = a) ∧ (∀ a b : Bool, (if False then a else b) = b) := by simp
def agr (w : World) (J : Nat → Prop) (x : World) : Prop := w.heap.size ≤ x.heap.size ∧ ∀ k, J k → x.heap[k]? = w.heap[k]?
def cel (g j : Nat) (v : Value) (x : World) : Prop := x.cell? ⟨g, j, none⟩ = some v
def Tp (l : List (Nat × Value)) : List (Nat × Value) → Prop
 | [] => True
 | (i, v) :: l' => l.lookup i = some v ∧ Tp l l'
theorem rnl : Tp l [] := trivial
theorem rc {i : Nat} (h : l.lookup i = some v) (h' : Tp l l') : Tp l ((i, v) :: l') := ⟨h, h'⟩
theorem rb {i : Nat} {B b : Bool} (hv : l.lookup i = some (.bool B)) (hb : b = B) : l.lookup i = some (.bool b) := by rw [hv, hb]
theorem ri {i : Nat} {kd : IntKind} {B b : Int} (hv : l.lookup i = some (.int kd B)) (hb : b = B) : l.lookup i = some (.int kd b) := by rw [hv, hb]
theorem rs {i : Nat} {A : Option Addr} {n n' c : Nat} (hv : l.lookup i = some (.slice A n c)) (hn : n' = n) : l.lookup i = some (.slice A n' c) := by rw [hv, hn]
theorem Reg.sub (h : Reg a N l) : ∀ {l'}, Tp l l' → Reg a N l'
 | [], _ => h.nil
 | (_, _) :: _, hs => h.cons (h.sub hs.2) hs.1
end
section
variable {w0 w : World} {Z M : Nat → Prop} {m : List Res} {ds : List Dat}
def NV (w0 : World) (Z : Nat → Prop) : List Dat → Prop
 | [] => True
 | d :: l => d.φ w0 Z ∧ NV w0 Z l
theorem zn : NV w0 Z [] := trivial
theorem zc {d : Dat} (h : d.φ w0 Z) (h' : NV w0 Z ds) : NV w0 Z (d :: ds) := ⟨h, h'⟩
theorem zA {I : Nat → Prop} (hI : ∀ k, Z k → I k ∧ w0.heap[k]? = w0.heap[k]?) : ∀ {ds : List Dat}, NV w0 Z ds → ∀ d ∈ ds, d.φ w0 I
 | [], _, _, hd => by cases hd
 | d :: l, h, x, hx => by
  rcases AD.1 hx with rfl | hx
  · exact Dat.mono _ _ _ _ _ (Af _) h.1 hI
  · exact zA hI h.2 x hx
theorem s0 (hZ : ∀ k, Z k → k < w0.heap.size) (h : NV w0 Z ds) : St w0 Z M w0 [] ds := St.start w0 Z M ds (zA (fun k hk => ⟨⟨hZ k hk, fun _ => hk, fun _ h => by cases h⟩, rfl⟩) h)
theorem sM {g : Nat} {t : TypeId} {cs : List Value} (hb : (Res.box g t cs).holds w0) (hg : ¬ Z g) (hZ : ∀ k, Z k → k < w0.heap.size) (h : NV w0 Z ds) : St w0 Z (· = g) w0 [.box g t cs] ds :=
 SY w0 Z ds g t cs hb (zA (fun _ hk => PP hZ hg hk) h)
theorem St.rx (h : St w0 Z M w m ds) (i : Nat) {d : Dat} (hi : ds[i]? = some d := by exact rfl) : d.φ w (nxt Z w0 w) := d.mono _ _ _ _ (Af _) (h.get hi) (fun _ hk => ⟨Fl hk, rfl⟩)
theorem St.g (h : St w0 Z M w m ds) (i : Nat) {d : Dat} (hi : ds[i]? = some d := by exact rfl) : d.φ w (imm Z w0 m w) := h.get hi
theorem St.z (h : St w0 Z M w m ds) (i : Nat) {r : Res} (hi : m[i]? = some r := by exact rfl) : r.holds w := h.res hi
theorem wsc {P : Program} {Q : Exit → Act → World → Prop} {a : Act} {y : Code} {id : Nat} {ls : List Oper} (h : ∀ K : Act → World → Prop, (∀ a w, y.wp P Q a w → K a w) → wpList P ls.toArray (Exit.then K Q) ls a w) : (Code.seq (Code.region id ls.toArray false) y).wp P Q a w :=
 Ac fun K hK => A0 (h K hK)
theorem d1 {P : Program} {ops : Array Oper} {Q : Exit → Act → World → Prop} {S : World → Prop} {a : Act} {fuel : Nat} {listed : Array Bool} (i : Nat) (h : wpOp P ops Q i (fun a' w' => S w' ∧ wpAnyH P .any ops Q S fuel (listed.setIfInBounds i true) a' w') a w) (hr : Region.ready .any ops listed = [i] := by kernel_rfl) : wpAnyH P .any ops Q S (fuel + 1) listed a w := d_one hr h
end
section
variable {w0 w w' w1 : World} {Z M : Nat → Prop} {m m' : List Res} {ds ds' : List Dat} {J : Nat → Prop}
def NF {α : Type} (a b : α) : Prop := a = b
theorem NF.mk {α : Type} {a : α} : NF a a := rfl
theorem St.nf (h : St w0 Z M w m ds) (hm : NF m m' := by first | (dsimp only [List.set_cons_zero, List.set_cons_succ, List.eraseIdx_cons_zero, List.eraseIdx_cons_succ, List.nil_append, List.cons_append]; exact NF.mk) | exact NF.mk)
  (hd : NF ds ds' := by first | (dsimp only [List.nil_append, List.cons_append, List.eraseIdx_cons_zero, List.eraseIdx_cons_succ]; exact NF.mk) | exact NF.mk) : St w0 Z M w m' ds' := by
 unfold NF at hm hd
 rw [← hm, ← hd]; exact h
theorem St.il (_ : St w0 Z M w m ds) : ∀ k, imm Z w0 m w k → k < w.heap.size := fun _ h => h.1
theorem St.dN {d : Dat} (h0 : St w0 Z M w m ds) (h : St w0 Z M w' m ds') (hd : d.φ w' (nxt (imm Z w0 m w) w w')) : St w0 Z M w' m (ds' ++ [d]) :=
 h.data d (d.mono _ _ _ _ (Af _) hd fun _ hk => ⟨N2 h0 hk, rfl⟩)
theorem St.dM {g : Nat} {t : TypeId} {cs cs' : List Value} {d : Dat} (h0 : St w0 Z M w m ds) (i : Nat) (h : St w0 Z M w' (m.set i (.box g t cs')) ds') (hd : d.φ w' (nxt (imm Z w0 m w) w w')) (hi : m[i]? = some (.box g t cs) := by exact rfl) : St w0 Z M w' (m.set i (.box g t cs')) (ds' ++ [d]) :=
 h.data d (d.mono _ _ _ _ (Af _) hd fun _ hk => ⟨RW hi (N2 h0 hk), rfl⟩)
structure sW (w : World) (J : Nat → Prop) (ps : List (World → Prop)) (x : World) : Prop where
 ag : agr w J x
 at_ : ∀ (i : Nat) (p : World → Prop), ps[i]? = some p → p x
theorem sW.c {ps : List (World → Prop)} {x : World} {g j : Nat} {v : Value} (h : sW w J ps x) (i : Nat) (hi : ps[i]? = some (cel g j v) := by exact rfl) : x.cell? ⟨g, j, none⟩ = some v := h.at_ i _ hi
theorem sW.r {ps : List (World → Prop)} {x : World} {r : Res} (h : sW w J ps x) (i : Nat) (hi : ps[i]? = some r.holds := by exact rfl) : r.holds x := h.at_ i _ hi
def psO (m : List Res) (ps : List (World → Prop)) : Prop := ∀ (i : Nat) (p : World → Prop), ps[i]? = some p → ∃ r ∈ m, ∀ w, r.holds w → p w
theorem pn : psO m [] := fun i p h => by simp at h
theorem pcons {p : World → Prop} {ps : List (World → Prop)} (hp : ∃ r ∈ m, ∀ w, r.holds w → p w) (h : psO m ps) : psO m (p :: ps) := fun i q hq => by
 cases i with
 | zero => simp at hq; exact hq ▸ hp
 | succ i => exact h i q (by simpa using hq)
theorem pc (b j : Nat) {g : Nat} {t : TypeId} {cs : List Value} {v : Value} {ps : List (World → Prop)} (h : psO m ps) (hb : m[b]? = some (.box g t cs) := by exact rfl) (hc : cs[j]? = some v := by exact rfl) : psO m (cel g j v :: ps) :=
 pcons ⟨_, Ax hb, fun _ hr => D8 hr hc⟩ h
def SE (g : Nat) : Nat → List Value → List (World → Prop)
 | _, [] => []
 | j, v :: l => cel g j v :: SE g (j + 1) l
theorem SD {g : Nat} {x : World} : ∀ {j : Nat} {l : List Value}, (∀ i v, l[i]? = some v → cel g (j + i) v x) → ∀ p ∈ SE g j l, p x
 | _, [], _, p, hp => by cases hp
 | j, v :: l, h, p, hp => by
  rcases AD.1 hp with rfl | hp
  · exact h 0 v rfl
  · exact SD (j := j + 1) (l := l) (fun i v hi => by rw [show j + 1 + i = j + (i + 1) by omega]; exact h (i + 1) v hi) p hp
theorem psO.add {ps qs : List (World → Prop)} (hq : ∀ q ∈ qs, ∃ r ∈ m, ∀ w, r.holds w → q w) (h : psO m ps) : psO m (qs ++ ps) := fun i p hi => by
 rcases Nat.lt_or_ge i qs.length with hl | hl
 ·
  rw [List.getElem?_append_left hl] at hi
  exact hq p (Ax hi)
 ·
  rw [DV hl] at hi
  exact h _ p hi
theorem pB (b j : Nat) {g : Nat} {t : TypeId} {cs : List Value} {ps : List (World → Prop)} (h : psO m ps) (hb : m[b]? = some (.box g t cs) := by exact rfl) : psO m (SE g j (cs.drop j) ++ ps) :=
 h.add fun q hq => ⟨_, Ax hb, fun _ hr => SD (fun i v hi => D8 hr (by rw [List.getElem?_drop] at hi; exact hi)) q hq⟩
theorem pr (b : Nat) {r : Res} {ps : List (World → Prop)} (h : psO m ps) (hb : m[b]? = some r := by exact rfl) : psO m (r.holds :: ps) := pcons ⟨_, Ax hb, fun _ hr => hr⟩ h
theorem sWI {ps : List (World → Prop)} (h : St w0 Z M w m ds) (i : Nat) (hp : psO m ps) (hi : ds[i]? = some (dAg w1 J) := by exact rfl) : sW w1 J ps w :=
 ⟨⟨(h.get hi).1, fun k hk => ((h.get hi).2 k hk).2⟩, fun i p hq => by
  obtain ⟨r, hr, hx⟩ := hp i p hq
  exact hx _ (h.hold r hr)⟩
theorem Cj {P : Program} {ops : Array Oper} {Q : Exit → Act → World → Prop} {a : Act} {ps : List (World → Prop)} {id n : Nat} (hS : St w0 Z M w m ds) (i : Nat) (hp : psO m ps) (hq : DD Q)
  (h : ∀ (Q' : Exit → Act → World → Prop), DD Q' → (∀ a w, Q .normal a w → Q' .normal a w) → ∀ w', St w0 Z M w' m ds → sW w1 J ps w' → wpAnyH P .any ops Q' (sW w1 J ps) n (Array.replicate n false) a w')
  (hm : P.follows .mixedOrders = true := by exact J9) (hn : ops.size = n := by exact rfl) (hi : ds[i]? = some (dAg w1 J) := by exact rfl) : (Code.region id ops true).wp P Q a w :=
 Sy hm hn hS hq fun Q' h1 h2 w' hS' => h Q' h1 h2 w' hS' (sWI hS' i hp hi)
theorem It {P : Program} {md : Region.Mode} {ops : Array Oper} {Q : Exit → Act → World → Prop} {S S' : World → Prop} (hS : ∀ x, S' x → S x) : ∀ {fuel : Nat} {listed : Array Bool} {a : Act} {w : World}, wpAnyH P md ops Q S' fuel listed a w → wpAnyH P md ops Q S fuel listed a w
 | 0, _, _, _, h => h
 | _ + 1, _, _, _, h => ⟨h.1, fun i hi => wpOp_mono (fun _ _ h' => ⟨hS _ h'.1, It hS h'.2⟩) (h.2 i hi)⟩
theorem Sz {P : Program} {md : Region.Mode} {ops : Array Oper} {Q : Exit → Act → World → Prop} {ps : List (World → Prop)} {w2 : World} {J2 : Nat → Prop} {fuel : Nat} {listed : Array Bool} {a : Act} (hJ : (dAg w1 J).φ w2 J2)
  (h : wpAnyH P md ops Q (sW w2 J2 ps) fuel listed a w) : wpAnyH P md ops Q (sW w1 J ps) fuel listed a w :=
 It (fun _ hx => ⟨⟨Bo hJ.1 hx.ag.1, fun k hk => (hx.ag.2 k (hJ.2 k hk).1).trans (hJ.2 k hk).2⟩, hx.at_⟩) h
end
end
section
/- Shorter spellings, for merged texts. -/
open Go Go.RowKit
section
variable {P : Program} {ops : Array Oper} {Q : Exit → Act → World → Prop} {K X : Act → World → Prop} {a : Act} {w : World} {N : Nat} {l : List (Nat × Value)} {d : Nat} {B : Bool} {x y : Code}
theorem wn (hK : ∀ a w, X a w → K a w) (h : X a w) : wpList P ops (Exit.then K Q) [] a w := Ae (AC (hK _ _ h))
theorem xn (hK : ∀ a w, X a w → K a w) (h : X a w) : Exit.then K Q .normal a w := AC (hK _ _ h)
theorem wct (hR : Reg a N l) (hB : B = true) (h : Reg a N ((d, .bool true) :: l) → x.wp P Q a w) (hv : l.lookup d = some (.bool B) := by exact rfl) (hd : Nat.beq d 1000000 = false := by exact rfl) : (Code.cond (.tmp d) x y).wp P Q a w :=
 have h1 := hR.setb hv hB
 CF (h1.ev (by show cond (Nat.beq d 1000000) none _ = _; rw [hd]; simp)) (h h1)
theorem wcf (hR : Reg a N l) (hB : B = false) (h : Reg a N ((d, .bool false) :: l) → y.wp P Q a w) (hv : l.lookup d = some (.bool B) := by exact rfl) (hd : Nat.beq d 1000000 = false := by exact rfl) : (Code.cond (.tmp d) x y).wp P Q a w :=
 have h1 := hR.setb hv hB
 CP (h1.ev (by show cond (Nat.beq d 1000000) none _ = _; rw [hd]; simp)) (h h1)
theorem aw {v : Value} {o : Oper} {z : Operand} (hR : Reg a N l) (hK : ∀ a w, X a w → K a w) (k : ∀ a', Reg a' N ((d, v) :: l) → X a' w) (hd : o.dst = some d := by exact rfl) (ho : o.op = .assign z := by exact rfl) (hx : ev l z = some v := by exact rfl) (hdN : d < N := by decide) (hg : o.guard = none := by exact rfl) : wpList P ops (Exit.then K Q) [o] a w :=
 asg hR (fun a' h => wn hK (k a' h)) hd ho hx hdN hg
theorem wctb (hR : Reg a N l) (hv : l.lookup d = some (.bool B)) (hB : B = true) (h : Reg a N ((d, .bool true) :: l) → x.wp P Q a w) (hd : Nat.beq d 1000000 = false := by exact rfl) : (Code.cond (.tmp d) x y).wp P Q a w := wct hR hB h hv hd
theorem U1 (hR : Reg a N l) (hv : l.lookup d = some (.bool B)) (hB : B = false) (h : Reg a N ((d, .bool false) :: l) → y.wp P Q a w) (hd : Nat.beq d 1000000 = false := by exact rfl) : (Code.cond (.tmp d) x y).wp P Q a w := wcf hR hB h hv hd
theorem bz : (∀ a b : Bool, ((a || b) = true) = (a = true ∨ b = true)) ∧ (∀ a b : Bool, ((a && b) = true) = (a = true ∧ b = true)) ∧ (∀ b : Bool, ((!b) = true) = (b = false)) ∧ (∀ b : Bool, ((!b) = false) = (b = true)) ∧
  (∀ (p : Prop) [Decidable p], (decide p = true) = p) ∧ (∀ (p : Prop) [Decidable p], (decide p = false) = ¬ p) ∧ (∀ a b : Bool, ((a || b) = false) = (a = false ∧ b = false)) ∧ (∀ a b : Bool, ((a && b) = false) = (a = false ∨ b = false)) :=
 ⟨fun a b => by cases a <;> cases b <;> simp, fun a b => by cases a <;> cases b <;> simp, fun b => by cases b <;> simp, fun b => by cases b <;> simp, fun p _ => by simp, fun p _ => by simp, fun a b => by cases a <;> cases b <;> simp, fun a b => by cases a <;> cases b <;> simp⟩
theorem bzt (p q : Bool) (hp : (p || q) = true) : p = true ∨ q = true := by simp only [bz] at hp; exact hp
end
section
variable {P : Program} {w0 w : World} {Z M : Nat → Prop} {m : List Res} {ds : List Dat} {X : Prop} {Next : Act → World → Prop} {a : Act} {N d : Nat} {o : Oper} {l : List (Nat × Value)} {f : FuncId} {xs : List Operand} {ts : Array TypeId} {vs : List Value}
theorem kr {v : Value} (hs : Ste P X Next o a w) (hR : Reg a N l) (hS : St w0 Z M w m ds) (hf : FOK P f) (hc : Calls P f vs.toArray w (fun e w' => e = .returned v ∧ Fr A6 w w'))
  (k : ∀ w', St w0 Z M w' m ds → ∀ a', Reg a' N ((d, v) :: l) → Next a' w') (hd : o.dst = some d := by exact rfl) (ho : o.op = .call { callee := .value (.func f), args := xs.toArray, argTypes := ts } := by exact rfl) (hx : evs l xs = some vs := by exact rfl) (hdN : d < N := by decide) : X :=
 Mr hs hR hd ho hx hdN hf hc fun _ w' h => ⟨v, h.1, k w' (hS.below h.2.below)⟩
theorem ks {α β γ : Type} {V : α → β → γ → Value} {D : α → β → γ → Dat} {Pf : α → β → γ → Prop} (hs : Ste P X Next o a w) (hR : Reg a N l) (hS : St w0 Z M w m ds) (hf : FOK P f) (hc : Calls P f vs.toArray w (fun e w' => ∃ A c L, e = .returned (V A c L) ∧ Fr A6 w w' ∧ (D A c L).φ w' (nxt (imm Z w0 m w) w w') ∧ Pf A c L))
  (k : ∀ w' A c L, Pf A c L → St w0 Z M w' m (ds ++ [D A c L]) → ∀ a', Reg a' N ((d, V A c L) :: l) → Next a' w') (hd : o.dst = some d := by exact rfl) (ho : o.op = .call { callee := .value (.func f), args := xs.toArray, argTypes := ts } := by exact rfl) (hx : evs l xs = some vs := by exact rfl) (hdN : d < N := by decide) : X :=
 Mr hs hR hd ho hx hdN hf hc fun _ w' ⟨A, c, L, he, hfr, hd', hp⟩ => ⟨_, he, k w' A c L hp (hS.dN (hS.below hfr.below) hd')⟩
theorem k2 {α β : Type} {V : α → β → Value} {D : α → β → Dat} (hs : Ste P X Next o a w) (hR : Reg a N l) (hS : St w0 Z M w m ds) (hf : FOK P f) (hc : Calls P f vs.toArray w (fun e w' => ∃ A c, e = .returned (V A c) ∧ Fr A6 w w' ∧ (D A c).φ w' (nxt (imm Z w0 m w) w w')))
  (k : ∀ w' A c, St w0 Z M w' m (ds ++ [D A c]) → ∀ a', Reg a' N ((d, V A c) :: l) → Next a' w') (hd : o.dst = some d := by exact rfl) (ho : o.op = .call { callee := .value (.func f), args := xs.toArray, argTypes := ts } := by exact rfl) (hx : evs l xs = some vs := by exact rfl) (hdN : d < N := by decide) : X :=
 Mr hs hR hd ho hx hdN hf hc fun _ w' ⟨A, c, he, hfr, hd'⟩ => ⟨_, he, k w' A c (hS.dN (hS.below hfr.below) hd')⟩
end
theorem cre {u v : Value} (h : u = v) : Ending.returned u = Ending.returned v := congrArg _ h
section
variable {l l' : List (Nat × Value)} {i j i2 j2 : Nat} {u v u2 v2 : Value}
theorem rc2 (h : Tp l l') (h1 : l.lookup i = some u := by exact rfl) (h2 : l.lookup j = some v := by exact rfl) : Tp l ((i, u) :: (j, v) :: l') := ⟨h1, h2, h⟩
theorem rc4 (h : Tp l l') (h1 : l.lookup i = some u := by exact rfl) (h2 : l.lookup j = some v := by exact rfl) (h3 : l.lookup i2 = some u2 := by exact rfl) (h4 : l.lookup j2 = some v2 := by exact rfl) : Tp l ((i, u) :: (j, v) :: (i2, u2) :: (j2, v2) :: l') := ⟨h1, h2, h3, h4, h⟩
end
end
end Go.Proofs.YtpfmnpaifchleaaGreatDoor
