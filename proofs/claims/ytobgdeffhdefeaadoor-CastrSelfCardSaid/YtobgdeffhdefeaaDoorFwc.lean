import Derived.Test.YtobgdeffhdefeaaDoorFwb
import Derived.IntWalk
import Derived.Laws.StructEq
/- The operations, one rule each: what computes only. -/
namespace Go.Proofs.YtobgdeffhdefeaaDoor
set_option linter.unusedSimpArgs false
set_option linter.unusedVariables false
open Go.RowKit

theorem wrap_ok {x z : Int} (hz : x = z) (h1 : -1000000000000000 ≤ z) (h2 : z ≤ 1000000000000000) : IntKind.i64.wrap x = z := by
  subst hz
  exact IntWalk.i64_in _ ⟨by omega, by omega⟩

section
variable {P : Program} {X : Prop} {Next : Act → World → Prop} {o : Oper} {a : Act} {w : World} {N : Nat} {l : List (Nat × Value)} {d : Nat}

theorem r_pure {v : Value} (hs : SteV P X Next o a w) (hR : Reg a N l) (hd : o.dst = some d) (hdN : d < N) (hrun : (execOp a.eval o).run P w = .ok (.value v) w)
    (k : ∀ a', Reg a' N ((d, v) :: l) → Next a' w) : X :=
  hs.val v w hrun (by rw [hd]; exact k _ (hR.put hdN v))

theorem r_move {x : Operand} {v : Value} (hs : SteV P X Next o a w) (hR : Reg a N l) (hd : o.dst = some d) (ho : o.op = .move x) (hx : ev l x = some v) (hdN : d < N)
    (k : ∀ a', Reg a' N ((d, v) :: l) → Next a' w) : X :=
  r_pure hs hR hd hdN (by unfold execOp; rw [ho]; simp only [hR.ev hx]; rfl) k
theorem r_assign {x : Operand} {v : Value} (hs : SteV P X Next o a w) (hR : Reg a N l) (hd : o.dst = some d) (ho : o.op = .assign x) (hx : ev l x = some v) (hdN : d < N)
    (k : ∀ a', Reg a' N ((d, v) :: l) → Next a' w) : X :=
  r_pure hs hR hd hdN (by unfold execOp; rw [ho]; simp only [hR.ev hx]; rfl) k
theorem r_pick_t {c x y : Operand} {v : Value} (hs : SteV P X Next o a w) (hR : Reg a N l) (hd : o.dst = some d) (ho : o.op = .pick c x y) (hc : ev l c = some (.bool true)) (hx : ev l x = some v) (hdN : d < N)
    (k : ∀ a', Reg a' N ((d, v) :: l) → Next a' w) : X :=
  r_pure hs hR hd hdN (by unfold execOp; rw [ho]; simp only [hR.ev hc, hR.ev hx]; rfl) k
theorem r_pick_f {c x y : Operand} {v : Value} (hs : SteV P X Next o a w) (hR : Reg a N l) (hd : o.dst = some d) (ho : o.op = .pick c x y) (hc : ev l c = some (.bool false)) (hy : ev l y = some v) (hdN : d < N)
    (k : ∀ a', Reg a' N ((d, v) :: l) → Next a' w) : X :=
  r_pure hs hR hd hdN (by unfold execOp; rw [ho]; simp only [hR.ev hc, hR.ev hy]; rfl) k

section
variable {x y : Operand} {t u : TypeId} {p q : Int} {ki : IntKind}
theorem run_int {op : BinOp} {v : Value} (hR : Reg a N l) (ho : o.op = .binOp op t x y u) (hx : ev l x = some (.int ki p)) (hy : ev l y = some (.int ki q))
    (h : (binOp op t (.int ki p) (.int ki q)).run P w = .ok v w) : (execOp a.eval o).run P w = .ok (.value v) w := by
  have hg : (eqGuard op t x y (.int ki p) (.int ki q)).run P w = .ok () w := by
    unfold eqGuard
    cases op <;> rfl
  unfold execOp
  rw [ho]
  simp only [hR.ev hx, hR.ev hy, Sem.run_bind, hg, Result.andThen_ok, h, Sem.run_pure]
theorem r_lss (hs : SteV P X Next o a w) (hR : Reg a N l) (hd : o.dst = some d) (ho : o.op = .binOp .lss t x y u) (hx : ev l x = some (.int ki p)) (hy : ev l y = some (.int ki q)) (hdN : d < N)
    (k : ∀ a', Reg a' N ((d, .bool (decide (p < q))) :: l) → Next a' w) : X :=
  r_pure hs hR hd hdN (run_int hR ho hx hy (by simp [binOp, Op.intCmp])) k
theorem r_leq (hs : SteV P X Next o a w) (hR : Reg a N l) (hd : o.dst = some d) (ho : o.op = .binOp .leq t x y u) (hx : ev l x = some (.int ki p)) (hy : ev l y = some (.int ki q)) (hdN : d < N)
    (k : ∀ a', Reg a' N ((d, .bool (decide (p ≤ q))) :: l) → Next a' w) : X :=
  r_pure hs hR hd hdN (run_int hR ho hx hy (by simp [binOp, Op.intCmp])) k
theorem r_gtr (hs : SteV P X Next o a w) (hR : Reg a N l) (hd : o.dst = some d) (ho : o.op = .binOp .gtr t x y u) (hx : ev l x = some (.int ki p)) (hy : ev l y = some (.int ki q)) (hdN : d < N)
    (k : ∀ a', Reg a' N ((d, .bool (decide (q < p))) :: l) → Next a' w) : X :=
  r_pure hs hR hd hdN (run_int hR ho hx hy (by simp [binOp, Op.intCmp])) k
theorem r_geq (hs : SteV P X Next o a w) (hR : Reg a N l) (hd : o.dst = some d) (ho : o.op = .binOp .geq t x y u) (hx : ev l x = some (.int ki p)) (hy : ev l y = some (.int ki q)) (hdN : d < N)
    (k : ∀ a', Reg a' N ((d, .bool (decide (q ≤ p))) :: l) → Next a' w) : X :=
  r_pure hs hR hd hdN (run_int hR ho hx hy (by simp [binOp, Op.intCmp])) k
theorem r_eql (hs : SteV P X Next o a w) (hR : Reg a N l) (hd : o.dst = some d) (ho : o.op = .binOp .eql t x y u) (hx : ev l x = some (.int ki p)) (hy : ev l y = some (.int ki q)) (hdN : d < N)
    (k : ∀ a', Reg a' N ((d, .bool (decide (p = q))) :: l) → Next a' w) : X :=
  r_pure hs hR hd hdN (run_int hR ho hx hy (by simp [binOp, Op.intCmp]; rfl)) k
theorem r_neq (hs : SteV P X Next o a w) (hR : Reg a N l) (hd : o.dst = some d) (ho : o.op = .binOp .neq t x y u) (hx : ev l x = some (.int ki p)) (hy : ev l y = some (.int ki q)) (hdN : d < N)
    (k : ∀ a', Reg a' N ((d, .bool (!decide (p = q))) :: l) → Next a' w) : X :=
  r_pure hs hR hd hdN (run_int hR ho hx hy (by simp [binOp, Op.intCmp]; rfl)) k
theorem r_add {z : Int} (hs : SteV P X Next o a w) (hR : Reg a N l) (hd : o.dst = some d) (ho : o.op = .binOp .add t x y u) (hx : ev l x = some (.int .i64 p)) (hy : ev l y = some (.int .i64 q)) (hdN : d < N)
    (hz : p + q = z) (h1 : -1000000000000000 ≤ z) (h2 : z ≤ 1000000000000000) (k : ∀ a', Reg a' N ((d, .int .i64 z) :: l) → Next a' w) : X :=
  r_pure hs hR hd hdN (run_int hR ho hx hy (by simp [binOp, Op.intArith, wrap_ok hz h1 h2])) k
theorem r_sub {z : Int} (hs : SteV P X Next o a w) (hR : Reg a N l) (hd : o.dst = some d) (ho : o.op = .binOp .sub t x y u) (hx : ev l x = some (.int .i64 p)) (hy : ev l y = some (.int .i64 q)) (hdN : d < N)
    (hz : p - q = z) (h1 : -1000000000000000 ≤ z) (h2 : z ≤ 1000000000000000) (k : ∀ a', Reg a' N ((d, .int .i64 z) :: l) → Next a' w) : X :=
  r_pure hs hR hd hdN (run_int hR ho hx hy (by simp [binOp, Op.intArith, wrap_ok hz h1 h2])) k
theorem r_mul {z : Int} (hs : SteV P X Next o a w) (hR : Reg a N l) (hd : o.dst = some d) (ho : o.op = .binOp .mul t x y u) (hx : ev l x = some (.int .i64 p)) (hy : ev l y = some (.int .i64 q)) (hdN : d < N)
    (hz : p * q = z) (h1 : -1000000000000000 ≤ z) (h2 : z ≤ 1000000000000000) (k : ∀ a', Reg a' N ((d, .int .i64 z) :: l) → Next a' w) : X :=
  r_pure hs hR hd hdN (run_int hR ho hx hy (by simp [binOp, Op.intArith, wrap_ok hz h1 h2])) k
/-- Whatever an operation on two integers comes to. -/
theorem r_int {op : BinOp} {v : Value} (hs : SteV P X Next o a w) (hR : Reg a N l) (hd : o.dst = some d) (ho : o.op = .binOp op t x y u) (hx : ev l x = some (.int ki p)) (hy : ev l y = some (.int ki q)) (hdN : d < N)
    (h : (binOp op t (.int ki p) (.int ki q)).run P w = .ok v w) (k : ∀ a', Reg a' N ((d, v) :: l) → Next a' w) : X :=
  r_pure hs hR hd hdN (run_int hR ho hx hy h) k
theorem run_str {op : BinOp} {v : Value} {s s' : ByteArray} (hR : Reg a N l) (ho : o.op = .binOp op t x y u) (hx : ev l x = some (.string s)) (hy : ev l y = some (.string s'))
    (h : (Op.stringOp op s s').run P w = .ok v w) : (execOp a.eval o).run P w = .ok (.value v) w := by
  have hg : (eqGuard op t x y (.string s) (.string s')).run P w = .ok () w := by
    unfold eqGuard
    cases op <;> rfl
  have hb : binOp op t (.string s) (.string s') = Op.stringOp op s s' := by unfold binOp; cases op <;> rfl
  unfold execOp
  rw [ho]
  simp only [hR.ev hx, hR.ev hy, Sem.run_bind, hg, hb, Result.andThen_ok, h, Sem.run_pure]
theorem toList_eq (s s' : ByteArray) : (s.toList == s'.toList) = decide (s = s') := by
  rw [Bool.eq_iff_iff, decide_eq_true_eq, beq_iff_eq, ByteArray.toList_eq, ByteArray.toList_eq]
  exact ⟨fun h => ByteArray.ext (Array.toList_inj.mp h), fun h => by rw [h]⟩
theorem r_eqlS {s s' : ByteArray} (hs : SteV P X Next o a w) (hR : Reg a N l) (hd : o.dst = some d) (ho : o.op = .binOp .eql t x y u) (hx : ev l x = some (.string s)) (hy : ev l y = some (.string s')) (hdN : d < N)
    (k : ∀ a', Reg a' N ((d, .bool (decide (s = s'))) :: l) → Next a' w) : X :=
  r_pure hs hR hd hdN (run_str hR ho hx hy (by simp only [Op.stringOp, toList_eq]; rfl)) k
theorem r_neqS {s s' : ByteArray} (hs : SteV P X Next o a w) (hR : Reg a N l) (hd : o.dst = some d) (ho : o.op = .binOp .neq t x y u) (hx : ev l x = some (.string s)) (hy : ev l y = some (.string s')) (hdN : d < N)
    (k : ∀ a', Reg a' N ((d, .bool (!decide (s = s'))) :: l) → Next a' w) : X :=
  r_pure hs hR hd hdN (run_str hR ho hx hy (by simp only [Op.stringOp, toList_eq]; rfl)) k
end

theorem r_not {x : Operand} {t : TypeId} {b : Bool} (hs : SteV P X Next o a w) (hR : Reg a N l) (hd : o.dst = some d) (ho : o.op = .unOp .not t x) (hx : ev l x = some (.bool b)) (hdN : d < N)
    (k : ∀ a', Reg a' N ((d, .bool (!b)) :: l) → Next a' w) : X :=
  r_pure hs hR hd hdN (by unfold execOp; rw [ho]; simp only [hR.ev hx]; rfl) k
theorem r_nilCheck {x : Operand} {p : Addr} (hs : SteV P X Next o a w) (hR : Reg a N l) (hd : o.dst = some d) (ho : o.op = .nilCheck x) (hx : ev l x = some (.pointer (some p))) (hdN : d < N)
    (k : ∀ a', Reg a' N ((d, .pointer (some p)) :: l) → Next a' w) : X :=
  r_pure hs hR hd hdN (by unfold execOp; rw [ho]; simp only [hR.ev hx]; rfl) k
theorem r_nilCheckF {x : Operand} {f : FuncId} {c : Array Value} (hs : SteV P X Next o a w) (hR : Reg a N l) (hd : o.dst = some d) (ho : o.op = .nilCheck x) (hx : ev l x = some (.func (.func f) #[] c)) (hdN : d < N)
    (k : ∀ a', Reg a' N ((d, .func (.func f) #[] c) :: l) → Next a' w) : X :=
  r_pure hs hR hd hdN (by unfold execOp; rw [ho]; simp only [hR.ev hx]; rfl) k
theorem r_extract {x : Operand} {i : Nat} {vs : Array Value} {v : Value} (hs : SteV P X Next o a w) (hR : Reg a N l) (hd : o.dst = some d) (ho : o.op = .extract x i) (hx : ev l x = some (.tuple vs)) (hi : vs[i]? = some v) (hdN : d < N)
    (k : ∀ a', Reg a' N ((d, v) :: l) → Next a' w) : X :=
  r_pure hs hR hd hdN (by unfold execOp; rw [ho]; simp only [hR.ev hx, Instr.extract, hi]; rfl) k
theorem r_makeFunc {f : FuncId} {cs : Array Operand} {vs : List Value} (hs : SteV P X Next o a w) (hR : Reg a N l) (hd : o.dst = some d) (ho : o.op = .makeFunc (.func f) #[] cs) (hx : evs l cs.toList = some vs) (hdN : d < N)
    (k : ∀ a', Reg a' N ((d, .func (.func f) #[] vs.toArray) :: l) → Next a' w) : X :=
  r_pure hs hR hd hdN (by
    have : cs.map a.eval = vs.toArray := by
      rw [← hR.evs hx, ← List.map_toArray, Array.toArray_toList]
    unfold execOp; rw [ho]; simp [Instr.makeFunc]; exact this) k
theorem r_len {t u : TypeId} {x : Operand} {A : Option Addr} {n c : Nat} {e : TypeId} (hs : SteV P X Next o a w) (hR : Reg a N l) (hd : o.dst = some d) (ho : o.op = .call { callee := .builtin .len, args := #[x], argTypes := #[t] }) (_hu : o.type = u)
    (hx : ev l x = some (.slice A n c)) (ht : P.underlying t = some (.slice e)) (hdN : d < N) (k : ∀ a', Reg a' N ((d, .int .i64 (n : Int)) :: l) → Next a' w) : X :=
  r_pure hs hR hd hdN (by
    unfold execOp; rw [ho]
    simp only [resolve, invoke, builtin, Sem.run_bind, Sem.run_pure, Result.andThen_ok, List.map_toArray, List.map_cons, List.map_nil, hR.ev hx, Builtin.len_]
    simp [run_underlying ht, goInt]) k
theorem r_lenS {t u : TypeId} {x : Operand} {s : ByteArray} (hs : SteV P X Next o a w) (hR : Reg a N l) (hd : o.dst = some d) (ho : o.op = .call { callee := .builtin .len, args := #[x], argTypes := #[t] }) (_hu : o.type = u)
    (hx : ev l x = some (.string s)) (ht : P.underlying t = some .string) (hdN : d < N) (k : ∀ a', Reg a' N ((d, .int .i64 (s.size : Int)) :: l) → Next a' w) : X :=
  r_pure hs hR hd hdN (by
    unfold execOp; rw [ho]
    simp only [resolve, invoke, builtin, Sem.run_bind, Sem.run_pure, Result.andThen_ok, List.map_toArray, List.map_cons, List.map_nil, hR.ev hx, Builtin.len_]
    simp [run_underlying ht, goInt]) k
theorem r_max {ts : Array TypeId} {u : TypeId} {x y : Operand} {p q : Int} {ki : IntKind} (hs : SteV P X Next o a w) (hR : Reg a N l) (hd : o.dst = some d) (ho : o.op = .call { callee := .builtin .max, args := #[x, y], argTypes := ts }) (_hu : o.type = u)
    (hx : ev l x = some (.int ki p)) (hy : ev l y = some (.int ki q)) (hdN : d < N) (k : ∀ a', Reg a' N ((d, .int ki (max p q)) :: l) → Next a' w) : X :=
  r_pure hs hR hd hdN (by
    have hm : (if q > p then q else p) = max p q := by split <;> omega
    unfold execOp; rw [ho]
    simp only [resolve, invoke, builtin, Sem.run_bind, Sem.run_pure, Result.andThen_ok, List.map_toArray, List.map_cons, List.map_nil, hR.ev hx, hR.ev hy, Builtin.max_]
    simp only [List.foldlM, Builtin.max2, hm]
    rfl) k
theorem r_min {ts : Array TypeId} {u : TypeId} {x y : Operand} {p q : Int} {ki : IntKind} (hs : SteV P X Next o a w) (hR : Reg a N l) (hd : o.dst = some d) (ho : o.op = .call { callee := .builtin .min, args := #[x, y], argTypes := ts }) (_hu : o.type = u)
    (hx : ev l x = some (.int ki p)) (hy : ev l y = some (.int ki q)) (hdN : d < N) (k : ∀ a', Reg a' N ((d, .int ki (min p q)) :: l) → Next a' w) : X :=
  r_pure hs hR hd hdN (by
    have hm : (if q < p then q else p) = min p q := by split <;> omega
    unfold execOp; rw [ho]
    simp only [resolve, invoke, builtin, Sem.run_bind, Sem.run_pure, Result.andThen_ok, List.map_toArray, List.map_cons, List.map_nil, hR.ev hx, hR.ev hy, Builtin.min_]
    simp only [List.foldlM, Builtin.min2, hm]
    rfl) k
/-- A byte of a string. -/
theorem r_indexS {t : TypeId} {x y : Operand} {s : ByteArray} {p : Int} {ki : IntKind} {i : Nat} (hs : SteV P X Next o a w) (hR : Reg a N l) (hd : o.dst = some d) (ho : o.op = .index t x y) (hx : ev l x = some (.string s)) (hy : ev l y = some (.int ki p))
    (ht : P.underlying t = some .string) (hp : p = (i : Int)) (hi : i < s.size) (hdN : d < N) (k : ∀ a', Reg a' N ((d, .int .u8 ((s[i]).toNat : Int)) :: l) → Next a' w) : X :=
  r_pure hs hR hd hdN (by
    subst hp
    unfold execOp; rw [ho]
    simp [hR.ev hx, hR.ev hy, Instr.index, asIntOf, run_underlying ht, hi]) k

/-- A call of a function. -/
theorem r_call {f : FuncId} {xs : List Operand} {ts : Array TypeId} {vs : List Value} {R : Ending → World → Prop} {fn : Func} (hs : Ste P X Next o a w) (hR : Reg a N l) (hd : o.dst = some d)
    (ho : o.op = .call { callee := .value (.func f), args := xs.toArray, argTypes := ts }) (hx : evs l xs = some vs) (hdN : d < N)
    (hf : P.funcs[f]? = some fn) (hb : fn.body.isNone = false) (hn : (fn.name == "runtime.NumGoroutine") = false) (hc : Calls P f vs.toArray w R)
    (k : ∀ e w', R e w' → ∃ v, e = .returned v ∧ ∀ a', Reg a' N ((d, v) :: l) → Next a' w') : X := by
  refine hs.enter f vs.toArray w ?_ (hc.mono fun e w' he => ?_)
  · have hm : xs.toArray.map a.eval = vs.toArray := by rw [← hR.evs hx]; simp
    unfold execOp
    rw [ho]
    simp only [resolve, hm, Act.eval, Deferred.ofValue, Sem.run_bind, Sem.run_pure, Result.andThen_ok, invoke, callFunc, Array.append_empty, Array.empty_append]
    have hn' : fn.name ≠ "runtime.NumGoroutine" := by simpa using hn
    have hb' : fn.body ≠ none := by intro e; rw [e] at hb; cases hb
    simp [hf, hn', hb']
  · obtain ⟨v, rfl, hk⟩ := k e w' he
    exact ⟨v, rfl, by rw [hd]; exact hk _ (hR.put hdN v)⟩
/-- A call of a function value. -/
theorem r_callV {g : Operand} {f : FuncId} {cs : Array Value} {xs : List Operand} {ts : Array TypeId} {vs : List Value} {R : Ending → World → Prop} {fn : Func} (hs : Ste P X Next o a w) (hR : Reg a N l) (hd : o.dst = some d)
    (ho : o.op = .call { callee := .value g, args := xs.toArray, argTypes := ts }) (hg : ev l g = some (.func (.func f) #[] cs)) (hx : evs l xs = some vs) (hdN : d < N)
    (hf : P.funcs[f]? = some fn) (hb : fn.body.isNone = false) (hn : (fn.name == "runtime.NumGoroutine") = false) (hc : Calls P f (vs.toArray ++ cs) w R)
    (k : ∀ e w', R e w' → ∃ v, e = .returned v ∧ ∀ a', Reg a' N ((d, v) :: l) → Next a' w') : X := by
  refine hs.enter f (vs.toArray ++ cs) w ?_ (hc.mono fun e w' he => ?_)
  · have hm : xs.toArray.map a.eval = vs.toArray := by rw [← hR.evs hx]; simp
    unfold execOp
    rw [ho]
    simp only [resolve, hm, hR.ev hg, Deferred.ofValue, Sem.run_bind, Sem.run_pure, Result.andThen_ok, invoke, callFunc, Array.empty_append]
    have hn' : fn.name ≠ "runtime.NumGoroutine" := by simpa using hn
    have hb' : fn.body ≠ none := by intro e; rw [e] at hb; cases hb
    simp [hf, hn', hb']
  · obtain ⟨v, rfl, hk⟩ := k e w' he
    exact ⟨v, rfl, by rw [hd]; exact hk _ (hR.put hdN v)⟩
end
end Go.Proofs.YtobgdeffhdefeaaDoor
