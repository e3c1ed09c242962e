import Derived.Test.YtobgdeffhdefeaaDoorFwk
import Derived.Test.YtobgdeffhdefeaaDoorTy
/- Nodes compared, by the program's type of nodes. -/
namespace Go.Proofs.YtobgdeffhdefeaaDoor
set_option linter.unusedSimpArgs false
set_option linter.unusedVariables false
open Go Go.RowKit
section
variable {X : Prop} {Next : Act → World → Prop} {o : Oper} {a : Act} {w w0 : World} {N : Nat} {l : List (Nat × Value)} {d : Nat}
theorem nodes_equal (w : World) (m n : Nd) : (Op.equalIn 10000 32 (.agg (encN m).toArray) (.agg (encN n).toArray)).run Tryd.prog w = .ok (decide (m = n)) w := by
  have h1 : Tryd.prog.underlying 32 = some (.struct (Tryd.prog.fieldsOf 32)) := by kernel_rfl
  have h2 : Tryd.prog.stoodInHeld 32 = false := by kernel_rfl
  have h3 : (Tryd.prog.fieldsOf 32).toList.map (fun f => (f.name == "_", f.type, f.offset)) = [(false, 3, 0), (false, 3, 1), (false, 3, 2), (false, 9, 3)] := by kernel_rfl
  rw [run_equalIn_agg w 9999 _ _ _ h1 h2]
  generalize (Tryd.prog.fieldsOf 32).toList = fs at h3
  rcases fs with _ | ⟨f1, _ | ⟨f2, _ | ⟨f3, _ | ⟨f4, _ | ⟨f5, fs⟩⟩⟩⟩⟩
  · simp at h3
  · simp at h3
  · simp at h3
  · simp at h3
  · simp only [List.map_cons, List.map_nil, List.cons.injEq, Prod.mk.injEq, and_true, beq_eq_false_iff_ne] at h3
    obtain ⟨⟨a1, a2, a3⟩, ⟨b1, b2, b3⟩, ⟨c1, c2, c3⟩, d1, d2, d3⟩ := h3
    have hi : ∀ w, (isAgg 3).run Tryd.prog w = .ok false w := fun w => run_isAgg Tryd.underlying3 w
    have hs : ∀ w, (isAgg 9).run Tryd.prog w = .ok false w := fun w => run_isAgg Tryd.underlying9 w
    have e1 : ∀ w x y, (Op.equalIn 9999 3 (.int .i64 x) (.int .i64 y)).run Tryd.prog w = .ok (x == y) w := fun w x y => run_equalIn_int w 9998 _ _ _ _ _ Tryd.underlying3
    have e2 : ∀ w x y, (Op.equalIn 9999 9 (.string x) (.string y)).run Tryd.prog w = .ok (x.toList == y.toList) w := fun w x y => run_equalIn_string w 9998 _ _ _ Tryd.underlying9
    simp only [Op.eqFields, a1, b1, c1, d1, ne_eq, not_false_eq_true, if_true, a2, a3, b2, b3, c2, c3, d2, d3, part, Sem.run_bind, hi, hs, Result.andThen_ok, Bool.false_eq_true, if_false, encN]
    simp only [List.getElem?_toArray, List.getElem?_cons_zero, List.getElem?_cons_succ, Sem.run_pure, Result.andThen_ok, e1, e2, toList_eq, Sem.run_ite]
    by_cases q1 : m.K = n.K <;> by_cases q2 : m.N = n.N <;> by_cases q3 : m.M = n.M <;> by_cases q4 : m.S = n.S <;> simp [q1, q2, q3, q4, node_eq, e1, e2, toList_eq]
  · simp at h3
theorem guard_nodes (op : BinOp) (x y : Operand) (m n : Nd) : (eqGuard op 32 x y (.agg (encN m).toArray) (.agg (encN n).toArray)).run Tryd.prog w = .ok () w :=
  run_eqGuard_agg w op _ x y _ _ (by kernel_rfl)
theorem r_eqlN {x y : Operand} {u : TypeId} {m n : Nd} (hs : SteV Tryd.prog X Next o a w) (hR : Reg a N l) (hd : o.dst = some d) (ho : o.op = .binOp .eql 32 x y u) (hx : ev l x = some (.agg (encN m).toArray)) (hy : ev l y = some (.agg (encN n).toArray)) (hdN : d < N)
    (k : ∀ a', Reg a' N ((d, .bool (decide (m = n))) :: l) → Next a' w) : X := by
  refine r_pure hs hR hd hdN ?_ k
  unfold execOp
  rw [ho]
  simp only [hR.ev hx, hR.ev hy, Sem.run_bind, guard_nodes, Result.andThen_ok, run_eql_struct, nodes_equal, Sem.run_pure]
theorem r_neqN {x y : Operand} {u : TypeId} {m n : Nd} (hs : SteV Tryd.prog X Next o a w) (hR : Reg a N l) (hd : o.dst = some d) (ho : o.op = .binOp .neq 32 x y u) (hx : ev l x = some (.agg (encN m).toArray)) (hy : ev l y = some (.agg (encN n).toArray)) (hdN : d < N)
    (k : ∀ a', Reg a' N ((d, .bool (!decide (m = n))) :: l) → Next a' w) : X := by
  refine r_pure hs hR hd hdN ?_ k
  unfold execOp
  rw [ho]
  simp only [hR.ev hx, hR.ev hy, Sem.run_bind, guard_nodes, Result.andThen_ok, run_neq_struct, nodes_equal, Sem.run_pure]
end
end Go.Proofs.YtobgdeffhdefeaaDoor
