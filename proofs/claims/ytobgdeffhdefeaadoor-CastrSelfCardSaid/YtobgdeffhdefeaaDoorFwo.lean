import Derived.Test.YtobgdeffhdefeaaDoorFwn
import Derived.LoopN
/- Boxes that are let go; loops of so many rounds. -/
namespace Go.Proofs.YtobgdeffhdefeaaDoor
set_option linter.unusedSimpArgs false
set_option linter.unusedVariables false
open Go Go.RowKit
/-- A block of cells that nobody changes. -/
def dBox (g : Nat) (cs : List Value) : Dat := ⟨fun w I => I g ∧ CellsAt w ⟨g, 0, none⟩ cs, fun _ _ _ _ h hk => ⟨(hk g h.1).1, h.2.keep (hk g h.1).2⟩⟩
theorem St.box_data {w0 w : World} {Z M : Nat → Prop} {m : List Res} {ds : List Dat} (h : St w0 Z M w m ds) {i g : Nat} {t : TypeId} {cs : List Value}
    (hi : m[i]? = some (.box g t cs)) (hM : ∀ k, ¬ M k) : St w0 Z M w (m.eraseIdx i) ds ∧ (dBox g cs).φ w (imm Z w0 (m.eraseIdx i) w) := by
  have hr : (Res.box g t cs).holds w := h.res hi
  refine ⟨h.drop _ (List.eraseIdx_sublist m i), ⟨(h.own _ (List.mem_of_getElem? hi) g rfl).1, fun hlt => ?_, fun r hmem e => ?_⟩, box_cells hr⟩
  · rcases (h.own _ (List.mem_of_getElem? hi) g rfl).2 with h1 | h1
    · have hlt' : g < w0.heap.size := hlt
      omega
    · exact absurd h1 (hM g)
  obtain ⟨j, hj⟩ := List.mem_iff_getElem?.1 hmem
  rw [List.getElem?_eraseIdx] at hj
  by_cases hji : j < i
  · rw [if_pos hji] at hj
    exact apart_get h.apart (by omega : j ≠ i) hj hi e rfl
  · rw [if_neg hji] at hj
    exact apart_get h.apart (by omega : j + 1 ≠ i) hj hi e rfl
theorem dbox_cell {w : World} {I : Nat → Prop} {g j : Nat} {cs : List Value} {v : Value} (h : (dBox g cs).φ w I) (hv : cs[j]? = some v) : w.cell? ⟨g, j, none⟩ = some v := by
  have := h.2 j v hv
  rwa [show (⟨g, 0, none⟩ : Addr).add j = ⟨g, j, none⟩ by unfold Addr.add; split <;> simp_all] at this
/-- An element of an array's value. -/
theorem r_indexV {P : Program} {X : Prop} {Next : Act → World → Prop} {o : Oper} {a : Act} {w : World} {N : Nat} {l : List (Nat × Value)} {d : Nat} {t : TypeId} {x y : Operand} {u i v : Value} (hs : SteV P X Next o a w) (hR : Reg a N l) (hd : o.dst = some d) (ho : o.op = .index t x y) (hx : ev l x = some u) (hy : ev l y = some i)
    (hrun : ∀ w, (Instr.index t u i).run P w = .ok v w) (hdN : d < N) (k : ∀ a', Reg a' N ((d, v) :: l) → Next a' w) : X := by
  refine r_pure hs hR hd hdN ?_ k
  unfold execOp; rw [ho]
  simp only [hR.ev hx, hR.ev hy, Sem.run_bind, hrun, Result.andThen_ok, Sem.run_pure]
theorem r_round {P : Program} {c : Code} {Q : Exit → Act → World → Prop} {n : Nat} {a : Act} {w : World} (h : c.wp P (Exit.then (Code.rounds P c Q n) Q) a w) : Code.rounds P c Q (n + 1) a w := h
end Go.Proofs.YtobgdeffhdefeaaDoor
