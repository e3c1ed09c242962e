import Derived.Test.YtobgdeffhdefeaaDoorFwh
import Derived.Test.YtobgdeffhdefeaaDoorProg
/- The table of shapes; small closing lemmas. -/
namespace Go.Proofs.YtobgdeffhdefeaaDoor
set_option linter.unusedSimpArgs false
set_option linter.unusedVariables false
open Go Go.RowKit

/-- What the variable 'shapes' of package term reads as. -/
def Shapes (w : World) (I : Nat → Prop) : Prop := ∀ k, k < 30 → ∃ (A : Option Addr) (cap : Nat),
  ((shp k).b.length ≤ cap ∧ RowI w I 1 A (shp k).b.length (encIs (shp k).b)) ∧ I 0 ∧
  CellsAt w ((⟨0, 0, none⟩ : Addr).add (k * 4)) [.slice A (shp k).b.length cap, .bool (shp k).n, .bool (shp k).m, .bool (shp k).s]
def dShapes : Dat := ⟨Shapes, fun w w' I I' h hk k hlt => by
  obtain ⟨A, cap, ⟨h1, h2⟩, h3, h4⟩ := h k hlt
  exact ⟨A, cap, ⟨h1, h2.mono hk⟩, (hk 0 h3).1, h4.keep (by rw [block_of_add]; exact (hk 0 h3).2)⟩⟩
theorem shapes_at {w : World} {I : Nat → Prop} (h : Shapes w I) (k : Nat) (hk : k < 30) : ∃ (A : Option Addr) (cap : Nat),
    (dRow 1 A (shp k).b.length cap (encIs (shp k).b)).φ w I ∧
    ElemAt w (some ⟨0, 0, none⟩) (k * 4) [.slice A (shp k).b.length cap, .bool (shp k).n, .bool (shp k).m, .bool (shp k).s] := by
  obtain ⟨A, cap, h1, h3, h4⟩ := h k hk
  exact ⟨A, cap, h1, _, rfl, h4⟩

theorem ret_i {k : IntKind} {a b : Int} (h : a = b) : Value.int k a = Value.int k b := by rw [h]
theorem ret_b {a b : Bool} (h : a = b) : Value.bool a = Value.bool b := by rw [h]
theorem ret_t2 {a b a' b' : Value} (h : a = a') (h' : b = b') : Ending.returned (.tuple #[a, b]) = Ending.returned (.tuple #[a', b']) := by rw [h, h']
theorem ret_t3 {a b c a' b' c' : Value} (h : a = a') (h' : b = b') (h'' : c = c') : Ending.returned (.tuple #[a, b, c]) = Ending.returned (.tuple #[a', b', c']) := by rw [h, h', h'']
end Go.Proofs.YtobgdeffhdefeaaDoor
