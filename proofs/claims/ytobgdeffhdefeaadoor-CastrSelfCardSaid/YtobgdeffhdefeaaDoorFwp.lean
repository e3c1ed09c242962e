import Derived.Test.YtobgdeffhdefeaaDoorFwo
/- Regions that draw, where what follows is hidden. -/
namespace Go.Proofs.YtobgdeffhdefeaaDoor
set_option linter.unusedSimpArgs false
set_option linter.unusedVariables false
open Go Go.RowKit
/-- A panic says nothing of the slots. -/
def PanOK (Q : Exit → Act → World → Prop) : Prop := ∀ c a d v w, Q (.panic c) (Act.put a d v) w → Q (.panic c) a w
theorem pan_body {P : Program} {fn : Func} {R : Ending → World → Prop} : PanOK (bodyPost P fn R) := fun _ _ d _ _ h => by
  cases d <;> exact h
theorem pan_then {K : Act → World → Prop} {Q : Exit → Act → World → Prop} (h : PanOK Q) : PanOK (Exit.then K Q) := fun c a d v w hq => h c a d v w hq
theorem pan_block {id : Nat} {Q : Exit → Act → World → Prop} (h : PanOK Q) : PanOK (Exit.inBlock id Q) := fun c a d v w hq => h c a d v w hq
theorem d_region2 {P : Program} {ops : Array Oper} {Q : Exit → Act → World → Prop} {S : World → Prop} {a : Act} {w w0 : World} {Z M : Nat → Prop} {m : List Res} {ds : List Dat}
    {id n : Nat} (hm : P.follows .mixedOrders = true) (hn : ops.size = n) (hS : St w0 Z M w m ds) (hp : PanOK Q)
    (h : ∀ (Q' : Exit → Act → World → Prop), PanOK Q' → (∀ a w, Q .normal a w → Q' .normal a w) → ∀ w', St w0 Z M w' m ds → wpAnyH P .any ops Q' S n (Array.replicate n false) a w') : (Code.region id ops true).wp P Q a w :=
  d_region hm hn hS (h Q hp (fun _ _ h => h))
end Go.Proofs.YtobgdeffhdefeaaDoor
