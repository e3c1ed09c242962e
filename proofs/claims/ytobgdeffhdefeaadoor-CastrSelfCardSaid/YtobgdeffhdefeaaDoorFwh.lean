import Derived.Test.YtobgdeffhdefeaaDoorFwf
/- Where paths come together. -/
namespace Go.Proofs.YtobgdeffhdefeaaDoor
set_option linter.unusedSimpArgs false
set_option linter.unusedVariables false
open Go.RowKit
section
variable {P : Program} {ops : Array Oper} {Q : Exit → Act → World → Prop} {a : Act} {w : World}
theorem oper_wp_then {o : Oper} {I K' : Act → World → Prop} {J : Act → World → Prop} (h : ∀ a w, J a w → K' a w) (hh : o.wp P a w J (Exit.then I Q)) : o.wp P a w K' Q := by
  unfold Oper.wp at *
  generalize (execOp a.eval o).run P w = r at *
  cases r with
  | ok n w' =>
    cases n <;> simp only [Oper.upon] at hh ⊢ <;>
      first
        | exact h _ _ hh
        | exact Calls.mono hh (fun e w'' he => by cases e <;> first | exact h _ _ he | exact he)
        | exact Rows.mono hh (fun _ _ he => h _ _ he)
  | halt x w' => cases x <;> simp only [Oper.upon] at hh ⊢ <;> exact hh
theorem l_cut {I : Act → World → Prop} {ys : List Oper} (k : ∀ a w, I a w → wpList P ops Q ys a w) : ∀ (xs : List Oper) (a : Act) (w : World), wpList P ops (Exit.then I Q) xs a w → wpList P ops Q (xs ++ ys) a w
  | [], a, w, h => k a w h
  | o :: xs, a, w, h => by
    rw [List.cons_append]
    unfold wpList at h ⊢
    split
    · rename_i hw
      rw [if_pos hw] at h
      exact h.imp (oper_wp_then (l_cut k xs)) (fun h => ⟨h.1, h.2⟩)
    · rename_i hw
      rw [if_neg hw] at h
      exact l_cut k xs _ _ h
theorem l_join {l : List Oper} (I : Act → World → Prop) (n : Nat) (h : wpList P ops (Exit.then I Q) (l.take n) a w) (k : ∀ a w, I a w → wpList P ops Q (l.drop n) a w) : wpList P ops Q l a w := by
  have := l_cut (ys := l.drop n) k (l.take n) a w h
  rwa [List.take_append_drop] at this
theorem c_join {x y : Code} (I : Act → World → Prop) (h : x.wp P (Exit.then I Q) a w) (k : ∀ a w, I a w → y.wp P Q a w) : (Code.seq x y).wp P Q a w :=
  wp_seq (wp_mono h fun e a w he => by
    cases e with
    | normal => exact k _ _ he
    | _ => exact he)
theorem St.row {w0 w : World} {Z M : Nat → Prop} {m : List Res} {ds : List Dat} (h : St w0 Z M w m ds) {i size n cap : Nat} {A : Option Addr} {xs : List Value} (hi : ds[i]? = some (dRow size A n cap xs)) : n ≤ cap ∧ RowI w (imm Z w0 m w) size A n xs := h.get hi
variable {N : Nat} {l l' : List (Nat × Value)}
theorem Reg.consb (h : Reg a N l) (h' : Reg a N l') {i : Nat} {B b : Bool} (hv : l.lookup i = some (.bool B)) (hb : b = B) : Reg a N ((i, .bool b) :: l') := h.cons h' (by rw [hv, hb])
theorem Reg.consi (h : Reg a N l) (h' : Reg a N l') {i : Nat} {kd : IntKind} {B b : Int} (hv : l.lookup i = some (.int kd B)) (hb : b = B) : Reg a N ((i, .int kd b) :: l') := h.cons h' (by rw [hv, hb])
end
end Go.Proofs.YtobgdeffhdefeaaDoor
