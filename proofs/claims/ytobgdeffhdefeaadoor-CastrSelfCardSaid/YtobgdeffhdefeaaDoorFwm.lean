import Derived.Test.YtobgdeffhdefeaaDoorFwl
/- Boxes of the caller's that a call changes. -/
namespace Go.Proofs.YtobgdeffhdefeaaDoor
set_option linter.unusedSimpArgs false
set_option linter.unusedVariables false
open Go Go.RowKit
section
variable {w0 w w' : World} {Z M : Nat → Prop} {m : List Res} {ds : List Dat}
theorem St.startM (w0 : World) (Z : Nat → Prop) (ds : List Dat) (g : Nat) (t : TypeId) (cs : List Value) (hb : (Res.box g t cs).holds w0) (h : ∀ d ∈ ds, d.φ w0 (imm Z w0 [.box g t cs] w0)) : St w0 Z (· = g) w0 [.box g t cs] ds :=
  ⟨rfl, rfl, rfl, Nat.le_refl _, fun _ _ _ => rfl, (fun r h => by rw [List.mem_singleton] at h; subst h; exact hb), (fun r h k e => by
    rw [List.mem_singleton] at h; subst h
    have : g = k := by simpa [Res.blk] using e
    subst this
    exact ⟨(Array.getElem?_eq_some_iff.1 hb).1, .inr rfl⟩), .cons (fun _ h => by cases h) .nil, h⟩
theorem imm_startM {g : Nat} {t : TypeId} {cs : List Value} (hZ : ∀ k, Z k → k < w0.heap.size) (hg : ¬ Z g) {k : Nat} (hk : Z k) : imm Z w0 [.box g t cs] w0 k ∧ w0.heap[k]? = w0.heap[k]? :=
  ⟨⟨hZ k hk, fun _ => hk, fun r hr e => by
    rw [List.mem_singleton] at hr; subst hr
    have : g = k := by simpa [Res.blk] using e
    subst this
    exact hg hk⟩, rfl⟩
/-- A call that changes a box. -/
theorem St.callM (h : St w0 Z M w m ds) {i g : Nat} {t : TypeId} {cs cs' : List Value} (hi : m[i]? = some (.box g t cs)) (hf : Fr (· = g) w w') (hb : (Res.box g t cs').holds w') : St w0 Z M w' (m.set i (.box g t cs')) ds :=
  h.turn hi hf.os hf.tape hf.output hf.size (fun k hk hne => hf.old k hk (fun e => hne (by rw [e]; rfl))) hb (fun k hk => by
    have : g = k := by simpa [Res.blk] using hk
    subst this
    exact ⟨(Array.getElem?_eq_some_iff.1 hb).1, .inl rfl⟩)
theorem imm_set {i g k : Nat} {t : TypeId} {cs cs' : List Value} (hi : m[i]? = some (.box g t cs)) (h : imm Z w0 m w k) : imm Z w0 (m.set i (.box g t cs')) w k :=
  ⟨h.1, h.2.1, fun r hr e => by
    rcases List.mem_or_eq_of_mem_set hr with hr | rfl
    · exact h.2.2 r hr e
    · exact h.2.2 _ (List.mem_of_getElem? hi) e⟩
theorem imm_box {i g : Nat} {t : TypeId} {cs : List Value} (hi : m[i]? = some (.box g t cs)) : ¬ imm Z w0 m w g := fun h => h.2.2 _ (List.mem_of_getElem? hi) rfl
/-- A row that is let go, where a box is the caller's. -/
theorem St.row_dataM {g : Nat} (h : St w0 Z (· = g) w m ds) {i : Nat} {A : Option Addr} {n cap e size : Nat} {xs : List Value}
    (hi : m[i]? = some (.row A n cap e size xs)) {j : Nat} {t : TypeId} {cs : List Value} (hj : m[j]? = some (.box g t cs)) (hij : i ≠ j) : St w0 Z (· = g) w (m.eraseIdx i) ds ∧ RowI w (imm Z w0 (m.eraseIdx i) w) size A n xs := by
  have hr : w.ownsRow 0 e size (.slice A n cap) n xs := h.res hi
  refine ⟨h.drop _ (List.eraseIdx_sublist m i), hr.1, fun hn => ?_⟩
  obtain ⟨b, rfl⟩ := own_some hr hn
  refine ⟨_, rfl, ⟨(h.own _ (List.mem_of_getElem? hi) b rfl).1, fun hlt => ?_, fun r hmem e => ?_⟩, fun j u hu => hr.cells (g := b) rfl j u hu⟩
  · rcases (h.own _ (List.mem_of_getElem? hi) b rfl).2 with h1 | h1
    · have hlt' : b < w0.heap.size := hlt
      omega
    · have hb : b = g := h1
      subst hb
      exact absurd rfl (apart_get h.apart hij hi hj rfl)
  obtain ⟨j', hj'⟩ := List.mem_iff_getElem?.1 hmem
  rw [List.getElem?_eraseIdx] at hj'
  by_cases hji : j' < i
  · rw [if_pos hji] at hj'
    exact apart_get h.apart (by omega : j' ≠ i) hj' hi e rfl
  · rw [if_neg hji] at hj'
    exact apart_get h.apart (by omega : j' + 1 ≠ i) hj' hi e rfl
end
end Go.Proofs.YtobgdeffhdefeaaDoor
