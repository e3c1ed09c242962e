import Derived.Test.YtobgdeffhdefeaaDoorFwm
/- Slices of slices of nodes. -/
namespace Go.Proofs.YtobgdeffhdefeaaDoor
set_option linter.unusedSimpArgs false
set_option linter.unusedVariables false
open Go Go.RowKit
/-- A slice of nodes: where it lies, its capacity, its nodes. -/
abbrev Sl := Option Addr × Nat × List Nd
def slz : Sl := (none, 0, [])
def encS (s : Sl) : List Value := [.slice s.1 s.2.2.length s.2.1]
def encSs (l : List Sl) : List Value := l.flatMap encS
def nthS (t : List Sl) (k : Nat) : Sl := t.getD k slz
theorem encS_len (s : Sl) : (encS s).length = 1 := rfl
theorem encSs_length (l : List Sl) : (encSs l).length = l.length * 1 := enc_length encS_len l
theorem encSs_append (a b : List Sl) : encSs (a ++ b) = encSs a ++ encSs b := by simp [encSs]
theorem encSs_drop (l : List Sl) (k : Nat) : (encSs l).drop (k * 1) = encSs (l.drop k) := enc_drop encS_len l k
theorem encSs_take (l : List Sl) (k : Nat) : (encSs l).take (k * 1) = encSs (l.take k) := enc_take encS_len l k
theorem encS_one (l : List Sl) : ∀ u ∈ encSs l, u.oneCell' = true := by
  intro u hu
  obtain ⟨n, _, hn⟩ := List.mem_flatMap.1 hu
  simp [encS] at hn
  subst hn
  rfl
theorem ss_elem {w : World} {I : Nat → Prop} {A : Option Addr} {k : Nat} {t : List Sl} (h : RowI w I 1 A t.length (encSs t)) (hk : k < t.length) : ElemAt w A (k * 1) (encS (nthS t k)) := by
  have := h.elem hk
  rwa [show (encSs t) = t.flatMap encS from rfl, enc_at encS_len t k hk slz] at this
theorem own_ss {w : World} {A : Option Addr} {k cap e : Nat} {t : List Sl} (h : (Res.row A t.length cap e 1 (encSs t)).holds w) (hk : k < t.length) : ElemAt w A (k * 1) (encS (nthS t k)) := by
  have := own_elem h hk
  rwa [show (encSs t) = t.flatMap encS from rfl, enc_at encS_len t k hk slz] at this
/-- Each of the slices is data. -/
def dAll (t : List Sl) : Dat := ⟨fun w I => ∀ s ∈ t, s.2.2.length ≤ s.2.1 ∧ RowI w I 4 s.1 s.2.2.length (encNs s.2.2), fun _ _ _ _ h hk s hs => ⟨(h s hs).1, (h s hs).2.mono hk⟩⟩
theorem nthS_mem {t : List Sl} {k : Nat} (h : k < t.length) : nthS t k ∈ t := by
  have : nthS t k = t[k] := by simp [nthS, h]
  rw [this]
  exact List.getElem_mem h
theorem all_at {w : World} {I : Nat → Prop} {t : List Sl} {k : Nat} (h : (dAll t).φ w I) (hk : k < t.length) : (dRow 4 (nthS t k).1 (nthS t k).2.2.length (nthS t k).2.1 (encNs (nthS t k).2.2)).φ w I := h _ (nthS_mem hk)
theorem all_nil {w : World} {I : Nat → Prop} : (dAll []).φ w I := fun _ h => by cases h
theorem all_cons {w : World} {I : Nat → Prop} {A : Option Addr} {c : Nat} {L : List Nd} {t : List Sl} (h : (dRow 4 A L.length c (encNs L)).φ w I) (ht : (dAll t).φ w I) : (dAll ((A, c, L) :: t)).φ w I := fun s hs => by
  rcases List.mem_cons.1 hs with rfl | hs
  · exact h
  · exact ht s hs
theorem all_append {w : World} {I : Nat → Prop} {a b : List Sl} (ha : (dAll a).φ w I) (hb : (dAll b).φ w I) : (dAll (a ++ b)).φ w I := fun s hs => by
  rcases List.mem_append.1 hs with hs | hs
  · exact ha s hs
  · exact hb s hs
theorem all_drop {w : World} {I : Nat → Prop} {a : List Sl} (ha : (dAll a).φ w I) (k : Nat) : (dAll (a.drop k)).φ w I := fun s hs => ha s (List.mem_of_mem_drop hs)
theorem all_take {w : World} {I : Nat → Prop} {a : List Sl} (ha : (dAll a).φ w I) (k : Nat) : (dAll (a.take k)).φ w I := fun s hs => ha s (List.mem_of_mem_take hs)
/-- The lists. -/
def lsts (t : List Sl) : List (List Nd) := t.map (·.2.2)
end Go.Proofs.YtobgdeffhdefeaaDoor
