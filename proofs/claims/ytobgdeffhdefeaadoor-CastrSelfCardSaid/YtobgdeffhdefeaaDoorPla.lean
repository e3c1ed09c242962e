import Derived.Test.YtobgdeffhdefeaaDoorTy
import Derived.Test.YtobgdeffhdefeaaDoorFwp
/- Plain laws of levels, names and fields. -/
namespace Go.Proofs.YtobgdeffhdefeaaDoor
set_option linter.unusedSimpArgs false
set_option linter.unusedVariables false
def lvIndex : List Int → Int
  | [] => -1
  | n :: t => if 0 ≤ n ∧ n ≤ 9 then (let r := lvIndex t; if r < 0 then r else r + 1) else 0
def lvChk (n : Int) : Int := if 0 ≤ n ∧ n ≤ 9 then 0 else 1
theorem lvIndex_ge (t : List Int) : -1 ≤ lvIndex t := by
  induction t with
  | nil => simp [lvIndex]
  | cons n t ih =>
    simp only [lvIndex]
    split
    · split <;> omega
    · omega
theorem drop_nthI {t : List Int} {k : Nat} (hk : k < t.length) : t.drop k = nthI t k :: t.drop (k + 1) := by
  rw [List.drop_eq_getElem_cons hk]
  simp [nthI, hk]
theorem lvIndex_step {t : List Int} {k : Nat} (hi : lvIndex t = (let r := lvIndex (t.drop k); if r < 0 then r else r + (k : Int))) (hk : k < t.length) (h : 0 ≤ nthI t k ∧ nthI t k ≤ 9) :
    lvIndex t = (let r := lvIndex (t.drop (k + 1)); if r < 0 then r else r + ((k + 1 : Nat) : Int)) := by
  rw [drop_nthI hk] at hi
  simp only [lvIndex, if_pos h] at hi
  rw [hi]
  simp only
  generalize lvIndex (t.drop (k + 1)) = r
  by_cases h0 : r < 0
  · simp [h0]
  · simp [h0, show ¬ (r + 1 < 0) by omega]
    omega
theorem lvIndex_here {t : List Int} {k : Nat} (hi : lvIndex t = (let r := lvIndex (t.drop k); if r < 0 then r else r + (k : Int))) (hk : k < t.length) (h : 0 ≤ nthI t k → 9 < nthI t k) : lvIndex t = (k : Int) := by
  rw [drop_nthI hk] at hi
  simp only [lvIndex, if_neg (show ¬ (0 ≤ nthI t k ∧ nthI t k ≤ 9) by omega)] at hi
  rw [hi]
  simp
theorem lvIndex_none {t : List Int} {k : Nat} (hi : lvIndex t = (let r := lvIndex (t.drop k); if r < 0 then r else r + (k : Int))) (hk : t.length ≤ k) : lvIndex t = -1 := by
  rw [List.drop_eq_nil_of_le hk] at hi
  rw [hi]
  simp [lvIndex]
theorem lvChk_bad {n : Int} (h : 0 ≤ lvIndex [n]) : lvChk n = 1 := by
  unfold lvChk
  simp only [lvIndex] at h
  split <;> simp_all
theorem lvChk_good {n : Int} (h : lvIndex [n] < 0) : lvChk n = 0 := by
  unfold lvChk
  simp only [lvIndex] at h
  split <;> simp_all

/-- May a byte stand in a name, at this place? -/
def okC (c i : Nat) : Prop := (97 ≤ orB c 32 ∧ orB c 32 ≤ 122) ∨ c = 95 ∨ (i ≠ 0 ∧ 48 ≤ c ∧ c ≤ 57)
def nameTo (s : ByteArray) (k : Nat) : Prop := ∀ i, i < k → okC (byteAt s i) i
theorem nameTo_zero (s : ByteArray) : nameTo s 0 := fun i h => by omega
theorem nameTo_step {s : ByteArray} {k : Nat} (hi : nameTo s k) (h : okC (byteAt s k) k) : nameTo s (k + 1) := fun i hk => by
  by_cases hik : i = k
  · subst hik; exact h
  · exact hi i (by omega)
set_option maxRecDepth 100000 in
theorem okC_iff (c : UInt8) (i : Nat) : okC c.toNat i ↔ (letter c = true ∨ (i ≠ 0 ∧ digit c = true)) := by
  have h := letter_or ⟨c.toNat, UInt8.toNat_lt c⟩
  simp only [UInt8.ofNat_toNat] at h
  have hd : digit c = true ↔ 48 ≤ c.toNat ∧ c.toNat ≤ 57 := by
    unfold digit
    simp [UInt8.le_iff_toNat_le]
  unfold okC
  rw [← h, hd]
  omega
theorem byteAt_eq {s : ByteArray} {i : Nat} {c : UInt8} (h : s.data.toList[i]? = some c) : byteAt s i = c.toNat := by
  obtain ⟨hlt, h2⟩ := List.getElem?_eq_some_iff.1 h
  have hl : i < s.size := by rw [Array.length_toList] at hlt; exact hlt
  unfold byteAt
  rw [dif_pos hl]
  congr 1
theorem name_iff (s : ByteArray) : nameOk s = true ↔ 0 < s.size ∧ s.size ≤ 16 ∧ nameTo s s.size := by
  have hsz : s.size = s.data.toList.length := by rw [Array.length_toList]; rfl
  unfold nameOk
  cases hl : s.data.toList with
  | nil =>
    rw [hl] at hsz
    simp at hsz
    simp [hsz]
  | cons c r =>
    have h0 : byteAt s 0 = c.toNat := byteAt_eq (by rw [hl]; rfl)
    rw [hl] at hsz
    have hsz' : s.size = r.length + 1 := hsz
    clear hsz
    simp only [Bool.and_eq_true, decide_eq_true_eq, List.all_eq_true, Bool.or_eq_true]
    constructor
    · rintro ⟨⟨h1, h2⟩, h3⟩
      refine ⟨by omega, h1, fun i hi => ?_⟩
      cases i with
      | zero => rw [h0, okC_iff]; exact .inl h2
      | succ i =>
        have hlt : i < r.length := by omega
        rw [byteAt_eq (c := r[i]) (by rw [hl]; simp [hlt]), okC_iff]
        rcases h3 _ (List.getElem_mem hlt) with h | h
        · exact .inl h
        · exact .inr ⟨by omega, h⟩
    · rintro ⟨h1, h2, h3⟩
      refine ⟨⟨h2, ?_⟩, fun x hx => ?_⟩
      · have := h3 0 h1
        rw [h0, okC_iff] at this
        rcases this with h | h
        · exact h
        · exact absurd rfl h.1
      · obtain ⟨i, hlt, rfl⟩ := List.mem_iff_getElem.1 hx
        have := h3 (i + 1) (by omega)
        rw [byteAt_eq (c := r[i]) (by rw [hl]; simp [hlt]), okC_iff] at this
        rcases this with h | h
        · exact .inl h
        · exact .inr h.2
theorem name_bad {s : ByteArray} {k : Nat} (hk : k < s.size) (h : ¬ okC (byteAt s k) k) : nameOk s = false := by
  rw [Bool.eq_false_iff]
  intro e
  exact h ((name_iff s).1 e |>.2.2 k hk)
theorem size_nil {s : ByteArray} : s = (⟨#[]⟩ : ByteArray) ↔ s.size = 0 := by
  constructor
  · rintro rfl; rfl
  · intro h
    cases s with
    | mk d =>
      have h' : d.size = 0 := h
      rw [Array.size_eq_zero_iff.1 h']
theorem name_end {s : ByteArray} {k : Nat} (hi : nameTo s k) (hk : s.size ≤ k) : nameOk s = ((!decide (s = (⟨#[]⟩ : ByteArray))) && decide (((s.size : Nat) : Int) ≤ 16)) := by
  rw [Bool.eq_iff_iff, name_iff]
  simp only [Bool.and_eq_true, Bool.not_eq_true', decide_eq_true_eq, decide_eq_false_iff_not, size_nil]
  constructor
  · rintro ⟨h1, h2, _⟩; omega
  · rintro ⟨h1, h2⟩; exact ⟨by omega, by omega, fun i h => hi i (by omega)⟩

/-- The document's own words. -/
def letN (c : Nat) : Bool := ((decide ((97 : Int) ≤ c) && decide ((c : Int) ≤ 122)) || (decide ((65 : Int) ≤ c) && decide ((c : Int) ≤ 90))) || decide ((c : Int) = 95)
def plainB (n : Nd) : Bool := decide (n.N = 0) && decide (n.M = 0) && decide (n.S = (⟨#[]⟩ : ByteArray))
set_option maxRecDepth 100000 in
theorem letN_or : ∀ c : Fin 256, letN c.val = true ↔ ((97 ≤ orB c.val 32 ∧ orB c.val 32 ≤ 122) ∨ c.val = 95) := by decide
theorem okC_of {c i : Nat} (hc : c < 256) : okC c i ↔ (letN c = true ∨ (i ≠ 0 ∧ 48 ≤ c ∧ c ≤ 57)) := by
  have h := letN_or ⟨c, hc⟩
  simp only at h
  unfold okC
  rw [h]
  omega
def bindL (n : Nd) : List Int := if n.K = 26 ∨ n.K = 27 then (if right n then binds n else []) else if 0 ≤ n.K ∧ n.K < 30 then (shp n.K.toNat).b else []
theorem bindL_right {n : Nd} (h : right n = true) : bindL n = binds n := by
  have := right_K h
  unfold bindL binds
  by_cases h1 : n.K = 26
  · simp [h1, h, binds]
  · by_cases h2 : n.K = 27
    · simp [h2, h, binds]
    · simp [h1, h2, this]

/-- Has a node a field that its kind has not, or a bad name? -/
def fieldsBad (n : Nd) : Bool :=
  (((!((shp (((n.K)).toNat)).n)) && (!(decide ((n.N) = 0)))) || (((!((shp (((n.K)).toNat)).m)) && (!(decide ((n.M) = 0)))) || (((!((shp (((n.K)).toNat)).s)) && (!(decide (n.S = (⟨#[]⟩ : ByteArray))))) || ((shp (((n.K)).toNat)).s && (!(nameOk n.S))))))
theorem right_split (n : Nd) : right n = true ↔ (0 ≤ n.K ∧ n.K < 30) ∧ fieldsBad n = false ∧ ((shp n.K.toNat).n = true → 0 ≤ n.N ∧ n.N ≤ if n.K = 2 then 9 else most n.K) ∧ ((shp n.K.toNat).m = true → 0 ≤ n.M ∧ n.M ≤ 6) := by
  unfold right fieldsBad
  have hS : n.S = (⟨#[]⟩ : ByteArray) ↔ n.S.size = 0 := size_nil
  simp only [Bool.and_eq_true, decide_eq_true_eq]
  rw [and_assoc, and_assoc, ← and_assoc (a := 0 ≤ n.K)]
  refine and_congr_right fun _ => ?_
  cases h1 : (shp n.K.toNat).n <;> cases h2 : (shp n.K.toNat).m <;> cases h3 : (shp n.K.toNat).s <;> simp [hS] <;> try (constructor <;> (rintro ⟨h4, h5, h6⟩; simp_all))
theorem shp_m (k : Nat) : (shp k).m = true ↔ k = 26 ∨ k = 27 := by
  unfold shp
  split <;> simp_all
theorem right_bad {n : Nd} (h : n.K < 0 ∨ 30 ≤ n.K) : right n = false := by
  rw [Bool.eq_false_iff]
  intro e
  have := ((right_split n).1 e).1
  omega
theorem right_big {n : Nd} (h : fieldsBad n = true) : right n = false := by
  rw [Bool.eq_false_iff]
  intro e
  have := ((right_split n).1 e).2.1
  rw [h] at this
  cases this
theorem right_sort {n : Nd} (h : fieldsBad n = false) (hk : n.K = 2) : right n = decide (lvChk n.N = 0) := by
  rw [Bool.eq_iff_iff, right_split]
  simp [h, hk, shp, lvChk]
theorem right_con' {n : Nd} (h : fieldsBad n = false) (hk : n.K = 26) : right n = decide (0 ≤ n.N ∧ n.N ≤ most n.K ∧ 0 ≤ n.M ∧ n.M ≤ 6) := by
  rw [Bool.eq_iff_iff, right_split]
  simp [h, hk, shp]
  omega
theorem right_elim' {n : Nd} (h : fieldsBad n = false) (hk : n.K = 27) : right n = decide (0 ≤ n.M ∧ n.M ≤ 6) := by
  rw [Bool.eq_iff_iff, right_split]
  simp [h, hk, shp]
theorem right_oth {n : Nd} (h : fieldsBad n = false) (h0 : 0 ≤ n.K) (h1 : n.K < 30) (hk : ¬ n.K = 2) (hk1 : ¬ n.K = 26) (hk2 : ¬ n.K = 27) : right n = (!(shp n.K.toNat).n || decide (0 ≤ n.N ∧ n.N ≤ most n.K)) := by
  have hm : (shp n.K.toNat).m = false := by
    rw [Bool.eq_false_iff]
    intro e
    rw [shp_m] at e
    omega
  rw [Bool.eq_iff_iff, right_split]
  simp only [h, hk, hm, h0, h1]
  cases (shp n.K.toNat).n <;> simp
theorem rname_step {s : ByteArray} {k : Nat} (h0 : letN (byteAt s 0) = true) (h : letN (byteAt s k) = true ∨ (48 ≤ byteAt s k ∧ byteAt s k ≤ 57)) : okC (byteAt s k) k := by
  rw [okC_of (byteAt_lt _ _)]
  by_cases hk : k = 0
  · subst hk; exact .inl h0
  · rcases h with h | h
    · exact .inl h
    · exact .inr ⟨hk, h⟩
theorem rname_bad {s : ByteArray} {k : Nat} (hk : k < s.size) (h1 : letN (byteAt s k) = false) (h2 : byteAt s k < 48 ∨ 57 < byteAt s k) : nameOk s = false := by
  refine name_bad hk ?_
  rw [okC_of (byteAt_lt _ _), h1]
  simp
  omega
theorem rname_bad0 {s : ByteArray} (h : (s.size < 1 ∨ 16 < s.size) ∨ letN (byteAt s 0) = false) : nameOk s = false := by
  rw [Bool.eq_false_iff]
  intro e
  obtain ⟨h1, h2, h3⟩ := (name_iff s).1 e
  rcases h with h | h
  · omega
  · have := (okC_of (byteAt_lt s 0)).1 (h3 0 h1)
    rw [h] at this
    simp at this
theorem rname_end {s : ByteArray} {k : Nat} (hi : nameTo s k) (hk : s.size ≤ k) (h1 : 1 ≤ s.size) (h2 : s.size ≤ 16) : nameOk s = true :=
  (name_iff s).2 ⟨by omega, h2, fun i h => hi i (by omega)⟩
theorem right_var {n : Nd} (h : n.K = 0) : right n = decide (0 ≤ n.N ∧ n.N ≤ 99 ∧ n.M = 0 ∧ n.S = (⟨#[]⟩ : ByteArray)) := by
  rw [Bool.eq_iff_iff]; simp [right, h, shp, most, size_nil, and_assoc]
theorem right_str {n : Nd} (h : n.K = 1 ∨ n.K = 25) : right n = decide (n.N = 0 ∧ n.M = 0 ∧ nameOk n.S = true) := by
  rw [Bool.eq_iff_iff]; rcases h with h | h <;> simp [right, h, shp, and_assoc]
theorem right_sortR {n : Nd} (h : n.K = 2) : right n = decide (lvChk n.N = 0 ∧ n.M = 0 ∧ n.S = (⟨#[]⟩ : ByteArray)) := by
  rw [Bool.eq_iff_iff]; simp [right, h, shp, lvChk, size_nil, and_assoc]
theorem right_pi {n : Nd} (h : n.K = 3 ∨ n.K = 6) : right n = decide (0 ≤ n.N ∧ n.N ≤ 3 ∧ n.M = 0 ∧ n.S = (⟨#[]⟩ : ByteArray)) := by
  rw [Bool.eq_iff_iff]; rcases h with h | h <;> simp [right, h, shp, most, size_nil, and_assoc]
theorem right_con2 {n : Nd} (h : n.K = 26) : right n = decide (nameOk n.S = true ∧ 0 ≤ n.N ∧ n.N < 6 ∧ 0 ≤ n.M ∧ n.M ≤ 6) := by
  rw [Bool.eq_iff_iff]
  simp [right, h, shp, most]
  constructor
  · rintro ⟨⟨⟨h1, h2⟩, h3, h4⟩, h5⟩; exact ⟨h5, h1, by omega, h3, h4⟩
  · rintro ⟨h5, h1, h2, h3, h4⟩; exact ⟨⟨⟨h1, by omega⟩, h3, h4⟩, h5⟩
theorem right_elim2 {n : Nd} (h : n.K = 27) : right n = decide (nameOk n.S = true ∧ n.N = 0 ∧ 0 ≤ n.M ∧ n.M ≤ 6) := by
  rw [Bool.eq_iff_iff]
  simp [right, h, shp]
  constructor
  · rintro ⟨⟨h1, h3, h4⟩, h5⟩; exact ⟨h5, h1, h3, h4⟩
  · rintro ⟨h5, h1, h3, h4⟩; exact ⟨⟨h1, h3, h4⟩, h5⟩
theorem shp_plain (k : Nat) (h : k ≠ 0 ∧ k ≠ 1 ∧ k ≠ 2 ∧ k ≠ 3 ∧ k ≠ 6 ∧ k ≠ 25 ∧ k ≠ 26 ∧ k ≠ 27) : (shp k).n = false ∧ (shp k).m = false ∧ (shp k).s = false := by
  unfold shp
  split <;> simp_all
theorem right_plain {n : Nd} (h1 : 0 ≤ n.K) (h2 : n.K < 30) (h : n.K ≠ 0 ∧ n.K ≠ 1 ∧ n.K ≠ 2 ∧ n.K ≠ 3 ∧ n.K ≠ 6 ∧ n.K ≠ 25 ∧ n.K ≠ 26 ∧ n.K ≠ 27) : right n = plainB n := by
  obtain ⟨h3, h4, h5⟩ := shp_plain n.K.toNat (by omega)
  rw [Bool.eq_iff_iff]
  simp [right, plainB, h1, h2, h3, h4, h5, size_nil]
theorem bindL_none {n : Nd} (h : n.K < 0 ∨ 30 ≤ n.K) : bindL n = [] := by
  unfold bindL
  rw [if_neg (by omega), if_neg (by omega)]
theorem bindL_bad {n : Nd} (h : n.K = 26 ∨ n.K = 27) (hr : right n = false) : bindL n = [] := by
  unfold bindL
  rw [if_pos h, if_neg (by simp [hr])]
theorem bindL_con {n : Nd} (h : n.K = 26) (hr : right n = true) : bindL n = List.replicate n.M.toNat 0 := by
  unfold bindL
  rw [if_pos (.inl h), if_pos hr]
  simp [binds, h]
theorem bindL_elim {n : Nd} (h : n.K = 27) (hr : right n = true) : bindL n = [1] ++ List.replicate (n.M.toNat + 1) 0 := by
  unfold bindL
  rw [if_pos (.inr h), if_pos hr]
  simp [binds, h]
end Go.Proofs.YtobgdeffhdefeaaDoor
