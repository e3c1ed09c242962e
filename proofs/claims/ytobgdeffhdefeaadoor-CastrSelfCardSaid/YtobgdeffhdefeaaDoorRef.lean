import Derived.Test.YtobgdeffhdefeaaDoorMes
/- Plain laws of the document's check. -/
namespace Go.Proofs.YtobgdeffhdefeaaDoor
set_option linter.unusedSimpArgs false
set_option linter.unusedVariables false
theorem bindL_many {n : Nd} (h : right n = true) : (bindL n).length = many n := by
  rw [bindL_right h]
  rfl
theorem bindL_le (n : Nd) : (bindL n).length ≤ 8 := by
  by_cases h : right n = true
  · rw [bindL_many h]; exact many_le h
  · unfold bindL
    have := shp_le n.K.toNat
    split
    · simp
    · split
      · omega
      · simp
def dl (st : List T) : List Int := st.map fun x => (x.deep : Int)
theorem dl_length (st : List T) : (dl st).length = st.length := by simp [dl]
theorem deeps_append (a b : List T) : T.deeps (a ++ b) = max (T.deeps a) (T.deeps b) := by
  induction a with
  | nil => simp [T.deeps]
  | cons t a ih => simp [T.deeps, ih, Nat.max_assoc]
/-- The greatest depth of the last so many. -/
def maxB (st : List T) (j : Nat) : Int := (T.deeps (st.drop (st.length - j)) : Int)
theorem maxB_zero (st : List T) : maxB st 0 = 0 := by simp [maxB, T.deeps]
theorem maxB_step {st : List T} {j : Nat} (h : j < st.length) : max (maxB st j) (nthI (dl st) (st.length - j - 1)) = maxB st (j + 1) := by
  have h1 : st.length - j - 1 < st.length := by omega
  have h2 : nthI (dl st) (st.length - j - 1) = (st[st.length - j - 1].deep : Int) := by simp [nthI, dl, h1]
  have h3 : st.drop (st.length - (j + 1)) = st[st.length - j - 1] :: st.drop (st.length - j) := by
    rw [show st.length - (j + 1) = st.length - j - 1 by omega, List.drop_eq_getElem_cons h1, show st.length - j - 1 + 1 = st.length - j by omega]
  rw [h2, maxB, maxB, h3, T.deeps]
  omega
theorem maxB_le {st : List T} {j : Nat} : 0 ≤ maxB st j ∧ maxB st j ≤ (T.flats st).length := by
  have h1 := deeps_flat (st.drop (st.length - j))
  have h2 : (T.flats st).length = (T.flats (st.take (st.length - j))).length + (T.flats (st.drop (st.length - j))).length := by
    rw [← List.length_append, ← T.flats_append, List.take_append_drop]
  unfold maxB
  omega
theorem push_dl {st st' : List T} {n : Nd} (h : pushT st n = some st') : dl st' = (dl st).take (st.length - many n) ++ [maxB st (many n) + 1] ∧ T.deeps st ≤ T.deeps st' ∧ maxB st (many n) + 1 ≤ (T.deeps st' : Int) := by
  unfold pushT at h
  split at h
  · rename_i hc
    simp only [Bool.and_eq_true, decide_eq_true_eq] at hc
    obtain rfl := Option.some.inj h
    have hs : st = st.take (st.length - many n) ++ st.drop (st.length - many n) := (List.take_append_drop _ _).symm
    have h1 : T.deeps st = max (T.deeps (st.take (st.length - many n))) (T.deeps (st.drop (st.length - many n))) := by rw [← deeps_append, List.take_append_drop]
    refine ⟨?_, ?_, ?_⟩
    · simp [dl, maxB, deep_mk, List.map_take]
    · rw [deeps_append, h1]
      simp only [T.deeps, deep_mk]
      omega
    · rw [deeps_append]
      simp only [T.deeps, deep_mk, maxB]
      omega
  · cases h
theorem scan_deeps {t : List Nd} : ∀ {st st' : List T}, scanT st t = some st' → T.deeps st ≤ T.deeps st' := by
  induction t with
  | nil => intro st st' h; simp only [scanT] at h; obtain rfl := Option.some.inj h; exact Nat.le_refl _
  | cons n t ih =>
    intro st st' h
    simp only [scanT] at h
    cases hp : pushT st n with
    | none => simp [hp] at h
    | some s =>
      simp only [hp] at h
      exact Nat.le_trans (push_dl hp).2.1 (ih h)
def deepB (t : List Nd) : Bool := match scanT [] t with
  | some [x] => decide (60 < x.deep)
  | _ => false
theorem deepB_true {t : List Nd} {k : Nat} {st : List T} (hb : measB t = true) (h : scanT [] (t.take k) = some st) (hk : k < t.length) (hr : right (nth t k) = true) (hm : many (nth t k) ≤ st.length) (hd : 60 < maxB st (many (nth t k)) + 1) : deepB t = true := by
  obtain ⟨x, hs, _⟩ := measB_tree hb
  obtain ⟨st', hp, _⟩ := push_some hr hm
  have h1 := scan_step h hk
  rw [hp] at h1
  have h2 : scanT st' (t.drop (k + 1)) = some [x] := by
    have := hs
    rw [show t = t.take (k + 1) ++ t.drop (k + 1) from (List.take_append_drop _ _).symm, scanT_append, h1] at this
    simpa using this
  have h3 := scan_deeps h2
  have h4 := (push_dl hp).2.2
  unfold deepB
  rw [hs]
  simp only [T.deeps] at h3
  simp only [decide_eq_true_eq]
  omega
/-- All of the stack is no deeper than may be. -/
def shallow (st : List T) : Prop := ∀ x ∈ st, x.deep ≤ 60
theorem shallow_push {st st' : List T} {n : Nd} (h : pushT st n = some st') (hs : shallow st) (hd : ¬ 60 < maxB st (many n) + 1) : shallow st' := by
  unfold pushT at h
  split at h
  · obtain rfl := Option.some.inj h
    intro x hx
    rcases List.mem_append.1 hx with hx | hx
    · exact hs x (List.mem_of_mem_take hx)
    · rw [List.mem_singleton] at hx
      subst hx
      rw [deep_mk]
      unfold maxB at hd
      omega
  · cases h
theorem deepB_false {t : List Nd} {st : List T} (h : scanT [] t = some st) (hs : shallow st) : deepB t = false := by
  unfold deepB
  rw [h]
  match st, hs with
  | [], _ => rfl
  | [x], hs => simp [hs x (by simp)]
  | x :: y :: l, _ => rfl
theorem chk_whole {t : List Nd} (hl : t.length ≤ 4000) (h : measB t = true) : chk t = if deepB t = true then 22 else 0 := by
  obtain ⟨x, hs, _⟩ := measB_tree h
  unfold chk deepB
  rw [if_neg (by omega), hs]
  simp only [decide_eq_true_eq]
theorem whole_no {t : List Nd} {k : Nat} {st : List T} (h : scanT [] (t.take k) = some st) (hk : k < t.length) (hq : right (nth t k) = false ∨ ((st.length : Nat) : Int) < (((bindL (nth t k)).length : Nat) : Int)) : measB t = false := by
  refine (meas_bad (scan_none h hk (push_none ?_))).2
  rcases Bool.eq_false_or_eq_true (right (nth t k)) with hr | hr
  · rcases hq with h | h
    · exact .inl h
    · rw [bindL_many hr] at h
      exact .inr (by omega)
  · exact .inl hr
theorem measB_at {t : List Nd} {k : Nat} {st : List T} (hb : measB t = true) (h : scanT [] (t.take k) = some st) (hk : k < t.length) : right (nth t k) = true ∧ many (nth t k) ≤ st.length := by
  obtain ⟨x, hs, _⟩ := measB_tree hb
  cases hp : pushT st (nth t k) with
  | none => rw [scan_none h hk hp] at hs; cases hs
  | some s =>
    unfold pushT at hp
    split at hp
    · rename_i hc
      simp only [Bool.and_eq_true, decide_eq_true_eq] at hc
      exact hc
    · cases hp
theorem same_step {t u : List Nd} {k : Nat} (hi : t.take k = u.take k) (hk : k < t.length) (hu : k < u.length) (h : nth t k = nth u k) : t.take (k + 1) = u.take (k + 1) := by
  rw [take_nth hk, take_nth hu, hi, h]
theorem same_len {t u : List Nd} (h : ¬ t.length = u.length) : decide (t = u) = false := by
  rw [decide_eq_false_iff_not]
  rintro rfl
  exact h rfl
theorem same_no {t u : List Nd} {k : Nat} (hk : k < t.length) (hu : k < u.length) (h : ¬ nth t k = nth u k) : decide (t = u) = false := by
  rw [decide_eq_false_iff_not]
  rintro rfl
  exact h rfl
theorem same_end {t u : List Nd} {k : Nat} (hi : t.take k = u.take k) (hk : t.length ≤ k) (hu : u.length ≤ k) : decide (t = u) = true := by
  rw [List.take_of_length_le hk, List.take_of_length_le hu] at hi
  simpa using hi
def heavyB (b : Nat) (t : List Nd) : Bool := decide (b < t.length) || t.any fun n => decide (100 < n.S.size)
def lightTo (t : List Nd) (k : Nat) : Prop := ∀ i, i < k → (nth t i).S.size ≤ 100
theorem light_step {t : List Nd} {k : Nat} (hi : lightTo t k) (h : (nth t k).S.size ≤ 100) : lightTo t (k + 1) := fun i hik => by
  by_cases e : i = k
  · subst e; exact h
  · exact hi i (by omega)
theorem nth_mem {t : List Nd} {k : Nat} (h : k < t.length) : nth t k ∈ t := by
  have : nth t k = t[k] := by simp [nth, h]
  rw [this]
  exact List.getElem_mem h
theorem heavy_len {b : Nat} {t : List Nd} (h : b < t.length) : heavyB b t = true := by simp [heavyB, h]
theorem heavy_at {b : Nat} {t : List Nd} {k : Nat} (hk : k < t.length) (h : 100 < (nth t k).S.size) : heavyB b t = true := by
  unfold heavyB
  rw [Bool.or_eq_true, List.any_eq_true]
  exact .inr ⟨_, nth_mem hk, by simpa using h⟩
theorem heavy_no {b : Nat} {t : List Nd} {k : Nat} (hi : lightTo t k) (hk : t.length ≤ k) (hl : t.length ≤ b) : heavyB b t = false := by
  unfold heavyB
  rw [Bool.or_eq_false_iff]
  refine ⟨by simpa using hl, ?_⟩
  rw [List.any_eq_false]
  intro n hn
  obtain ⟨i, hlt, rfl⟩ := List.mem_iff_getElem.1 hn
  have := hi i (by omega)
  have e : nth t i = t[i] := by simp [nth, hlt]
  rw [e] at this
  simp
  omega
theorem heavy_false {b : Nat} {t : List Nd} (h : heavyB b t = false) : t.length ≤ b ∧ sml t := by
  unfold heavyB at h
  rw [Bool.or_eq_false_iff] at h
  refine ⟨by simpa using h.1, fun k hk => ?_⟩
  have := List.any_eq_false.1 h.2 _ (nth_mem hk)
  simp at this
  omega
theorem flat_step {p : List Sl} {k : Nat} (h : k < p.length) : (lsts (p.take (k + 1))).flatten = (lsts (p.take k)).flatten ++ (nthS p k).2.2 := by
  have e : p.take (k + 1) = p.take k ++ [nthS p k] := by
    rw [List.take_add_one, List.getElem?_eq_getElem h]
    simp [nthS, h]
  rw [e]
  simp only [lsts, List.map_append, List.flatten_append, List.map_cons, List.map_nil, List.flatten_cons, List.flatten_nil, List.append_nil]
theorem flat_le {p : List Sl} {k b : Nat} (hb : ∀ s ∈ p, s.2.2.length ≤ b) (h : k ≤ p.length) : (lsts (p.take k)).flatten.length ≤ k * b ∧ (nthS p k).2.2.length ≤ b := by
  constructor
  · induction k with
    | zero => simp [lsts]
    | succ k ih =>
      rw [flat_step (by omega), List.length_append, Nat.add_mul]
      have := ih (by omega)
      have := hb _ (nthS_mem (t := p) (k := k) (by omega))
      omega
  · by_cases hk : k < p.length
    · exact hb _ (nthS_mem hk)
    · have : nthS p k = slz := by simp [nthS, List.getD_eq_getElem?_getD, List.getElem?_eq_none (by omega : p.length ≤ k)]
      rw [this]
      simp [slz]
theorem sml_tick : sml [(⟨29, 0, 0, ⟨#[]⟩⟩ : Nd)] := fun k hk => by
  have : k = 0 := by simpa using hk
  subst this
  decide
theorem chk_tick : chk [(⟨29, 0, 0, ⟨#[]⟩⟩ : Nd)] = 0 := chk_ok.2 ⟨.mk ⟨29, 0, 0, ⟨#[]⟩⟩ [], by decide, by simp [T.flat, T.flats], by simp, by simp [T.deep, T.deeps]⟩
theorem chk_nat : chk [(⟨10, 0, 0, ⟨#[]⟩⟩ : Nd)] = 0 := chk_ok.2 ⟨.mk ⟨10, 0, 0, ⟨#[]⟩⟩ [], by decide, by simp [T.flat, T.flats], by simp, by simp [T.deep, T.deeps]⟩
theorem chk_v3 : chk [(⟨0, 3, 0, ⟨#[]⟩⟩ : Nd)] = 0 := chk_ok.2 ⟨.mk ⟨0, 3, 0, ⟨#[]⟩⟩ [], by decide, by simp [T.flat, T.flats], by simp, by simp [T.deep, T.deeps]⟩
theorem sml_nat : sml [(⟨10, 0, 0, ⟨#[]⟩⟩ : Nd)] := fun k hk => by
  have : k = 0 := by simpa using hk
  subst this
  decide
theorem sml_v3 : sml [(⟨0, 3, 0, ⟨#[]⟩⟩ : Nd)] := fun k hk => by
  have : k = 0 := by simpa using hk
  subst this
  decide
theorem nth_one (n : Nd) : nth [n] ([n].length - 1) = n := rfl
theorem root_tick : nth [(⟨29, 0, 0, ⟨#[]⟩⟩ : Nd)] 0 = ⟨29, 0, 0, ⟨#[]⟩⟩ := rfl
theorem root_nat : nth [(⟨10, 0, 0, ⟨#[]⟩⟩ : Nd)] 0 = ⟨10, 0, 0, ⟨#[]⟩⟩ := rfl
theorem root_v3 : nth [(⟨0, 3, 0, ⟨#[]⟩⟩ : Nd)] 0 = ⟨0, 3, 0, ⟨#[]⟩⟩ := rfl
theorem many_tick {n : Nd} (h : n.K = 29) : many n = 0 := by simp [many, binds, h, shp]
theorem tick_only {t : List Nd} (h : chk t = 0) : ¬ (nth t (t.length - 1)).K = 29 ∨ [(⟨29, 0, 0, ⟨#[]⟩⟩ : Nd)] = t := by
  by_cases hk : (nth t (t.length - 1)).K = 29
  · right
    obtain ⟨⟨n, l⟩, hw, rfl, _⟩ := chk_ok.1 h
    have hr : nth (T.mk n l).flat ((T.mk n l).flat.length - 1) = n := by simp [T.flat_mk, nth]
    rw [hr] at hk
    rw [T.wf_mk] at hw
    simp only [Bool.and_eq_true, beq_iff_eq] at hw
    have hm := many_tick hk
    rw [hm] at hw
    have hl : l = [] := List.eq_nil_of_length_eq_zero hw.1.2.symm
    subst hl
    have hp : plainB n = true := by rw [← right_plain (by omega) (by omega) (by omega)]; exact hw.1.1
    simp only [plainB, Bool.and_eq_true, decide_eq_true_eq] at hp
    obtain ⟨K, N, M, S⟩ := n
    obtain ⟨⟨h1, h2⟩, h3⟩ := hp
    simp only at hk h1 h2 h3
    subst hk h1 h2 h3
    simp [T.flat, T.flats]
  · exact .inl hk
end Go.Proofs.YtobgdeffhdefeaaDoor
