import Derived.Test.YtobgdeffhdefeaaDoorPla
/- Plain laws of measures: where each node's term begins, and how deep it is. -/
namespace Go.Proofs.YtobgdeffhdefeaaDoor
set_option linter.unusedSimpArgs false
set_option linter.unusedVariables false
def meas (o : Int) : List T → List (Int × Int)
  | [] => []
  | t :: l => (o, (t.deep : Int)) :: meas (o + t.flat.length) l
mutual
def allT (o : Int) : T → List (Int × Int)
  | .mk _ l => allTs o l ++ [(o, ((T.deeps l + 1 : Nat) : Int))]
def allTs (o : Int) : List T → List (Int × Int)
  | [] => []
  | t :: l => allT o t ++ allTs (o + t.flat.length) l
end
theorem meas_length (o : Int) (l : List T) : (meas o l).length = l.length := by
  induction l generalizing o with
  | nil => rfl
  | cons t l ih => simp [meas, ih]
theorem meas_append (o : Int) (a b : List T) : meas o (a ++ b) = meas o a ++ meas (o + (T.flats a).length) b := by
  induction a generalizing o with
  | nil => simp [meas, T.flats_nil]
  | cons t a ih => simp [meas, ih, T.flats_cons, Int.add_assoc]
theorem allTs_append (o : Int) (a b : List T) : allTs o (a ++ b) = allTs o a ++ allTs (o + (T.flats a).length) b := by
  induction a generalizing o with
  | nil => simp [allTs, T.flats_nil]
  | cons t a ih => simp [allTs, ih, T.flats_cons, Int.add_assoc]
mutual
theorem allT_length (o : Int) : ∀ t : T, (allT o t).length = t.flat.length
  | .mk n l => by
    simp only [allT, T.flat_mk, List.length_append, allTs_length o l]
    rfl
theorem allTs_length (o : Int) : ∀ l : List T, (allTs o l).length = (T.flats l).length
  | [] => by simp [allTs, T.flats_nil]
  | t :: l => by simp only [allTs, T.flats_cons, List.length_append, allT_length o t, allTs_length _ l]
end
theorem deep_mk (n : Nd) (l : List T) : (T.mk n l).deep = T.deeps l + 1 := by simp [T.deep]
theorem deeps_le {t : T} {l : List T} (h : t ∈ l) : t.deep ≤ T.deeps l := by
  induction l with
  | nil => cases h
  | cons u l ih =>
    simp only [T.deeps]
    rcases List.mem_cons.1 h with rfl | h
    · omega
    · have := ih h; omega
mutual
theorem deep_flat : ∀ t : T, t.deep ≤ t.flat.length
  | .mk n l => by
    have := deeps_flat l
    simp only [T.deep, T.flat_mk, List.length_append, List.length_singleton]
    omega
theorem deeps_flat : ∀ l : List T, T.deeps l ≤ (T.flats l).length
  | [] => by simp [T.deeps]
  | t :: l => by
    have h1 := deep_flat t
    have h2 := deeps_flat l
    simp only [T.deeps, T.flats_cons, List.length_append]
    omega
end
def fromQ (k : Nat) (L : List (Int × Int)) (b q : Nat) : Int := if q = 0 then k else (nthM L b).1
def deepQ (L : List (Int × Int)) (b : Nat) : Nat → Int
  | 0 => 1
  | q + 1 => max (deepQ L b q) ((nthM L (b + q)).2 + 1)
theorem nthM_meas {st : List T} {i : Nat} (h : i < st.length) : ∃ o, nthM (meas 0 st) i = (o, (st[i].deep : Int)) ∧ o = ((T.flats (st.take i)).length : Int) := by
  have h1 : meas 0 st = meas 0 (st.take i) ++ meas (0 + (T.flats (st.take i)).length) (st.drop i) := by
    rw [← meas_append, List.take_append_drop]
  have h2 : st.drop i = st[i] :: st.drop (i + 1) := List.drop_eq_getElem_cons h
  have hl : (meas 0 (st.take i)).length = i := by rw [meas_length, List.length_take]; omega
  refine ⟨_, ?_, rfl⟩
  rw [nthM, h1, h2, meas, List.getD_eq_getElem?_getD, List.getElem?_append_right (by omega), hl]
  simp
theorem meas_deep_le {st : List T} {i : Nat} : 0 ≤ (nthM (meas 0 st) i).2 ∧ (nthM (meas 0 st) i).2 ≤ (T.flats st).length := by
  by_cases h : i < st.length
  · obtain ⟨o, h1, _⟩ := nthM_meas h
    rw [h1]
    have h2 := deeps_le (List.getElem_mem h)
    have h3 := deeps_flat st
    constructor
    · simp
    · simp only
      omega
  · have : nthM (meas 0 st) i = (0, 0) := by
      rw [nthM, List.getD_eq_getElem?_getD, List.getElem?_eq_none (by rw [meas_length]; omega)]
      rfl
    rw [this]
    simp
theorem deepQ_le {st : List T} {b q : Nat} : 1 ≤ deepQ (meas 0 st) b q ∧ deepQ (meas 0 st) b q ≤ (T.flats st).length + 1 := by
  induction q with
  | zero => simp only [deepQ]; omega
  | succ q ih =>
    have := meas_deep_le (st := st) (i := b + q)
    simp only [deepQ]
    omega
theorem deepQ_drop {st : List T} {b : Nat} : ∀ {q : Nat}, b + q ≤ st.length → deepQ (meas 0 st) b q = ((T.deeps ((st.drop b).take q) + 1 : Nat) : Int)
  | 0, _ => by simp [deepQ, T.deeps]
  | q + 1, h => by
    have ih := deepQ_drop (st := st) (b := b) (q := q) (by omega)
    obtain ⟨o, h1, _⟩ := nthM_meas (st := st) (i := b + q) (by omega)
    have ht : (st.drop b).take (q + 1) = (st.drop b).take q ++ [st[b + q]] := by
      rw [List.take_add_one, List.getElem?_drop, List.getElem?_eq_getElem (by omega)]
      rfl
    have hd : ∀ a b : List T, T.deeps (a ++ b) = max (T.deeps a) (T.deeps b) := by
      intro a b
      induction a with
      | nil => simp [T.deeps]
      | cons t a ih => simp [T.deeps, ih, Nat.max_assoc]
    simp only [deepQ, ih, h1, ht, hd, T.deeps]
    omega
/-- A stack, and one node more. -/
theorem push_meas {st st' : List T} {n : Nd} {k : Nat} (h : pushT st n = some st') (hk : (T.flats st).length = k) :
    meas 0 st' = (meas 0 st).take (st.length - many n) ++ [(fromQ k (meas 0 st) (st.length - many n) (many n), deepQ (meas 0 st) (st.length - many n) (many n))] ∧
    allTs 0 st' = allTs 0 st ++ [(fromQ k (meas 0 st) (st.length - many n) (many n), deepQ (meas 0 st) (st.length - many n) (many n))] := by
  unfold pushT at h
  split at h
  · rename_i hc
    simp only [Bool.and_eq_true, decide_eq_true_eq] at hc
    obtain rfl := Option.some.inj h
    have hb : st.length - many n + many n ≤ st.length := by omega
    have hd := deepQ_drop hb
    rw [List.take_of_length_le (by rw [List.length_drop]; omega)] at hd
    rw [hd]
    have hf : fromQ k (meas 0 st) (st.length - many n) (many n) = 0 + ((T.flats (st.take (st.length - many n))).length : Int) := by
      unfold fromQ
      split
      · rename_i h0
        rw [h0, Nat.sub_zero, List.take_length, hk]
        omega
      · obtain ⟨o, h1, h2⟩ := nthM_meas (st := st) (i := st.length - many n) (by omega)
        rw [h1, h2]
        omega
    have e1 : (meas 0 st).take (st.length - many n) = meas 0 (st.take (st.length - many n)) := by
      have hm : meas 0 st = meas 0 (st.take (st.length - many n)) ++ meas (0 + (T.flats (st.take (st.length - many n))).length) (st.drop (st.length - many n)) := by
        rw [← meas_append, List.take_append_drop]
      rw [hm, List.take_left' (by rw [meas_length, List.length_take]; omega)]
    have e2 : allTs 0 st = allTs 0 (st.take (st.length - many n)) ++ allTs (0 + (T.flats (st.take (st.length - many n))).length) (st.drop (st.length - many n)) := by
      rw [← allTs_append, List.take_append_drop]
    constructor
    · rw [meas_append, hf, e1]
      simp [meas, deep_mk]
    · rw [allTs_append, hf, e2, List.append_assoc]
      simp [allTs, allT]
  · cases h
def measL (t : List Nd) : List (Int × Int) := match scanT [] t with
  | some st => allTs 0 st
  | none => []
def measB (t : List Nd) : Bool := match scanT [] t with
  | some [_] => true
  | _ => false
theorem take_nth {t : List Nd} {k : Nat} (h : k < t.length) : t.take (k + 1) = t.take k ++ [nth t k] := by
  rw [List.take_add_one, List.getElem?_eq_getElem h]
  simp [nth, h]
theorem scan_step {t : List Nd} {k : Nat} {st : List T} (h : scanT [] (t.take k) = some st) (hk : k < t.length) : scanT [] (t.take (k + 1)) = pushT st (nth t k) := by
  rw [take_nth hk, scanT_append, h]
  simp only [Option.bind_some, scanT]
  cases pushT st (nth t k) <;> rfl
theorem scan_none {t : List Nd} {k : Nat} {st : List T} (h : scanT [] (t.take k) = some st) (hk : k < t.length) (hp : pushT st (nth t k) = none) : scanT [] t = none := by
  have : t = t.take (k + 1) ++ t.drop (k + 1) := (List.take_append_drop _ _).symm
  rw [this, scanT_append, scan_step h hk, hp]
  rfl
theorem scan_flats {t : List Nd} {k : Nat} {st : List T} (h : scanT [] (t.take k) = some st) (hk : k ≤ t.length) : (T.flats st).length = k := by
  rw [(scanT_flat h (by simp [T.wfs])).1]
  simp [T.flats_nil, hk]
theorem push_none {st : List T} {n : Nd} (h : right n = false ∨ st.length < many n) : pushT st n = none := by
  unfold pushT
  rw [if_neg]
  simp only [Bool.and_eq_true, decide_eq_true_eq]
  rintro ⟨h1, h2⟩
  rcases h with h | h
  · rw [h1] at h; cases h
  · omega
theorem push_some {st : List T} {n : Nd} (h : right n = true) (h2 : many n ≤ st.length) : ∃ st', pushT st n = some st' ∧ st'.length = st.length - many n + 1 := by
  unfold pushT
  rw [if_pos (by simp [h, h2])]
  exact ⟨_, rfl, by simp⟩
/-- Strings of nodes are no longer than any that is. -/
def sml (t : List Nd) : Prop := ∀ k, k < t.length → (nth t k).S.size < 1000000
theorem measL_end {t : List Nd} {st : List T} (h : scanT [] t = some st) : measL t = allTs 0 st := by
  unfold measL
  rw [h]
theorem measB_end {t : List Nd} {st : List T} (h : scanT [] t = some st) : measB t = decide (((st.length : Nat) : Int) = 1) := by
  unfold measB
  rw [h]
  cases st with
  | nil => rfl
  | cons a l => cases l with
    | nil => simp
    | cons b l => simp; omega
theorem meas_bad {t : List Nd} (h : scanT [] t = none) : measL t = [] ∧ measB t = false := by
  unfold measL measB
  rw [h]
  exact ⟨rfl, rfl⟩
theorem measB_tree {t : List Nd} (h : measB t = true) : ∃ x : T, scanT [] t = some [x] ∧ measL t = allT 0 x ∧ x.wf = true ∧ x.flat = t := by
  unfold measB at h
  split at h
  · rename_i x hs
    have := scanT_flat hs (by simp [T.wfs])
    simp [T.flats, T.wfs] at this
    exact ⟨x, hs, by unfold measL; rw [hs]; simp [allTs], this.2, this.1⟩
  · cases h
theorem allT_last (x : T) : nthM (allT 0 x) ((allT 0 x).length - 1) = (0, (x.deep : Int)) ∧ 0 < (allT 0 x).length := by
  cases x with
  | mk n l =>
    simp only [allT, deep_mk]
    constructor
    · simp [nthM]
    · simp
theorem measL_pos {t : List Nd} (h : measB t = true) : 0 < (measL t).length := by
  obtain ⟨x, _, h2, _⟩ := measB_tree h
  rw [h2]
  exact (allT_last x).2
theorem measL_length {t : List Nd} (h : measB t = true) : (measL t).length = t.length := by
  obtain ⟨x, _, h2, _, h4⟩ := measB_tree h
  rw [h2, allT_length, h4]
theorem chk_form {t : List Nd} (hl : t.length ≤ 4000) (h : measB t = false) : chk t = 20 := by
  unfold chk
  rw [if_neg (by omega)]
  unfold measB at h
  rcases hs : scanT [] t with _ | _ | ⟨x, _ | ⟨y, l⟩⟩
  · rfl
  · rfl
  · rw [hs] at h; cases h
  · rfl
theorem chk_deep {t : List Nd} (hl : t.length ≤ 4000) (h : measB t = true) (hd : 60 < (nthM (measL t) ((measL t).length - 1)).2) : chk t = 22 := by
  obtain ⟨x, hs, h2, _⟩ := measB_tree h
  rw [h2, (allT_last x).1] at hd
  unfold chk
  rw [if_neg (by omega), hs]
  simp only
  rw [if_pos]
  simp only at hd
  omega
theorem chk_good {t : List Nd} (hl : t.length ≤ 4000) (h : measB t = true) (hd : ¬ 60 < (nthM (measL t) ((measL t).length - 1)).2) : chk t = 0 := by
  obtain ⟨x, hs, h2, _⟩ := measB_tree h
  rw [h2, (allT_last x).1] at hd
  unfold chk
  rw [if_neg (by omega), hs]
  simp only
  rw [if_neg]
  simp only at hd
  omega
theorem chk_size {t : List Nd} (hl : 4000 < t.length) : chk t = 21 := by
  unfold chk
  rw [if_pos (by omega)]
def lookL (t : List Nd) : List (Int × Int) := if chk t = 0 then measL t else []
theorem lookL_bad {t : List Nd} (h : ¬ chk t = 0) : lookL t = [] := by unfold lookL; rw [if_neg h]
theorem lookL_good {t : List Nd} (h : chk t = 0) : lookL t = measL t := by unfold lookL; rw [if_pos h]
theorem chk_pos {t : List Nd} (h : chk t = 0) : 0 < t.length := by
  obtain ⟨x, _, rfl, _⟩ := chk_ok.1 h
  exact T.flat_pos x
end Go.Proofs.YtobgdeffhdefeaaDoor
