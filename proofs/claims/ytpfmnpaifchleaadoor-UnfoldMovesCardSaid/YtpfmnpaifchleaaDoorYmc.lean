import Derived.Test.YtpfmnpaifchleaaDoorYmb
namespace Go.Proofs.YtpfmnpaifchleaaDoor
set_option linter.unusedSimpArgs false
set_option linter.unusedVariables false
section
/- Parts of terms that are checked, and their places in what is made of all parts; terms that differ in their proofs. -/
theorem ptL_chk {t p : List Nd} (h : chk t = 0) (hp : p ∈ ptL t) : chk p = 0 := by
 obtain ⟨hw, hf, hd, hl⟩ := treeOf_ok h
 obtain ⟨n, l, hx, _, _, h3, _, _, _, _⟩ := tree_parts (meas_chk h)
 have h4 := (ptL_mem (meas_chk h) hp).2.1
 unfold ptL at hp
 rw [hx] at hp hd
 obtain ⟨y, hy, rfl⟩ := List.mem_map.1 hp
 simp only [T.args] at hy
 have h5 := deeps_le hy
 rw [deep_mk] at hd
 exact chk_flat ((T.wfs_iff l).1 h3 y hy) (by omega) (by omega)
def marks (t : List Nd) : Nat := t.countP fun n => decide (n.K = 28)
def subL (p t : List Nd) : List Nd := t.flatMap fun n => if n.K = 29 then p ++ [prfN] else [n]
theorem subL_append (p a b : List Nd) : subL p (a ++ b) = subL p a ++ subL p b := by simp [subL]
mutual
def subT (p : T) : T → T
 | .mk n l => if n.K = 29 then .mk prfN [p] else .mk n (subTs p l)
def subTs (p : T) : List T → List T
 | [] => []
 | t :: l => subT p t :: subTs p l
end
theorem many_29 {n : Nd} (h : n.K = 29) : many n = 0 := many_tick h
theorem nil_of_many {n : Nd} {l : List T} (hw : (T.mk n l).wf = true) (h : n.K = 29) : l = [] ∧ n = tick := by
 obtain ⟨h1, h2, _⟩ := wf_parts hw
 have hl : l = [] := List.eq_nil_of_length_eq_zero (by rw [← h2, many_29 h])
 refine ⟨hl, ?_⟩
 have hp : plainB n = true := by rw [← right_plain (by omega) (by omega) (by omega)]; exact h1
 simp only [plainB, Bool.and_eq_true, decide_eq_true_eq] at hp
 obtain ⟨K, N, M, S⟩ := n
 obtain ⟨⟨h3, h4⟩, h5⟩ := hp
 simp only at h h3 h4 h5
 subst h h3 h4 h5
 rfl
mutual
theorem subT_flat (p : T) : ∀ x : T, x.wf = true → (subT p x).flat = subL p.flat x.flat
 | .mk n l, hw => by
  by_cases hk : n.K = 29
  ·
   obtain ⟨rfl, rfl⟩ := nil_of_many hw hk
   simp [subT, T.flat_mk, T.flats_nil, T.flats_one, subL]
  ·
   simp only [subT, hk, if_false, T.flat_mk, subL_append]
   rw [subTs_flat p l (wf_parts hw).2.2]
   simp [subL, hk]
theorem subTs_flat (p : T) : ∀ l : List T, T.wfs l = true → T.flats (subTs p l) = subL p.flat (T.flats l)
 | [], _ => by simp [subTs, T.flats_nil, subL]
 | y :: l, hw => by
  obtain ⟨h1, h2⟩ := wf_cons hw
  simp only [subTs, T.flats_cons, subL_append]
  rw [subT_flat p y h1, subTs_flat p l h2]
end
mutual
theorem subT_ok (p : T) (hp : p.wf = true) : ∀ x : T, x.wf = true → (∀ n ∈ x.flat, n.K ≠ 28) → (subT p x).wf = true ∧ erT (subT p x) = x
 | .mk n l, hw, hn => by
  by_cases hk : n.K = 29
  ·
   obtain ⟨rfl, rfl⟩ := nil_of_many hw hk
   refine ⟨?_, ?_⟩
   ·
    simp only [subT, if_true, T.wf_mk, T.wfs, hp]
    show (right prfN && many prfN == 1 && (true && true)) = true
    decide
   · simp [subT, erT]
  ·
   have hk2 : n.K ≠ 28 := hn n (by simp [T.flat_mk])
   obtain ⟨h1, h2, h3⟩ := wf_parts hw
   obtain ⟨h4, h5, h6⟩ := subTs_ok p hp l h3 (fun m hm => hn m (by simp [T.flat_mk, hm]))
   simp only [subT, hk, if_false, erT, hk2, T.wf_mk, Bool.and_eq_true, beq_iff_eq, h5]
   exact ⟨⟨⟨h1, by omega⟩, h4⟩, trivial⟩
theorem subTs_ok (p : T) (hp : p.wf = true) : ∀ l : List T, T.wfs l = true → (∀ n ∈ T.flats l, n.K ≠ 28) → T.wfs (subTs p l) = true ∧ erTs (subTs p l) = l ∧ (subTs p l).length = l.length
 | [], _, _ => by simp [subTs, T.wfs, erTs]
 | y :: l, hw, hn => by
  obtain ⟨h1, h2⟩ := wf_cons hw
  obtain ⟨a1, a2⟩ := subT_ok p hp y h1 (fun m hm => hn m (by simp [T.flats_cons, hm]))
  obtain ⟨b1, b2, b3⟩ := subTs_ok p hp l h2 (fun m hm => hn m (by simp [T.flats_cons, hm]))
  simp [subTs, T.wfs, erTs, a1, a2, b1, b2, b3]
end
theorem alike {t p : List Nd} (ht : chk t = 0) (hp : chk p = 0) (hu : chk (subL p (erA t)) = 0) : erA (subL p (erA t)) = erA t := by
 obtain ⟨w1, f1, _, _⟩ := treeOf_ok ht
 obtain ⟨w2, f2, _, _⟩ := treeOf_ok hp
 obtain ⟨e1, _, _⟩ := erT_ok _ w1
 obtain ⟨s1, s2⟩ := subT_ok _ w2 _ e1 (erT_no (treeOf t))
 have h3 := subT_flat (treeOf p) _ e1
 rw [f2] at h3
 rw [erA_ok hu]
 rw [erA_ok ht] at hu ⊢
 show (erT (treeOf (subL p (erT (treeOf t)).flat))).flat = (erT (treeOf t)).flat
 rw [← h3, treeOf_flat s1, s2]
mutual
def usT (k u : Int) : T → Nat
 | .mk n l => if n.K = 0 then (if 0 ≤ n.N - u ∧ (k < 0 ∨ n.N - u = k) then 1 else 0) else usTs k l ((binds n).map (u + ·))
def usTs (k : Int) : List T → List Int → Nat
 | [], _ => 0
 | _ :: _, [] => 0
 | t :: l, u :: us => usT k u t + usTs k l us
end
mutual
def moT (k u : Int) : T → Int
 | .mk n l => if n.K = 0 then (if 0 ≤ n.N - u ∧ (k < 0 ∨ n.N - u = k) then n.N - u else -1) else moTs k l ((binds n).map (u + ·))
def moTs (k : Int) : List T → List Int → Int
 | [], _ => -1
 | _ :: _, [] => -1
 | t :: l, u :: us => max (moT k u t) (moTs k l us)
end
def usL (t : List Nd) (k u : Int) : Nat := usT k u (treeOf t)
def moL (t : List Nd) (k u : Int) : Int := moT k u (treeOf t)
def usP (t : List Nd) (k u : Int) (j : Nat) : Nat := usTs k ((treeOf t).args.take j) ((binds (nth t (t.length - 1))).map (u + ·))
def moP (t : List Nd) (k u : Int) (j : Nat) : Int := moTs k ((treeOf t).args.take j) ((binds (nth t (t.length - 1))).map (u + ·))
theorem usTs_snoc (k : Int) : ∀ (l : List T) (t : T) (us : List Int) (u : Int), l.length = us.length → ∀ vs, usTs k (l ++ [t]) (us ++ u :: vs) = usTs k l (us ++ u :: vs) + usT k u t
 | [], t, [], u, _, vs => by simp [usTs]
 | y :: l, t, v :: us, u, h, vs => by
  simp only [List.cons_append, usTs]
  rw [usTs_snoc k l t us u (by simpa using h) vs]
  omega
 | [], _, _ :: _, _, h, _ => by simp at h
 | _ :: _, _, [], _, h, _ => by simp at h
theorem moTs_snoc (k : Int) : ∀ (l : List T) (t : T) (us : List Int) (u : Int), l.length = us.length → ∀ vs, moTs k (l ++ [t]) (us ++ u :: vs) = max (moTs k l (us ++ u :: vs)) (max (moT k u t) (-1))
 | [], t, [], u, _, vs => by simp [moTs]; omega
 | y :: l, t, v :: us, u, h, vs => by
  simp only [List.cons_append, moTs]
  rw [moTs_snoc k l t us u (by simpa using h) vs]
  omega
 | [], _, _ :: _, _, h, _ => by simp at h
 | _ :: _, _, [], _, h, _ => by simp at h
mutual
theorem moT_ge (k : Int) : ∀ (x : T) (u : Int), -1 ≤ moT k u x
 | .mk n l, u => by
  simp only [moT]
  split
  · split <;> omega
  · exact moTs_ge k l _
theorem moTs_ge (k : Int) : ∀ (l : List T) (us : List Int), -1 ≤ moTs k l us
 | [], us => by simp [moTs]
 | y :: l, [] => by simp [moTs]
 | y :: l, u :: us => by
  simp only [moTs]
  have := moTs_ge k l us
  omega
end
theorem split_at {α : Type} {l : List α} {j : Nat} (h : j < l.length) : l = l.take j ++ l[j] :: l.drop (j + 1) := by
 rw [← List.drop_eq_getElem_cons h, List.take_append_drop]
theorem ptL_nth {t : List Nd} {j : Nat} (h : measB t = true) (hj : j < (ptL t).length) : ∃ hj' : j < (treeOf t).args.length, nthL (ptL t) j = ((treeOf t).args[j]).flat ∧ treeOf (nthL (ptL t) j) = (treeOf t).args[j] := by
 obtain ⟨n, l, hx, _, _, h3, _, _, _, _⟩ := tree_parts h
 have hj' : j < (treeOf t).args.length := by simpa [ptL] using hj
 have e : nthL (ptL t) j = ((treeOf t).args[j]).flat := by simp [nthL, ptL, hj']
 refine ⟨hj', e, ?_⟩
 rw [e, treeOf_flat]
 have : (treeOf t).args = l := by rw [hx]; rfl
 exact (T.wfs_iff l).1 h3 _ (by rw [← this]; exact List.getElem_mem hj')
theorem binds_at {t : List Nd} {j : Nat} (h : measB t = true) (hj : j < (ptL t).length) (u : Int) : ((binds (nth t (t.length - 1))).map (u + ·)) = ((binds (nth t (t.length - 1))).map (u + ·)).take j ++ (u + nthI (binds (nth t (t.length - 1))) j) :: ((binds (nth t (t.length - 1))).map (u + ·)).drop (j + 1) := by
 have hl : j < (binds (nth t (t.length - 1))).length := by rw [ptL_length h] at hj; exact hj
 have := split_at (l := (binds (nth t (t.length - 1))).map (u + ·)) (j := j) (by simpa using hl)
 rw [List.getElem_map] at this
 have e : nthI (binds (nth t (t.length - 1))) j = (binds (nth t (t.length - 1)))[j] := by simp [nthI, hl]
 rw [e]
 exact this
theorem us_step {t : List Nd} {k u : Int} {j : Nat} (h : measB t = true) (hj : j < (ptL t).length) :
  usP t k u (j + 1) = usP t k u j + usL (nthL (ptL t) j) k (u + nthI (binds (nth t (t.length - 1))) j) ∧
  moP t k u (j + 1) = max (moP t k u j) (moL (nthL (ptL t) j) k (u + nthI (binds (nth t (t.length - 1))) j)) := by
 obtain ⟨hj', e1, e2⟩ := ptL_nth h hj
 have hb := binds_at h hj u
 have hl : j < (binds (nth t (t.length - 1))).length := by rw [ptL_length h] at hj; exact hj
 have ht : (treeOf t).args.take (j + 1) = (treeOf t).args.take j ++ [(treeOf t).args[j]] := by
  rw [List.take_add_one, List.getElem?_eq_getElem hj']; rfl
 have hlen : ((treeOf t).args.take j).length = (((binds (nth t (t.length - 1))).map (u + ·)).take j).length := by
  rw [List.length_take, List.length_take, List.length_map]
  have := root_many h
  have : (binds (nth t (t.length - 1))).length = (treeOf t).args.length := this
  omega
 unfold usP moP usL moL
 rw [ht, e2]
 constructor
 · rw [hb, usTs_snoc k _ _ _ _ hlen]
 ·
  rw [hb, moTs_snoc k _ _ _ _ hlen]
  have := moT_ge k ((treeOf t).args[j]) (u + nthI (binds (nth t (t.length - 1))) j)
  omega
theorem us_root {t : List Nd} {k u : Int} (h : measB t = true) (hk : ¬ (nth t (t.length - 1)).K = 0) : usL t k u = usP t k u (ptL t).length ∧ moL t k u = moP t k u (ptL t).length := by
 obtain ⟨n, l, hx, _, _, _, _, h5, _, _⟩ := tree_parts h
 rw [h5] at hk
 unfold usL moL usP moP ptL
 rw [hx, h5]
 simp only [T.args, List.length_map, List.take_length, usT, moT, hk, if_false, and_self]
theorem us_var {t : List Nd} {k u : Int} (h : measB t = true) (hk : (nth t (t.length - 1)).K = 0) :
  usL t k u = (if 0 ≤ (nth t (t.length - 1)).N - u ∧ (k < 0 ∨ (nth t (t.length - 1)).N - u = k) then 1 else 0) ∧
  moL t k u = (if 0 ≤ (nth t (t.length - 1)).N - u ∧ (k < 0 ∨ (nth t (t.length - 1)).N - u = k) then (nth t (t.length - 1)).N - u else -1) := by
 obtain ⟨n, l, hx, _, _, _, _, h5, _, _⟩ := tree_parts h
 rw [h5] at hk ⊢
 unfold usL moL
 rw [hx]
 simp only [usT, moT, hk, if_true, and_self]
mutual
theorem us_le (k : Int) : ∀ (x : T) (u : Int), usT k u x ≤ x.flat.length
 | .mk n l, u => by
  simp only [usT, T.flat_mk, List.length_append, List.length_singleton]
  split
  · split <;> omega
  · have := uss_le k l ((binds n).map (u + ·)); omega
theorem uss_le (k : Int) : ∀ (l : List T) (us : List Int), usTs k l us ≤ (T.flats l).length
 | [], us => by simp [usTs]
 | y :: l, [] => by simp [usTs]
 | y :: l, u :: us => by
  simp only [usTs, T.flats_cons, List.length_append]
  have := us_le k y u
  have := uss_le k l us
  omega
end
theorem usL_le {t : List Nd} (h : measB t = true) (k u : Int) : usL t k u ≤ t.length := by
 have := us_le k (treeOf t) u
 rw [(treeOf_meas h).2] at this
 exact this
mutual
theorem usTs_take (k : Int) : ∀ (l : List T) (us : List Int) (j : Nat), usTs k (l.take j) us ≤ (T.flats l).length
 | [], us, j => by simp [usTs]
 | y :: l, us, 0 => by simp [usTs]
 | y :: l, [], j + 1 => by simp [usTs]
 | y :: l, u :: us, j + 1 => by
  simp only [List.take_succ_cons, usTs, T.flats_cons, List.length_append]
  have := us_le k y u
  have := usTs_take k l us j
  omega
end
theorem usP_le {t : List Nd} (h : measB t = true) (k u : Int) (j : Nat) : usP t k u j ≤ t.length := by
 obtain ⟨n, l, hx, _, _, _, _, _, h6, _⟩ := tree_parts h
 unfold usP
 have := usTs_take k (treeOf t).args ((binds (nth t (t.length - 1))).map (u + ·)) j
 rw [hx] at this ⊢
 simp only [T.args] at this ⊢
 omega
theorem var_at {t : List Nd} (h : measB t = true) (hk : (nth t (t.length - 1)).K = 0) : 0 ≤ (nth t (t.length - 1)).N ∧ (nth t (t.length - 1)).N ≤ 99 := by
 have h1 := right_at h (show t.length - 1 < t.length by have := meas_pos h; omega)
 rw [right_var hk, decide_eq_true_eq] at h1
 exact ⟨h1.1, h1.2.1⟩
end
section
/- Terms in which variables give way to something, under binders: shifts and substitutions; trees and lists. -/
abbrev VR := Nd → Int → Int × T
mutual
def trE (V : VR) (u : Int) : T → Int
 | .mk n l => if n.K = 0 then (V n u).1 else trEs V l ((binds n).map (u + ·))
def trEs (V : VR) : List T → List Int → Int
 | [], _ => 0
 | _ :: _, [] => 0
 | t :: l, u :: us => if trE V u t = 0 then trEs V l us else trE V u t
end
mutual
def trT (V : VR) (u : Int) : T → T
 | .mk n l => if n.K = 0 then (V n u).2 else .mk n (trTs V l ((binds n).map (u + ·)))
def trTs (V : VR) : List T → List Int → List T
 | [], _ => []
 | _ :: _, [] => []
 | t :: l, u :: us => trT V u t :: trTs V l us
end
def trEL (V : VR) (t : List Nd) (u : Int) : Int := trE V u (treeOf t)
def trL (V : VR) (t : List Nd) (u : Int) : List Nd := if trEL V t u = 0 then (trT V u (treeOf t)).flat else []
def trEP (V : VR) (t : List Nd) (u : Int) (j : Nat) : Int := trEs V ((treeOf t).args.take j) ((binds (nth t (t.length - 1))).map (u + ·))
def trTP (V : VR) (t : List Nd) (u : Int) (j : Nat) : List (List Nd) := (trTs V ((treeOf t).args.take j) ((binds (nth t (t.length - 1))).map (u + ·))).map T.flat
theorem trEs_snoc (V : VR) : ∀ (l : List T) (t : T) (us : List Int) (u : Int), l.length = us.length → ∀ vs, trEs V (l ++ [t]) (us ++ u :: vs) = if trEs V l (us ++ u :: vs) = 0 then trE V u t else trEs V l (us ++ u :: vs)
 | [], t, [], u, _, vs => by
  simp only [List.nil_append, trEs, if_true]
  split
  · rename_i h; exact h.symm
  · rfl
 | y :: l, t, v :: us, u, h, vs => by
  simp only [List.cons_append, trEs]
  rw [trEs_snoc V l t us u (by simpa using h) vs]
  by_cases h1 : trE V v y = 0
  · simp [h1]
  · simp [h1]
 | [], _, _ :: _, _, h, _ => by simp at h
 | _ :: _, _, [], _, h, _ => by simp at h
theorem trTs_snoc (V : VR) : ∀ (l : List T) (t : T) (us : List Int) (u : Int), l.length = us.length → ∀ vs, trTs V (l ++ [t]) (us ++ u :: vs) = trTs V l (us ++ u :: vs) ++ [trT V u t]
 | [], t, [], u, _, vs => by simp [trTs]
 | y :: l, t, v :: us, u, h, vs => by
  simp only [List.cons_append, trTs]
  rw [trTs_snoc V l t us u (by simpa using h) vs]
 | [], _, _ :: _, _, h, _ => by simp at h
 | _ :: _, _, [], _, h, _ => by simp at h
theorem tr_zero (V : VR) (t : List Nd) (u : Int) : trEP V t u 0 = 0 ∧ trTP V t u 0 = [] := by simp [trEP, trTP, trEs, trTs]
theorem tr_snoc {V : VR} {t : List Nd} {u : Int} {j : Nat} (h : measB t = true) (hj : j < (ptL t).length) :
  trEP V t u (j + 1) = (if trEP V t u j = 0 then trEL V (nthL (ptL t) j) (u + nthI (binds (nth t (t.length - 1))) j) else trEP V t u j) ∧
  trTP V t u (j + 1) = trTP V t u j ++ [(trT V (u + nthI (binds (nth t (t.length - 1))) j) (treeOf (nthL (ptL t) j))).flat] := by
 obtain ⟨hj', e1, e2⟩ := ptL_nth h hj
 have hb := binds_at h hj u
 have hl : j < (binds (nth t (t.length - 1))).length := by rw [ptL_length h] at hj; exact hj
 have ht : (treeOf t).args.take (j + 1) = (treeOf t).args.take j ++ [(treeOf t).args[j]] := by
  rw [List.take_add_one, List.getElem?_eq_getElem hj']; rfl
 have hlen : ((treeOf t).args.take j).length = (((binds (nth t (t.length - 1))).map (u + ·)).take j).length := by
  rw [List.length_take, List.length_take, List.length_map]
  have := root_many h
  have : (binds (nth t (t.length - 1))).length = (treeOf t).args.length := this
  omega
 unfold trEP trTP trEL
 rw [ht, e2]
 constructor
 · rw [hb, trEs_snoc V _ _ _ _ hlen]
 ·
  rw [hb, trTs_snoc V _ _ _ _ hlen, List.map_append]
  rfl
theorem tr_step {V : VR} {t : List Nd} {u : Int} {j : Nat} (h : measB t = true) (hj : j < (ptL t).length) (h0 : trEP V t u j = 0) (he : trEL V (nthL (ptL t) j) (u + nthI (binds (nth t (t.length - 1))) j) = 0) :
  trEP V t u (j + 1) = 0 ∧ trTP V t u (j + 1) = trTP V t u j ++ [trL V (nthL (ptL t) j) (u + nthI (binds (nth t (t.length - 1))) j)] := by
 obtain ⟨h1, h2⟩ := tr_snoc (V := V) (u := u) h hj
 rw [if_pos h0] at h1
 refine ⟨h1.trans he, ?_⟩
 rw [h2]
 unfold trL
 rw [if_pos he]
theorem trEs_take (V : VR) : ∀ (l : List T) (us : List Int) (j : Nat), trEs V (l.take j) us ≠ 0 → trEs V l us = trEs V (l.take j) us
 | [], us, j, h => by simp
 | y :: l, us, 0, h => by simp [trEs] at h
 | y :: l, [], j + 1, h => by simp [trEs] at h
 | y :: l, u :: us, j + 1, h => by
  simp only [List.take_succ_cons, trEs] at h ⊢
  by_cases h1 : trE V u y = 0
  ·
   rw [if_pos h1] at h ⊢
   rw [if_pos h1]
   exact trEs_take V l us j h
  · rw [if_neg h1, if_neg h1]
theorem tr_root {V : VR} {t : List Nd} {u : Int} (h : measB t = true) (hk : ¬ (nth t (t.length - 1)).K = 0) : trEL V t u = trEP V t u (ptL t).length ∧ (trT V u (treeOf t)).flat = (trTP V t u (ptL t).length).flatten ++ [nth t (t.length - 1)] := by
 obtain ⟨n, l, hx, _, _, _, _, h5, _, _⟩ := tree_parts h
 rw [h5] at hk
 unfold trEL trEP trTP ptL
 rw [hx, h5]
 simp only [T.args, List.length_map, List.take_length, trE, trT, hk, if_false, T.flat_mk, true_and]
 rw [← flats_flatten]
theorem tr_err {V : VR} {t : List Nd} {u : Int} {j : Nat} (h : measB t = true) (hk : ¬ (nth t (t.length - 1)).K = 0) (hj : j < (ptL t).length) (h0 : trEP V t u j = 0) (he : ¬ trEL V (nthL (ptL t) j) (u + nthI (binds (nth t (t.length - 1))) j) = 0) :
  trEL V t u = trEL V (nthL (ptL t) j) (u + nthI (binds (nth t (t.length - 1))) j) ∧ trL V t u = [] := by
 obtain ⟨h1, _⟩ := tr_snoc (V := V) (u := u) h hj
 rw [if_pos h0] at h1
 have h2 : trEL V t u = trEP V t u (j + 1) := by
  rw [(tr_root h hk).1]
  unfold trEP ptL
  rw [List.length_map, List.take_length]
  exact trEs_take V _ _ _ (by have := h1 ▸ he; exact this)
 rw [h1] at h2
 refine ⟨h2, ?_⟩
 unfold trL
 rw [if_neg (by rw [h2]; exact he)]
theorem tr_done {V : VR} {t : List Nd} {u : Int} (h : measB t = true) (hk : ¬ (nth t (t.length - 1)).K = 0) (h0 : trEP V t u (ptL t).length = 0) :
  trEL V t u = 0 ∧ trL V t u = (trTP V t u (ptL t).length).flatten ++ [nth t (t.length - 1)] := by
 obtain ⟨h1, h2⟩ := tr_root (V := V) (u := u) h hk
 have h3 : trEL V t u = 0 := h1.trans h0
 refine ⟨h3, ?_⟩
 unfold trL
 rw [if_pos h3, h2]
theorem tr_var {V : VR} {t : List Nd} {u : Int} (h : measB t = true) (hk : (nth t (t.length - 1)).K = 0) : trEL V t u = (V (nth t (t.length - 1)) u).1 ∧ trL V t u = (if (V (nth t (t.length - 1)) u).1 = 0 then (V (nth t (t.length - 1)) u).2.flat else []) ∧ t = [nth t (t.length - 1)] := by
 obtain ⟨n, l, hx, h1, h2, _, h4, h5, _, _⟩ := tree_parts h
 rw [h5] at hk ⊢
 have hE : trEL V t u = (V n u).1 := by unfold trEL; rw [hx]; simp [trE, hk]
 refine ⟨hE, ?_, ?_⟩
 ·
  unfold trL
  rw [hE, hx]
  simp [trT, hk]
 ·
  have hl : l = [] := List.eq_nil_of_length_eq_zero (by rw [← h2]; simp [many, binds, hk, shp])
  rw [h4, hl]
  simp [T.flats_nil]
mutual
theorem tr_len {V : VR} {b : Nat} (hb : 1 ≤ b) (hV : ∀ n u, (V n u).1 = 0 → (V n u).2.flat.length ≤ b) : ∀ (x : T) (u : Int), trE V u x = 0 → (trT V u x).flat.length ≤ x.flat.length * b
 | .mk n l, u, h => by
  by_cases hk : n.K = 0
  ·
   simp only [trE, trT, hk, if_true] at h ⊢
   have := hV n u h
   have h2 := Nat.mul_le_mul_right b (T.flat_pos (.mk n l))
   omega
  ·
   simp only [trE, trT, hk, if_false, T.flat_mk, List.length_append, List.length_singleton, Nat.add_mul] at h ⊢
   have := tr_lens hb hV l _ h
   omega
theorem tr_lens {V : VR} {b : Nat} (hb : 1 ≤ b) (hV : ∀ n u, (V n u).1 = 0 → (V n u).2.flat.length ≤ b) : ∀ (l : List T) (us : List Int), trEs V l us = 0 → (T.flats (trTs V l us)).length ≤ (T.flats l).length * b
 | [], us, _ => by simp [trTs, T.flats_nil]
 | y :: l, [], _ => by simp [trTs, T.flats_nil]
 | y :: l, u :: us, h => by
  simp only [trEs] at h
  by_cases h1 : trE V u y = 0
  ·
   rw [if_pos h1] at h
   simp only [trTs, T.flats_cons, List.length_append, Nat.add_mul]
   have := tr_len hb hV y u h1
   have := tr_lens hb hV l us h
   omega
  ·
   rw [if_neg h1] at h
   exact absurd h h1
end
def VW (V : VR) : Prop := ∀ n u, right n = true → n.K = 0 → 0 ≤ u → (V n u).1 = 0 → (V n u).2.wf = true
theorem ubinds {u : Int} {n : Nd} (hu : 0 ≤ u) : ∀ v ∈ (binds n).map (u + ·), 0 ≤ v := by
 intro v hv
 obtain ⟨b, hb, rfl⟩ := List.mem_map.1 hv
 have := binds_b n b hb
 omega
mutual
theorem tr_wf {V : VR} (hV : VW V) : ∀ (x : T) (u : Int), x.wf = true → 0 ≤ u → trE V u x = 0 → (trT V u x).wf = true
 | .mk n l, u, hw, hu, h => by
  obtain ⟨h1, h2, h3⟩ := wf_parts hw
  by_cases hk : n.K = 0
  ·
   simp only [trE, trT, hk, if_true] at h ⊢
   exact hV n u h1 hk hu h
  ·
   simp only [trE, trT, hk, if_false, T.wf_mk, Bool.and_eq_true, beq_iff_eq] at h ⊢
   obtain ⟨h4, h5⟩ := tr_wfs hV l ((binds n).map (u + ·)) h3 (ubinds hu) (by simp [← h2, many]) h
   exact ⟨⟨h1, by omega⟩, h4⟩
theorem tr_wfs {V : VR} (hV : VW V) : ∀ (l : List T) (us : List Int), T.wfs l = true → (∀ v ∈ us, 0 ≤ v) → l.length = us.length → trEs V l us = 0 → T.wfs (trTs V l us) = true ∧ (trTs V l us).length = l.length
 | [], us, _, _, _, _ => by simp [trTs, T.wfs]
 | y :: l, [], _, _, h, _ => by simp at h
 | y :: l, u :: us, hw, hu, hl, h => by
  obtain ⟨h1, h2⟩ := wf_cons hw
  simp only [trEs] at h
  by_cases h3 : trE V u y = 0
  ·
   rw [if_pos h3] at h
   obtain ⟨h4, h5⟩ := tr_wfs hV l us h2 (fun v hv => hu v (by simp [hv])) (by simpa using hl) h
   have h6 := tr_wf hV y u h1 (hu u (by simp)) h3
   simp [trTs, T.wfs, h4, h5, h6]
  ·
   rw [if_neg h3] at h
   exact absurd h h3
end
mutual
theorem tr_only {V : VR} {e : Int} (hV : ∀ n u, (V n u).1 = 0 ∨ (V n u).1 = e) : ∀ (x : T) (u : Int), trE V u x = 0 ∨ trE V u x = e
 | .mk n l, u => by
  simp only [trE]
  split
  · exact hV n u
  · exact tr_onlys hV l _
theorem tr_onlys {V : VR} {e : Int} (hV : ∀ n u, (V n u).1 = 0 ∨ (V n u).1 = e) : ∀ (l : List T) (us : List Int), trEs V l us = 0 ∨ trEs V l us = e
 | [], us => by simp [trEs]
 | y :: l, [] => by simp [trEs]
 | y :: l, u :: us => by
  simp only [trEs]
  split
  · exact tr_onlys hV l us
  · exact tr_only hV y u
end
abbrev vN (m : Int) : Nd := ⟨0, m, 0, ⟨#[]⟩⟩
theorem var_node {n : Nd} (h : right n = true) (hk : n.K = 0) : n = vN n.N ∧ 0 ≤ n.N ∧ n.N ≤ 99 := by
 rw [right_var hk, decide_eq_true_eq] at h
 obtain ⟨K, N, M, S⟩ := n
 obtain ⟨h1, h2, h3, h4⟩ := h
 simp only at hk h1 h2 h3 h4
 subst hk h3 h4
 exact ⟨rfl, h1, h2⟩
theorem vN_right {m : Int} (h1 : 0 ≤ m) (h2 : m ≤ 99) : right (vN m) = true := by
 rw [right_var rfl]
 simp [h1, h2]
theorem vN_wf {m : Int} (h1 : 0 ≤ m) (h2 : m ≤ 99) : (T.mk (vN m) []).wf = true := by
 rw [T.wf_mk]
 simp [vN_right h1 h2, many, binds, shp, T.wfs]
def shV (by_ fr : Int) : VR := fun n u => if fr ≤ n.N - u then (if n.N + by_ - u < fr then (30, .mk n []) else if 99 < n.N + by_ then (2, .mk n []) else (0, .mk (vN (n.N + by_)) [])) else (0, .mk n [])
theorem shV_len (by_ fr : Int) (n : Nd) (u : Int) : (shV by_ fr n u).2.flat.length ≤ 1 := by
 unfold shV
 (repeat' split) <;> simp [T.flat_mk, T.flats_nil]
theorem shV_wf {by_ fr : Int} (hf : 0 ≤ fr) : VW (shV by_ fr) := by
 intro n u hr hk hu h
 obtain ⟨e, h1, h2⟩ := var_node hr hk
 unfold shV at h ⊢
 split
 ·
  rename_i h3
  rw [if_pos h3] at h
  split
  · rename_i h4; rw [if_pos h4] at h; cases h
  ·
   rename_i h4
   rw [if_neg h4] at h
   split
   · rename_i h5; rw [if_pos h5] at h; cases h
   · exact vN_wf (by omega) (by omega)
 · rw [e]; exact vN_wf h1 h2
theorem shV_max {by_ fr : Int} (hb : 0 ≤ by_) (n : Nd) (u : Int) : (shV by_ fr n u).1 = 0 ∨ (shV by_ fr n u).1 = 2 := by
 unfold shV
 split
 ·
  split
  · omega
  · split <;> simp
 · simp
def clamp (n : Int) : Int := max (-1000) (min n 1000)
def sfE (t : List Nd) (by_ fr : Int) : Int := if chk t = 0 then trEL (shV (clamp by_) (max 0 (clamp fr))) t 0 else chk t
def sfA (t : List Nd) (by_ fr : Int) : List Nd := if chk t = 0 then trL (shV (clamp by_) (max 0 (clamp fr))) t 0 else []
theorem sfE_ok {t : List Nd} {b f : Int} (h : chk t = 0) : sfE t b f = trEL (shV (clamp b) (max 0 (clamp f))) t 0 ∧ sfA t b f = trL (shV (clamp b) (max 0 (clamp f))) t 0 := ⟨if_pos h, if_pos h⟩
theorem sfE_no {t : List Nd} {b f : Int} (h : ¬ chk t = 0) : sfE t b f = chk t ∧ sfA t b f = [] := ⟨if_neg h, if_neg h⟩
theorem sf_bad {t : List Nd} {b f : Int} (h : ¬ sfE t b f = 0) : sfA t b f = [] := by
 by_cases hc : chk t = 0
 ·
  rw [(sfE_ok hc).1] at h
  rw [(sfE_ok hc).2]
  unfold trL
  rw [if_neg h]
 · exact (sfE_no hc).2
theorem trL_len {V : VR} {b : Nat} (hb : 1 ≤ b) (hV : ∀ n u, (V n u).1 = 0 → (V n u).2.flat.length ≤ b) {t : List Nd} (h : measB t = true) (u : Int) : (trL V t u).length ≤ t.length * b := by
 unfold trL
 split
 ·
  rename_i he
  have := tr_len hb hV (treeOf t) u he
  rw [(treeOf_meas h).2] at this
  exact this
 · simp
theorem sfA_len (t : List Nd) (b f : Int) : (sfA t b f).length ≤ t.length := by
 by_cases hc : chk t = 0
 ·
  rw [(sfE_ok hc).2]
  have := trL_len (b := 1) (Nat.le_refl _) (fun n u _ => shV_len (clamp b) (max 0 (clamp f)) n u) (meas_chk hc) 0
  omega
 · rw [(sfE_no hc).2]; simp
theorem sf_tree {t : List Nd} {b f : Int} (h : sfE t b f = 0) : chk t = 0 ∧ (trT (shV (clamp b) (max 0 (clamp f))) 0 (treeOf t)).wf = true ∧ sfA t b f = (trT (shV (clamp b) (max 0 (clamp f))) 0 (treeOf t)).flat ∧ treeOf (sfA t b f) = trT (shV (clamp b) (max 0 (clamp f))) 0 (treeOf t) ∧ trE (shV (clamp b) (max 0 (clamp f))) 0 (treeOf t) = 0 := by
 have hc : chk t = 0 := by
  by_cases hc : chk t = 0
  · exact hc
  · rw [(sfE_no hc).1] at h; exact h
 obtain ⟨h1, h2⟩ := sfE_ok (b := b) (f := f) hc
 rw [h1] at h
 have hw := tr_wf (shV_wf (by_ := clamp b) (fr := max 0 (clamp f)) (by omega)) (treeOf t) 0 (treeOf_meas (meas_chk hc)).1 (Int.le_refl _) h
 have h3 : sfA t b f = (trT (shV (clamp b) (max 0 (clamp f))) 0 (treeOf t)).flat := by
  rw [h2]; unfold trL; rw [if_pos h]
 refine ⟨hc, hw, h3, ?_, h⟩
 rw [h3, treeOf_flat hw]
def nthLs (l : List (List Nd)) (i : Int) : List Nd := nthL l i.toNat
def puV (k : Int) (l : List (List Nd)) : VR := fun n u =>
 if n.N - u < k then (0, .mk n []) else if n.N - u < k + l.length then (sfE (nthLs l (n.N - u - k)) (u + k) 0, treeOf (sfA (nthLs l (n.N - u - k)) (u + k) 0)) else (0, .mk (vN (n.N - l.length)) [])
theorem trTs_len (V : VR) : ∀ (l : List T) (us : List Int), l.length ≤ us.length → (trTs V l us).length = l.length
 | [], us, _ => by simp [trTs]
 | y :: l, [], h => by simp at h
 | y :: l, u :: us, h => by simp [trTs, trTs_len V l us (by simpa using h)]
theorem trTP_len {V : VR} {t : List Nd} {u : Int} {j : Nat} (h : measB t = true) (hj : j ≤ (ptL t).length) : (trTP V t u j).length = j := by
 have h1 := root_many h
 have h2 := ptL_length h
 have h3 : (binds (nth t (t.length - 1))).length = (treeOf t).args.length := h1
 unfold trTP
 rw [List.length_map, trTs_len V _ _ (by rw [List.length_take, List.length_map]; omega), List.length_take]
 omega
theorem pt_nonvar {t : List Nd} {j : Nat} (h : measB t = true) (hj : j < (ptL t).length) : ¬ (nth t (t.length - 1)).K = 0 := fun hk => by
 have h1 := ptL_length h
 have h2 : many (nth t (t.length - 1)) = 0 := by simp [many, binds, hk, shp]
 omega
theorem tr_bad {V : VR} {t : List Nd} {u : Int} {j : Nat} (h : measB t = true) (hj : j < (ptL t).length) (h0 : trEP V t u j = 0) (he : ¬ trEL V (nthL (ptL t) j) (u + nthI (binds (nth t (t.length - 1))) j) = 0) :
  trEL V t u = trEL V (nthL (ptL t) j) (u + nthI (binds (nth t (t.length - 1))) j) ∧ trL V t u = [] := tr_err h (pt_nonvar h hj) hj h0 he
theorem tr_end {V : VR} {t : List Nd} {u : Int} (h : measB t = true) (hv : (nth t (t.length - 1)).K = 0 → V (nth t (t.length - 1)) u = (0, .mk (nth t (t.length - 1)) [])) (h0 : trEP V t u (ptL t).length = 0) :
  trEL V t u = 0 ∧ trL V t u = (trTP V t u (ptL t).length).flatten ++ [nth t (t.length - 1)] := by
 by_cases hk : (nth t (t.length - 1)).K = 0
 ·
  obtain ⟨h1, h2, h3⟩ := tr_var (V := V) (u := u) h hk
  rw [hv hk] at h1 h2
  have h4 : (ptL t).length = 0 := by rw [ptL_length h]; simp [many, binds, hk, shp]
  rw [h4]
  refine ⟨h1, ?_⟩
  rw [h2, (tr_zero V t u).2]
  simp [T.flat_mk, T.flats_nil]
 · exact tr_done h hk h0
theorem tr_nm {V : VR} {b : Nat} (hb : 1 ≤ b) (hV : ∀ n u, (V n u).1 = 0 → (V n u).2.flat.length ≤ b) {t : List Nd} {u : Int} (h : measB t = true) (hv : (nth t (t.length - 1)).K = 0 → V (nth t (t.length - 1)) u = (0, .mk (nth t (t.length - 1)) [])) (h0 : trEP V t u (ptL t).length = 0) :
  (trTP V t u (ptL t).length).flatten.length ≤ t.length * b := by
 have h1 := trL_len hb hV h u
 rw [(tr_end h hv h0).2, List.length_append] at h1
 omega
mutual
theorem tr_in {V : VR} {Q : Nd → Prop} (hV : ∀ n u, Q n → ∀ m ∈ (V n u).2.flat, Q m) : ∀ (x : T) (u : Int), (∀ n ∈ x.flat, Q n) → ∀ m ∈ (trT V u x).flat, Q m
 | .mk n l, u, h => by
  by_cases hk : n.K = 0
  ·
   simp only [trT, hk, if_true]
   exact hV n u (h n (by simp [T.flat_mk]))
  ·
   simp only [trT, hk, if_false, T.flat_mk, List.mem_append, List.mem_singleton]
   rintro m (hm | rfl)
   · exact tr_ins hV l _ (fun n hn => h n (by simp [T.flat_mk, hn])) m hm
   · exact h m (by simp [T.flat_mk])
theorem tr_ins {V : VR} {Q : Nd → Prop} (hV : ∀ n u, Q n → ∀ m ∈ (V n u).2.flat, Q m) : ∀ (l : List T) (us : List Int), (∀ n ∈ T.flats l, Q n) → ∀ m ∈ T.flats (trTs V l us), Q m
 | [], us, _ => by simp [trTs, T.flats_nil]
 | y :: l, [], _ => by simp [trTs, T.flats_nil]
 | y :: l, u :: us, h => by
  simp only [trTs, T.flats_cons, List.mem_append]
  rintro m (hm | hm)
  · exact tr_in hV y u (fun n hn => h n (by simp [T.flats_cons, hn])) m hm
  · exact tr_ins hV l us (fun n hn => h n (by simp [T.flats_cons, hn])) m hm
end
theorem trL_sml {V : VR} (hV : ∀ n u, n.S.size < 1000000 → ∀ m ∈ (V n u).2.flat, m.S.size < 1000000) {t : List Nd} (h : measB t = true) (hs : sml t) (u : Int) : sml (trL V t u) := by
 rw [sml_mem] at hs ⊢
 unfold trL
 split
 ·
  refine tr_in (Q := fun n => n.S.size < 1000000) hV (treeOf t) u ?_
  rw [(treeOf_meas h).2]
  exact hs
 · simp
theorem shV_sml {b f : Int} : ∀ n u, n.S.size < 1000000 → ∀ m ∈ (shV b f n u).2.flat, m.S.size < 1000000 := by
 intro n u h
 unfold shV
 (repeat' split) <;> simp [T.flat_mk, T.flats_nil, h] <;> decide
theorem sfA_sml {t : List Nd} {b f : Int} (hs : sml t) : sml (sfA t b f) := by
 by_cases hc : chk t = 0
 · rw [(sfE_ok hc).2]; exact trL_sml shV_sml (meas_chk hc) hs 0
 · rw [(sfE_no hc).2]; intro k hk; simp at hk
theorem nthLs_in {l : List (List Nd)} {i : Int} {Q : List Nd → Prop} (h : ∀ p ∈ l, Q p) (h0 : Q []) : Q (nthLs l i) := by
 unfold nthLs nthL
 rw [List.getD_eq_getElem?_getD]
 cases hx : l[i.toNat]? with
 | none => exact h0
 | some p => exact h p (List.mem_of_getElem? hx)
theorem sf_flat {t : List Nd} {b f : Int} (h : sfE t b f = 0) : (treeOf (sfA t b f)).flat = sfA t b f := by
 obtain ⟨_, _, h3, h4, _⟩ := sf_tree h
 rw [h4, h3]
theorem puV_len {k : Int} {l : List (List Nd)} {b : Nat} (hb : 1 ≤ b) (hl : ∀ p ∈ l, p.length ≤ b) : ∀ n u, (puV k l n u).1 = 0 → (puV k l n u).2.flat.length ≤ b := by
 intro n u h
 unfold puV at h ⊢
 by_cases h1 : n.N - u < k
 · rw [if_pos h1]; simpa [T.flat_mk, T.flats_nil] using hb
 ·
  rw [if_neg h1] at h ⊢
  by_cases h2 : n.N - u < k + l.length
  ·
   rw [if_pos h2] at h ⊢
   simp only at h ⊢
   rw [sf_flat h]
   exact Nat.le_trans (sfA_len _ _ _) (nthLs_in (Q := fun p => p.length ≤ b) hl (by simp))
  · rw [if_neg h2]; simpa [T.flat_mk, T.flats_nil] using hb
theorem puV_sml {k : Int} {l : List (List Nd)} (hl : ∀ p ∈ l, sml p) : ∀ n u, n.S.size < 1000000 → ∀ m ∈ (puV k l n u).2.flat, m.S.size < 1000000 := by
 intro n u h
 unfold puV
 by_cases h1 : n.N - u < k
 · rw [if_pos h1]; simpa [T.flat_mk, T.flats_nil] using h
 ·
  rw [if_neg h1]
  by_cases h2 : n.N - u < k + l.length
  ·
   rw [if_pos h2]
   simp only
   by_cases he : sfE (nthLs l (n.N - u - k)) (u + k) 0 = 0
   ·
    rw [sf_flat he]
    exact sml_mem.1 (sfA_sml (nthLs_in (Q := sml) hl (fun k hk => by simp at hk)))
   ·
    rw [sf_bad he]
    intro m hm
    have : treeOf [] = .mk ndz [] := rfl
    rw [this] at hm
    simp [T.flat_mk, T.flats_nil] at hm
    subst hm
    decide
  ·
   rw [if_neg h2]
   simp [T.flat_mk, T.flats_nil]
   decide
theorem puV_wf {k : Int} {l : List (List Nd)} (hk0 : 0 ≤ k) : VW (puV k l) := by
 intro n u hr hk hu h
 obtain ⟨e, h1, h2⟩ := var_node hr hk
 unfold puV at h ⊢
 split
 · rw [e]; exact vN_wf h1 h2
 ·
  rename_i h3
  rw [if_neg h3] at h
  split
  ·
   rename_i h4
   rw [if_pos h4] at h
   obtain ⟨_, h5, _, h6, _⟩ := sf_tree h
   simp only
   rw [h6]; exact h5
  · exact vN_wf (by omega) (by omega)
section
variable {t : List Nd} {u : Int} (h : measB t = true) (hk : (nth t (t.length - 1)).K = 0)
include h hk
theorem sh_low {b fr : Int} (h1 : fr ≤ (nth t (t.length - 1)).N - u) (h2 : (nth t (t.length - 1)).N + b - u < fr) : trEL (shV b fr) t u = 30 ∧ trL (shV b fr) t u = [] := by
 obtain ⟨e1, e2, _⟩ := tr_var (V := shV b fr) (u := u) h hk
 rw [e1, e2]
 simp [shV, h1, h2]
theorem sh_high {b fr : Int} (h1 : fr ≤ (nth t (t.length - 1)).N - u) (h2 : ¬ (nth t (t.length - 1)).N + b - u < fr) (h3 : 99 < (nth t (t.length - 1)).N + b) : trEL (shV b fr) t u = 2 ∧ trL (shV b fr) t u = [] := by
 obtain ⟨e1, e2, _⟩ := tr_var (V := shV b fr) (u := u) h hk
 rw [e1, e2]
 simp [shV, h1, h2, h3]
theorem sh_good {b fr : Int} (h1 : fr ≤ (nth t (t.length - 1)).N - u) (h2 : ¬ (nth t (t.length - 1)).N + b - u < fr) (h3 : ¬ 99 < (nth t (t.length - 1)).N + b) : trEL (shV b fr) t u = 0 ∧ trL (shV b fr) t u = [vN ((nth t (t.length - 1)).N + b)] := by
 obtain ⟨e1, e2, _⟩ := tr_var (V := shV b fr) (u := u) h hk
 rw [e1, e2]
 simp [shV, h1, h2, h3, T.flat_mk, T.flats_nil]
theorem pu_lt {k : Int} {l : List (List Nd)} (h1 : (nth t (t.length - 1)).N - u < k) : trEL (puV k l) t u = 0 ∧ trL (puV k l) t u = t := by
 obtain ⟨e1, e2, e3⟩ := tr_var (V := puV k l) (u := u) h hk
 rw [e1, e2]
 simp only [puV, h1, if_true, T.flat_mk, T.flats_nil, List.nil_append, true_and]
 exact e3.symm
theorem pu_in {k : Int} {l : List (List Nd)} (h1 : ¬ (nth t (t.length - 1)).N - u < k) (h2 : (nth t (t.length - 1)).N - u < k + l.length) :
  trEL (puV k l) t u = sfE (nthLs l ((nth t (t.length - 1)).N - u - k)) (u + k) 0 ∧ trL (puV k l) t u = sfA (nthLs l ((nth t (t.length - 1)).N - u - k)) (u + k) 0 := by
 obtain ⟨e1, e2, e3⟩ := tr_var (V := puV k l) (u := u) h hk
 rw [e1, e2]
 simp only [puV, h1, h2, if_true, if_false, true_and]
 by_cases he : sfE (nthLs l ((nth t (t.length - 1)).N - u - k)) (u + k) 0 = 0
 · rw [if_pos he, sf_flat he]
 · rw [if_neg he, sf_bad he]
theorem pu_ge {k : Int} {l : List (List Nd)} (h1 : ¬ (nth t (t.length - 1)).N - u < k) (h2 : ¬ (nth t (t.length - 1)).N - u < k + l.length) :
  trEL (puV k l) t u = 0 ∧ trL (puV k l) t u = [vN ((nth t (t.length - 1)).N - l.length)] := by
 obtain ⟨e1, e2, e3⟩ := tr_var (V := puV k l) (u := u) h hk
 rw [e1, e2]
 simp only [puV, h1, h2, if_true, if_false, true_and, T.flat_mk, T.flats_nil, List.nil_append]
end
def poE (t : List Nd) (k : Int) (l : List (List Nd)) : Int := if trEL (puV k l) t 0 = 0 then chk (trL (puV k l) t 0) else trEL (puV k l) t 0
def poA (t : List Nd) (k : Int) (l : List (List Nd)) : List Nd := if poE t k l = 0 then trL (puV k l) t 0 else []
theorem po_err {t : List Nd} {k : Int} {l : List (List Nd)} (h : ¬ trEL (puV k l) t 0 = 0) : poE t k l = trEL (puV k l) t 0 ∧ poA t k l = [] := by
 have : poE t k l = trEL (puV k l) t 0 := by unfold poE; rw [if_neg h]
 refine ⟨this, ?_⟩
 unfold poA
 rw [this, if_neg h]
theorem po_chk {t : List Nd} {k : Int} {l : List (List Nd)} (h : trEL (puV k l) t 0 = 0) : poE t k l = chk (trL (puV k l) t 0) ∧ poA t k l = if chk (trL (puV k l) t 0) = 0 then trL (puV k l) t 0 else [] := by
 have : poE t k l = chk (trL (puV k l) t 0) := by unfold poE; rw [if_pos h]
 refine ⟨this, ?_⟩
 unfold poA
 rw [this]
end
section
/- A term shifted in place, node by node from the root on: plain lists. -/
def stepS (b f : Int) (o : List Nd × Int) (x : Int × Int) : List Nd × Int :=
 if (nth o.1 x.1.toNat).K = 0 ∧ ¬ (nth o.1 x.1.toNat).N - x.2 < f then
  (o.1.set x.1.toNat ⟨(nth o.1 x.1.toNat).K, (nth o.1 x.1.toNat).N + b, (nth o.1 x.1.toNat).M, (nth o.1 x.1.toNat).S⟩,
   if (nth o.1 x.1.toNat).N + b - x.2 < f then 30 else if 99 < (nth o.1 x.1.toNat).N + b then 2 else o.2)
 else o
def foldS (b f : Int) (o : List Nd × Int) (pre : List (Int × Int)) : List Nd × Int := pre.foldl (stepS b f) o
theorem foldS_snoc (b f : Int) (o : List Nd × Int) (pre : List (Int × Int)) (x : Int × Int) : foldS b f o (pre ++ [x]) = stepS b f (foldS b f o pre) x := by simp [foldS]
theorem stepS_len (b f : Int) (o : List Nd × Int) (x : Int × Int) : (stepS b f o x).1.length = o.1.length := by
 unfold stepS
 split <;> simp
theorem foldS_len (b f : Int) (o : List Nd × Int) (pre : List (Int × Int)) : (foldS b f o pre).1.length = o.1.length := by
 induction pre generalizing o with
 | nil => rfl
 | cons x pre ih =>
  show (foldS b f (stepS b f o x) pre).1.length = _
  rw [ih, stepS_len]
theorem foldS_append (b f : Int) (o : List Nd × Int) (p q : List (Int × Int)) : foldS b f o (p ++ q) = foldS b f (foldS b f o p) q := by simp [foldS]
def shV0 (b f : Int) : VR := fun n u => ((shV b f n u).1, if f ≤ n.N - u then .mk ⟨n.K, n.N + b, n.M, n.S⟩ [] else .mk n [])
theorem nth_mid {u v : List Nd} {n : Nd} : nth (u ++ [n] ++ v) u.length = n := by simp [nth]
theorem set_mid {u v : List Nd} {n m : Nd} : (u ++ [n] ++ v).set u.length m = u ++ [m] ++ v := by simp
mutual
theorem fold_T (b f : Int) : ∀ (x : T) (k : Int) (u v : List Nd) (e : Int), x.wf = true →
  foldS b f (u ++ x.flat ++ v, e) (visT u.length k x) = (u ++ (trT (shV0 b f) k x).flat ++ v, if trE (shV0 b f) k x = 0 then e else trE (shV0 b f) k x)
 | .mk n l, k, u, v, e, hw => by
  obtain ⟨h1, h2, h3⟩ := wf_parts hw
  have hp : ((u.length : Int) + ((T.flats l).length : Int)).toNat = (u ++ T.flats l).length := by rw [List.length_append]; omega
  have hr : u ++ (T.mk n l).flat ++ v = (u ++ T.flats l) ++ [n] ++ v := by rw [T.flat_mk]; simp
  have hn : nth (u ++ (T.mk n l).flat ++ v) ((u.length : Int) + ((T.flats l).length : Int)).toNat = n := by rw [hp, hr, nth_mid]
  have hstep : stepS b f (u ++ (T.mk n l).flat ++ v, e) ((u.length : Int) + (T.flats l).length, k) =
    if n.K = 0 ∧ ¬ n.N - k < f then ((u ++ T.flats l) ++ [⟨n.K, n.N + b, n.M, n.S⟩] ++ v, if n.N + b - k < f then 30 else if 99 < n.N + b then 2 else e) else (u ++ (T.mk n l).flat ++ v, e) := by
   unfold stepS
   simp only [hn]
   split
   · rw [hp, hr, set_mid]
   · rfl
  have hv : foldS b f (u ++ (T.mk n l).flat ++ v, e) (visT u.length k (.mk n l)) = foldS b f (stepS b f (u ++ (T.mk n l).flat ++ v, e) ((u.length : Int) + (T.flats l).length, k)) (visTs u.length l ((binds n).map (k + ·))) := rfl
  rw [hv, hstep]
  by_cases hk : n.K = 0
  ·
   have hl : l = [] := List.eq_nil_of_length_eq_zero (by rw [← h2]; simp [many, binds, hk, shp])
   subst hl
   simp only [visTs, trE, trT, hk, if_true, T.flats_nil, List.append_nil, true_and, T.flat_mk, List.nil_append]
   show (if ¬ n.N - k < f then _ else _) = _
   unfold shV0 shV
   by_cases hf : f ≤ n.N - k
   ·
    rw [if_pos (by omega), if_pos hf]
    simp only [hf, if_true, T.flat_mk, T.flats_nil, List.nil_append, hk]
    congr 1
    (repeat' split) <;> simp_all
   ·
    rw [if_neg (by omega), if_neg hf]
    simp [hf, T.flat_mk, T.flats_nil]
  ·
   have hk2 : ¬ (n.K = 0 ∧ ¬ n.N - k < f) := fun h => hk h.1
   rw [if_neg hk2, show u ++ (T.mk n l).flat ++ v = u ++ T.flats l ++ ([n] ++ v) by rw [T.flat_mk]; simp]
   rw [fold_Ts b f l ((binds n).map (k + ·)) u ([n] ++ v) e h3 (by simp [← h2, many])]
   simp only [trE, trT, hk, if_false, T.flat_mk]
   simp
theorem fold_Ts (b f : Int) : ∀ (l : List T) (ks : List Int) (u v : List Nd) (e : Int), T.wfs l = true → l.length = ks.length →
  foldS b f (u ++ T.flats l ++ v, e) (visTs u.length l ks) = (u ++ T.flats (trTs (shV0 b f) l ks) ++ v, if trEs (shV0 b f) l ks = 0 then e else trEs (shV0 b f) l ks)
 | [], ks, u, v, e, _, _ => by simp [visTs, trTs, trEs, T.flats_nil, foldS]
 | y :: l, [], _, _, _, _, h => by simp at h
 | y :: l, k :: ks, u, v, e, hw, hl => by
  obtain ⟨h1, h2⟩ := wf_cons hw
  have a1 := fold_Ts b f l ks (u ++ y.flat) v e h2 (by simpa using hl)
  have a2 := fold_T b f y k u (T.flats (trTs (shV0 b f) l ks) ++ v) (if trEs (shV0 b f) l ks = 0 then e else trEs (shV0 b f) l ks) h1
  simp only [visTs, T.flats_cons, trTs, trEs, foldS_append]
  rw [List.length_append] at a1
  rw [show u ++ (y.flat ++ T.flats l) ++ v = u ++ y.flat ++ T.flats l ++ v by simp, show (u.length : Int) + (y.flat.length : Int) = ((u.length + y.flat.length : Nat) : Int) by simp, a1,
   show u ++ y.flat ++ T.flats (trTs (shV0 b f) l ks) ++ v = u ++ y.flat ++ (T.flats (trTs (shV0 b f) l ks) ++ v) by simp, a2]
  congr 1
  · simp
  ·
   by_cases h : trE (shV0 b f) k y = 0
   · simp [h]
   · simp [h]
end
mutual
theorem sh0_E (b f : Int) : ∀ (x : T) (k : Int), trE (shV0 b f) k x = trE (shV b f) k x
 | .mk n l, k => by
  simp only [trE]
  split
  · rfl
  · exact sh0_Es b f l _
theorem sh0_Es (b f : Int) : ∀ (l : List T) (ks : List Int), trEs (shV0 b f) l ks = trEs (shV b f) l ks
 | [], _ => by simp [trEs]
 | _ :: _, [] => by simp [trEs]
 | y :: l, k :: ks => by simp only [trEs, sh0_E b f y k, sh0_Es b f l ks]
end
mutual
theorem sh0_T (b f : Int) : ∀ (x : T) (k : Int), x.wf = true → trE (shV b f) k x = 0 → trT (shV0 b f) k x = trT (shV b f) k x
 | .mk n l, k, hw, h => by
  obtain ⟨h1, h2, h3⟩ := wf_parts hw
  by_cases hk : n.K = 0
  ·
   obtain ⟨e, _, _⟩ := var_node h1 hk
   simp only [trE, trT, hk, if_true] at h ⊢
   unfold shV0
   unfold shV at h ⊢
   by_cases hf : f ≤ n.N - k
   ·
    simp only [hf, if_true] at h ⊢
    split
    · rename_i h4; simp [h4] at h
    ·
     split
     · rename_i h4 h5; simp [h4, h5] at h
     · rw [e]
   · simp only [hf, if_false]
  ·
   simp only [trE, trT, hk, if_false] at h ⊢
   rw [sh0_Ts b f l _ h3 h]
theorem sh0_Ts (b f : Int) : ∀ (l : List T) (ks : List Int), T.wfs l = true → trEs (shV b f) l ks = 0 → trTs (shV0 b f) l ks = trTs (shV b f) l ks
 | [], _, _, _ => by simp [trTs]
 | _ :: _, [], _, _ => by simp [trTs]
 | y :: l, k :: ks, hw, h => by
  obtain ⟨h1, h2⟩ := wf_cons hw
  simp only [trEs] at h
  by_cases h3 : trE (shV b f) k y = 0
  ·
   rw [if_pos h3] at h
   simp only [trTs, sh0_T b f y k h1 h3, sh0_Ts b f l ks h2 h]
  ·
   rw [if_neg h3] at h
   exact absurd h h3
end
theorem fold_all {t : List Nd} {b f : Int} (hc : chk t = 0) : (foldS b f (t, 0) (nodesL t)).2 = trEL (shV b f) t 0 ∧ (trEL (shV b f) t 0 = 0 → (foldS b f (t, 0) (nodesL t)).1 = trL (shV b f) t 0) := by
 obtain ⟨hw, hf, _, _⟩ := treeOf_ok hc
 have h := fold_T b f (treeOf t) 0 [] [] 0 hw
 simp only [List.nil_append, List.append_nil, List.length_nil, hf] at h
 have h' : foldS b f (t, 0) (nodesL t) = ((trT (shV0 b f) 0 (treeOf t)).flat, if trE (shV0 b f) 0 (treeOf t) = 0 then 0 else trE (shV0 b f) 0 (treeOf t)) := h
 have hE : trEL (shV b f) t 0 = trE (shV b f) 0 (treeOf t) := rfl
 have hL : trL (shV b f) t 0 = if trE (shV b f) 0 (treeOf t) = 0 then (trT (shV b f) 0 (treeOf t)).flat else [] := rfl
 rw [h', hE, hL, sh0_E]
 constructor
 ·
  split
  · rename_i h1; exact h1.symm
  · rfl
 ·
  intro h1
  rw [if_pos h1, sh0_T b f _ _ hw h1, if_pos h1]
mutual
theorem vis_bd : ∀ (x : T) (o k : Int), ∀ y ∈ visT o k x, o ≤ y.1 ∧ y.1 < o + x.flat.length ∧ k ≤ y.2 ∧ y.2 ≤ k + 2 * x.flat.length
 | .mk n l, o, k => by
  intro y hy
  simp only [visT, List.mem_cons] at hy
  rw [T.flat_mk, List.length_append, List.length_singleton]
  rcases hy with rfl | hy
  ·
   simp only
   omega
  ·
   have h1 := vis_bds l o ((binds n).map (k + ·)) k (fun v hv => by
    obtain ⟨c, hc, rfl⟩ := List.mem_map.1 hv
    have := binds_b n c hc
    omega) y hy
   omega
theorem vis_bds : ∀ (l : List T) (o : Int) (ks : List Int) (k : Int), (∀ v ∈ ks, k ≤ v ∧ v ≤ k + 2) → ∀ y ∈ visTs o l ks, o ≤ y.1 ∧ y.1 < o + (T.flats l).length ∧ k ≤ y.2 ∧ y.2 ≤ k + 2 + 2 * (T.flats l).length
 | [], _, _, _, _ => by simp [visTs]
 | _ :: _, _, [], _, _ => by simp [visTs]
 | x :: l, o, v :: ks, k, h => by
  intro y hy
  simp only [visTs, List.mem_append] at hy
  rw [T.flats_cons, List.length_append]
  have hv := h v (by simp)
  rcases hy with hy | hy
  ·
   have := vis_bds l (o + x.flat.length) ks k (fun w hw => h w (by simp [hw])) y hy
   omega
  ·
   have := vis_bd x o v y hy
   omega
end
theorem nodesL_nat {t : List Nd} {pre : List (Int × Int)} {x : Int × Int} (hc : chk t = 0) (h : pre ++ [x] <+: nodesL t) : ∃ (i : Nat) (j : Nat), x = ((i : Int), (j : Int)) ∧ i < t.length ∧ j ≤ 2 * t.length := by
 obtain ⟨rest, hr⟩ := h
 have hm : x ∈ nodesL t := by rw [← hr]; simp
 have h1 := vis_bd (treeOf t) 0 0 x hm
 rw [(treeOf_ok hc).2.1] at h1
 exact ⟨x.1.toNat, x.2.toNat, by ext <;> simp only [] <;> omega, by omega, by omega⟩
theorem step_yes {b f : Int} {o : List Nd × Int} {i j : Nat} (h1 : (nth o.1 i).K = 0) (h2 : ¬ (nth o.1 i).N - (j : Int) < f) :
  stepS b f o ((i : Int), (j : Int)) = (o.1.set i ⟨(nth o.1 i).K, (nth o.1 i).N + b, (nth o.1 i).M, (nth o.1 i).S⟩, if (nth o.1 i).N + b - (j : Int) < f then 30 else if 99 < (nth o.1 i).N + b then 2 else o.2) := by
 unfold stepS
 simp only [Int.toNat_natCast]
 rw [if_pos ⟨h1, h2⟩]
theorem step_no {b f : Int} {o : List Nd × Int} {i j : Nat} (h : ¬ (nth o.1 i).K = 0 ∨ (nth o.1 i).N - (j : Int) < f) : stepS b f o ((i : Int), (j : Int)) = o := by
 unfold stepS
 simp only [Int.toNat_natCast]
 rw [if_neg (by rintro ⟨h1, h2⟩; rcases h with h | h; exact h h1; exact h2 h)]
theorem nth_set (L : List Nd) (i k : Nat) (z : Nd) : nth (L.set i z) k = if i = k ∧ i < L.length then z else nth L k := by
 unfold nth
 rw [List.getD_eq_getElem?_getD, List.getElem?_set, List.getD_eq_getElem?_getD]
 by_cases h : i = k
 ·
  subst h
  by_cases h2 : i < L.length
  · simp [h2]
  · simp [h2]
 · simp [h]
theorem foldS_N {b f : Int} (hb : -1000 ≤ b ∧ b ≤ 1000) (B : Int) : ∀ (pre : List (Int × Int)) (o : List Nd × Int), (∀ k, -B ≤ (nth o.1 k).N ∧ (nth o.1 k).N ≤ B) → ∀ k, -(B + 1000 * pre.length) ≤ (nth (foldS b f o pre).1 k).N ∧ (nth (foldS b f o pre).1 k).N ≤ B + 1000 * pre.length
 | [], o, h => fun k => by have := h k; simpa [foldS] using this
 | x :: pre, o, h => by
  intro k
  have h2 : ∀ k, -(B + 1000) ≤ (nth (stepS b f o x).1 k).N ∧ (nth (stepS b f o x).1 k).N ≤ B + 1000 := by
   intro k
   have h3 := h k
   have h4 := h x.1.toNat
   unfold stepS
   split
   ·
    simp only
    rw [nth_set]
    split
    · simp only; omega
    · omega
   · omega
  have := foldS_N (f := f) hb (B + 1000) pre (stepS b f o x) h2 k
  have e : foldS b f o (x :: pre) = foldS b f (stepS b f o x) pre := rfl
  rw [e, List.length_cons]
  omega
theorem right_N {n : Nd} (h : right n = true) : 0 ≤ n.N ∧ n.N ≤ 99 := by
 obtain ⟨h1, h2, h3, h4⟩ := (right_split n).1 h
 unfold fieldsBad at h2
 by_cases hn : (shp n.K.toNat).n = true
 ·
  have := h3 hn
  unfold most at this
  refine ⟨this.1, ?_⟩
  have := this.2
  (repeat' split at this) <;> omega
 ·
  have hn' : (shp n.K.toNat).n = false := by simpa using hn
  simp only [hn', Bool.not_false, Bool.true_and, Bool.or_eq_false_iff, Bool.not_eq_false', decide_eq_true_eq] at h2
  omega
theorem term_N {t : List Nd} (hc : chk t = 0) (k : Nat) : -99 ≤ (nth t k).N ∧ (nth t k).N ≤ 99 := by
 by_cases hk : k < t.length
 ·
  have := right_N (right_at (meas_chk hc) hk)
  omega
 ·
  have : nth t k = ndz := by simp [nth, List.getD_eq_getElem?_getD, List.getElem?_eq_none (by omega : t.length ≤ k)]
  rw [this]
  decide
mutual
theorem vis_len : ∀ (x : T) (o k : Int), x.wf = true → (visT o k x).length = x.flat.length
 | .mk n l, o, k, hw => by
  obtain ⟨_, h2, h3⟩ := wf_parts hw
  simp only [visT, List.length_cons, T.flat_mk, List.length_append, List.length_nil]
  rw [vis_lens l o _ h3 (by simp [← h2, many])]
theorem vis_lens : ∀ (l : List T) (o : Int) (ks : List Int), T.wfs l = true → l.length = ks.length → (visTs o l ks).length = (T.flats l).length
 | [], _, _, _, _ => by simp [visTs, T.flats_nil]
 | _ :: _, _, [], _, h => by simp at h
 | x :: l, o, v :: ks, hw, h => by
  obtain ⟨h1, h2⟩ := wf_cons hw
  simp only [visTs, List.length_append, T.flats_cons]
  rw [vis_lens l _ ks h2 (by simpa using h), vis_len x o v h1]
  omega
end
theorem nodesL_len {t : List Nd} (hc : chk t = 0) : (nodesL t).length = t.length := by
 obtain ⟨hw, hf, _⟩ := treeOf_ok hc
 have := vis_len (treeOf t) 0 0 hw
 rw [hf] at this
 exact this
theorem fold_N {t : List Nd} {b f e : Int} {pre : List (Int × Int)} (hc : chk t = 0) (hb : -1000 ≤ b ∧ b ≤ 1000) (hp : pre <+: nodesL t) (k : Nat) : -10000000 ≤ (nth (foldS b f (t, e) pre).1 k).N ∧ (nth (foldS b f (t, e) pre).1 k).N ≤ 10000000 := by
 have h1 := foldS_N (f := f) hb 99 pre (t, e) (term_N hc) k
 have h2 := hp.length_le
 rw [nodesL_len hc] at h2
 have h3 := (treeOf_ok hc).2.2.2
 omega
theorem sfE_prog {t : List Nd} {b f : Int} (hc : chk t = 0) : sfE t b f = (foldS (clamp b) (max 0 (clamp f)) (t, chk t) (nodesL t)).2 ∧ (sfE t b f = 0 → sfA t b f = (foldS (clamp b) (max 0 (clamp f)) (t, chk t) (nodesL t)).1) := by
 obtain ⟨h1, h2⟩ := fold_all (b := clamp b) (f := max 0 (clamp f)) hc
 obtain ⟨h3, h4⟩ := sfE_ok (b := b) (f := f) hc
 rw [h3, h4, hc, h1]
 exact ⟨rfl, fun h => (h2 h).symm⟩
end
section
/- The nodes of a term from its root on, each with how many binders it is under: as subst.nodes hands them over. -/
def nodesN (t : List Nd) : List (Nd × Int) := (nodesL t).map fun x => (nth t x.1.toNat, x.2)
theorem nodesN_step {t : List Nd} {k : Nat} {i u : Int} {n : Nat} (h : (nodesL t).take k ++ [(i, u)] = (nodesL t).take (k + 1)) (hi : i = (n : Int)) : (nodesN t).take k ++ [(nth t n, u)] = (nodesN t).take (k + 1) := by
 unfold nodesN
 rw [← List.map_take, ← List.map_take, ← h, List.map_append, hi]
 simp
theorem nodesN_pre {t : List Nd} {k : Nat} {x : Nd × Int} (h : (nodesN t).take k ++ [x] = (nodesN t).take (k + 1)) : (nodesN t).take k ++ [x] <+: nodesN t := by
 rw [h]; exact List.take_prefix _ _
theorem nodesN_all {t : List Nd} {k : Nat} (h : (nodesL t).take k = nodesL t) : (nodesN t).take k = nodesN t := by
 unfold nodesN
 rw [← List.map_take, h]
theorem bwL_full {t : List Nd} {k : Nat} (hk : k ≤ t.length) (h : bwL t = (bwL t).take k) : k = t.length := by
 have := congrArg List.length h
 rw [List.length_take, bwL_length] at this
 omega
end
section
/- Results that lie in cells. -/
open Go Go.RowKit
section
variable {P : Program} {fn : Func} {N : Nat} {l : List (Nat × Value)} {a : Act} {w w0 : World} {Z M : Nat → Prop} {m : List Res} {ds : List Dat} {R : Ending → World → Prop}
theorem res2c {t u g h : Nat} {tt uu : TypeId} {v v' : Value} {d1 d2 : TypeDesc} (hR : Reg a N l) (hr : fn.results = #[.cell t tt, .cell u uu]) (hv : ev l (.tmp t) = some (.pointer (some ⟨g, 0, none⟩))) (hv' : ev l (.tmp u) = some (.pointer (some ⟨h, 0, none⟩)))
  (hc : w.cell? ⟨g, 0, none⟩ = some v) (hc' : w.cell? ⟨h, 0, none⟩ = some v') (ht : P.underlying tt = some d1) (ha : isAggD d1 = false) (ht' : P.underlying uu = some d2) (ha' : isAggD d2 = false) :
  (results fn a.tmps).run P w = .ok (.tuple #[v, v']) w := by
 have h1 : a.tmps[t]?.getD undef = .pointer (some ⟨g, 0, none⟩) := by rw [← Array.getD_eq_getD_getElem?]; exact hR.ev hv
 have h2 : a.tmps[u]?.getD undef = .pointer (some ⟨h, 0, none⟩) := by rw [← Array.getD_eq_getD_getElem?]; exact hR.ev hv'
 simp only [results, hr]
 simp [Sem.run_bind, h1, h2, asAddr, run_load1 ht ha hc, run_load1 ht' ha' hc']
theorem St.cast {m' : List Res} (h : St w0 Z M w m ds) (e : m = m') : St w0 Z M w m' ds := e ▸ h
end
end
section
/- Erasing is done ahead of a shift, or of a substitution, as behind it. -/
mutual
theorem tr_deep {V : VR} (hV : ∀ n u, (V n u).2.deep ≤ 1) : ∀ (x : T) (u : Int), (trT V u x).deep ≤ x.deep
 | .mk n l, u => by
  by_cases hk : n.K = 0
  ·
   simp only [trT, hk, if_true]
   have := hV n u
   rw [deep_mk]
   omega
  ·
   simp only [trT, hk, if_false, deep_mk]
   have := tr_deeps hV l ((binds n).map (u + ·))
   omega
theorem tr_deeps {V : VR} (hV : ∀ n u, (V n u).2.deep ≤ 1) : ∀ (l : List T) (us : List Int), T.deeps (trTs V l us) ≤ T.deeps l
 | [], us => by simp [trTs, T.deeps]
 | y :: l, [] => by simp [trTs, T.deeps]
 | y :: l, u :: us => by
  simp only [trTs, T.deeps]
  have := tr_deep hV y u
  have := tr_deeps hV l us
  omega
end
theorem shV_deep (b f : Int) (n : Nd) (u : Int) : (shV b f n u).2.deep ≤ 1 := by
 unfold shV
 (repeat' split) <;> simp [T.deep, T.deeps]
theorem sf_chk {t : List Nd} {b f : Int} (h : sfE t b f = 0) : chk (sfA t b f) = 0 := by
 obtain ⟨hc, hw, h3, _, he⟩ := sf_tree h
 obtain ⟨_, hf, hd, hl⟩ := treeOf_ok hc
 have h4 := tr_deep (shV_deep (clamp b) (max 0 (clamp f))) (treeOf t) 0
 have h5 := sfA_len t b f
 rw [h3] at h5 ⊢
 exact chk_flat hw (by omega) (by omega)
theorem po_same (t : List Nd) (k : Int) (l : List (List Nd)) : (if poE t k l = 0 then poA t k l else []) = poA t k l := by
 unfold poA
 split <;> rfl
end
section
/- Terms put into one, node by node from the root on: plain lists. -/
structure RevN (t R : List Nd) (k : Nat) : Prop where
 len : R.length = t.length
 at_ : ∀ i, i < t.length → nth R i = if i < k ∨ t.length - k ≤ i then nth t (t.length - 1 - i) else nth t i
theorem RevN.zero (t : List Nd) : RevN t t 0 := ⟨rfl, fun i hi => by rw [if_neg (by omega)]⟩
theorem RevN.step {t R : List Nd} {k j : Nat} {u v : Nd} (h : RevN t R k) (hk : 2 * k + 1 < t.length) (hj : j = t.length - 1 - k) (hu : u = nth R j) (hv : v = nth R k) : RevN t ((R.set k u).set j v) (k + 1) := by
 subst hj
 obtain ⟨h1, h2⟩ := h
 refine ⟨by simp [h1], fun i hi => ?_⟩
 rw [nth_set, nth_set, hu, hv, h2 _ (by omega), h2 _ (by omega), h2 i hi]
 simp only [List.length_set]
 by_cases e1 : t.length - 1 - k = i
 ·
  subst e1
  rw [if_pos ⟨rfl, by omega⟩, if_neg (by omega), if_pos (by omega)]
  congr 1
  omega
 ·
  rw [if_neg (by omega)]
  by_cases e2 : k = i
  ·
   subst e2
   rw [if_pos ⟨rfl, by omega⟩, if_neg (by omega), if_pos (by omega)]
  ·
   rw [if_neg (by omega)]
   by_cases e3 : i < k ∨ t.length - k ≤ i
   · rw [if_pos e3, if_pos (by omega)]
   · rw [if_neg e3, if_neg (by omega)]
theorem RevN.done {t R : List Nd} {k : Nat} (h : RevN t R k) (hk : t.length ≤ 2 * k + 1) : R = t.reverse := by
 obtain ⟨h1, h2⟩ := h
 apply List.ext_getElem
 · simp [h1]
 ·
  intro i hi hi'
  have h3 := h2 i (by omega)
  have h4 : nth R i = R[i] := by simp [nth, hi]
  have h5 : nth t (t.length - 1 - i) = t[t.length - 1 - i] := by
   have : t.length - 1 - i < t.length := by omega
   simp [nth, this]
  rw [List.getElem_reverse, ← h4, h3, ← h5]
  split
  · rfl
  ·
   congr 1
   omega
def reE (l : List (List Nd)) (x : Nd × Int) : Int := if x.1.K = 0 then (puV 0 l x.1 x.2).1 else 0
def reL (l : List (List Nd)) (x : Nd × Int) : List Nd := if x.1.K = 0 then (puV 0 l x.1 x.2).2.flat else [x.1]
def reR (l : List (List Nd)) (pre : List (Nd × Int)) : List Nd := pre.flatMap fun x => (reL l x).reverse
theorem reR_snoc (l : List (List Nd)) (pre : List (Nd × Int)) (x : Nd × Int) : reR l (pre ++ [x]) = reR l pre ++ (reL l x).reverse := by simp [reR]
theorem reR_append (l : List (List Nd)) (p q : List (Nd × Int)) : reR l (p ++ q) = reR l p ++ reR l q := by simp [reR]
mutual
def visN (u : Int) : T → List (Nd × Int)
 | .mk n l => (n, u) :: visNs l ((binds n).map (u + ·))
def visNs : List T → List Int → List (Nd × Int)
 | [], _ => []
 | _ :: _, [] => []
 | t :: l, u :: us => visNs l us ++ visN u t
end
mutual
theorem vis_N (B : List Nd) : ∀ (x : T) (A : List Nd) (u : Int) (C : List Nd), B = A ++ x.flat ++ C → (visT A.length u x).map (fun y => (nth B y.1.toNat, y.2)) = visN u x
 | .mk n l, A, u, C, h => by
  have e : ((A.length : Int) + ((T.flats l).length : Int)).toNat = (A ++ T.flats l).length := by rw [List.length_append]; omega
  have hB : B = (A ++ T.flats l) ++ [n] ++ C := by rw [h, T.flat_mk]; simp
  simp only [visT, List.map_cons, visN]
  rw [e]
  have hn : nth B (A ++ T.flats l).length = n := by rw [hB, nth_mid]
  rw [hn, vis_Ns B l A ((binds n).map (u + ·)) ([n] ++ C) (by rw [hB]; simp)]
theorem vis_Ns (B : List Nd) : ∀ (l : List T) (A : List Nd) (us : List Int) (C : List Nd), B = A ++ T.flats l ++ C → (visTs A.length l us).map (fun y => (nth B y.1.toNat, y.2)) = visNs l us
 | [], _, _, _, _ => by simp [visTs, visNs]
 | _ :: _, _, [], _, _ => by simp [visTs, visNs]
 | x :: l, A, u :: us, C, h => by
  have h1 := vis_Ns B l (A ++ x.flat) us C (by rw [h, T.flats_cons]; simp)
  have h2 := vis_N B x A u (T.flats l ++ C) (by rw [h, T.flats_cons]; simp)
  simp only [visTs, List.map_append, visNs]
  rw [List.length_append] at h1
  rw [← h1, ← h2]
  simp
end
theorem nodesN_vis {t : List Nd} (hc : chk t = 0) : nodesN t = visN 0 (treeOf t) := by
 obtain ⟨_, hf, _⟩ := treeOf_ok hc
 have := vis_N t (treeOf t) [] 0 [] (by simp [hf])
 exact this
mutual
theorem re_T (l : List (List Nd)) : ∀ (x : T) (u : Int), x.wf = true → ((trE (puV 0 l) u x = 0 ↔ ∀ y ∈ visN u x, reE l y = 0) ∧ reR l (visN u x) = (trT (puV 0 l) u x).flat.reverse)
 | .mk n ps, u, hw => by
  obtain ⟨h1, h2, h3⟩ := wf_parts hw
  by_cases hk : n.K = 0
  ·
   have hl : ps = [] := List.eq_nil_of_length_eq_zero (by rw [← h2]; simp [many, binds, hk, shp])
   subst hl
   simp [visN, visNs, trE, trT, hk, reE, reR, reL]
  ·
   obtain ⟨a1, a2⟩ := re_Ts l ps ((binds n).map (u + ·)) h3
   simp only [visN, trE, trT, hk, if_false, List.mem_cons, forall_eq_or_imp, T.flat_mk, List.reverse_append]
   constructor
   ·
    rw [a1]
    have : reE l (n, u) = 0 := by simp [reE, hk]
    simp [this]
   ·
    have : reR l ((n, u) :: visNs ps ((binds n).map (u + ·))) = (reL l (n, u)).reverse ++ reR l (visNs ps ((binds n).map (u + ·))) := by simp [reR]
    rw [this, a2]
    simp [reL, hk]
theorem re_Ts (l : List (List Nd)) : ∀ (ps : List T) (us : List Int), T.wfs ps = true → ((trEs (puV 0 l) ps us = 0 ↔ ∀ y ∈ visNs ps us, reE l y = 0) ∧ reR l (visNs ps us) = (T.flats (trTs (puV 0 l) ps us)).reverse)
 | [], _, _ => by simp [visNs, trEs, trTs, T.flats_nil, reR]
 | _ :: _, [], _ => by simp [visNs, trEs, trTs, T.flats_nil, reR]
 | x :: ps, u :: us, hw => by
  obtain ⟨h1, h2⟩ := wf_cons hw
  obtain ⟨a1, a2⟩ := re_T l x u h1
  obtain ⟨b1, b2⟩ := re_Ts l ps us h2
  simp only [visNs, trEs, trTs, List.mem_append, T.flats_cons, List.reverse_append, reR_append]
  constructor
  ·
   by_cases he : trE (puV 0 l) u x = 0
   ·
    rw [if_pos he, b1]
    constructor
    ·
     intro h y hy
     rcases hy with hy | hy
     · exact h y hy
     · exact a1.1 he y hy
    ·
     intro h y hy
     exact h y (.inl hy)
   ·
    rw [if_neg he]
    constructor
    · intro h; exact absurd h he
    · intro h; exact absurd (a1.2 fun y hy => h y (.inr hy)) he
  · rw [a2, b2]
end
theorem sf_max {t : List Nd} {b f : Int} (hc : chk t = 0) (hb : 0 ≤ b) : sfE t b f = 0 ∨ sfE t b f = 2 := by
 rw [(sfE_ok hc).1]
 exact tr_only (shV_max (by unfold clamp; omega)) _ _
def oks (l : List (List Nd)) : Prop := ∀ p ∈ l, chk p = 0
theorem nthL_ok {l : List (List Nd)} (h : oks l) {i : Nat} (hi : i < l.length) : chk (nthL l i) = 0 := h _ (nthL_mem hi)
theorem pu_max {l : List (List Nd)} (h : oks l) (n : Nd) (u : Int) (hu : 0 ≤ u) : (puV 0 l n u).1 = 0 ∨ (puV 0 l n u).1 = 2 := by
 unfold puV
 by_cases h1 : n.N - u < 0
 · simp [h1]
 ·
  by_cases h2 : n.N - u < 0 + l.length
  ·
   simp only [h1, h2, if_true, if_false]
   have : (n.N - u - 0).toNat < l.length := by omega
   exact sf_max (nthL_ok h this) (by omega)
  ·
   left
   simp only [h1, h2, if_false]
mutual
theorem pu_only {l : List (List Nd)} (h : oks l) : ∀ (x : T) (u : Int), 0 ≤ u → trE (puV 0 l) u x = 0 ∨ trE (puV 0 l) u x = 2
 | .mk n ps, u, hu => by
  simp only [trE]
  split
  · exact pu_max h n u hu
  · exact pu_onlys h ps _ (ubinds hu)
theorem pu_onlys {l : List (List Nd)} (h : oks l) : ∀ (ps : List T) (us : List Int), (∀ v ∈ us, 0 ≤ v) → trEs (puV 0 l) ps us = 0 ∨ trEs (puV 0 l) ps us = 2
 | [], _, _ => by simp [trEs]
 | _ :: _, [], _ => by simp [trEs]
 | x :: ps, u :: us, hu => by
  simp only [trEs]
  split
  · exact pu_onlys h ps us (fun v hv => hu v (by simp [hv]))
  · exact pu_only h x u (hu u (by simp))
end
structure OutI (l : List (List Nd)) (pre : List (Nd × Int)) (O : List Nd) : Prop where
 er : ∀ y ∈ pre, reE l y = 0
 out : O = reR l pre ∨ (8000 ≤ O.length ∧ 8000 < (reR l pre).length)
 bd : O.length ≤ 16000 + pre.length
theorem OutI.nil (l : List (List Nd)) : OutI l [] [] := ⟨(fun _ h => by cases h), .inl rfl, by simp⟩
theorem er_snoc {l : List (List Nd)} {pre : List (Nd × Int)} {x : Nd × Int} (h : ∀ y ∈ pre, reE l y = 0) (hx : reE l x = 0) : ∀ y ∈ pre ++ [x], reE l y = 0 := by
 intro y hy
 rcases List.mem_append.1 hy with hy | hy
 · exact h y hy
 · rw [List.mem_singleton] at hy; subst hy; exact hx
theorem OutI.step {l : List (List Nd)} {pre : List (Nd × Int)} {O S : List Nd} {x : Nd × Int} (h : OutI l pre O) (hx : reE l x = 0) (hS : S = (reL l x).reverse) (hn : (O ++ S).length ≤ 16000 ∨ S.length = 1) : OutI l (pre ++ [x]) (O ++ S) := by
 have hb := h.bd
 refine ⟨er_snoc h.er hx, ?_, ?_⟩
 ·
  rw [reR_snoc, ← hS]
  rcases h.out with q1 | ⟨q1, q3⟩
  · exact .inl (by rw [q1])
  ·
   right
   rw [List.length_append, List.length_append]
   omega
 ·
  rw [List.length_append] at hn
  rw [List.length_append, List.length_append, List.length_singleton]
  omega
theorem OutI.cut {l : List (List Nd)} {pre : List (Nd × Int)} {O S : List Nd} {x : Nd × Int} (h : OutI l pre O) (hx : reE l x = 0) (hS : S = (reL l x).reverse) (hn : 16000 < (O ++ S).length) : OutI l (pre ++ [x]) ((O ++ S).take 8000) := by
 have ht : ((O ++ S).take 8000).length = 8000 := by rw [List.length_take]; omega
 refine ⟨er_snoc h.er hx, ?_, by rw [ht]; omega⟩
 rw [reR_snoc, ← hS]
 right
 rw [ht]
 rw [List.length_append] at hn ⊢
 rcases h.out with q1 | ⟨q1, q3⟩
 · rw [q1] at hn; omega
 · omega
theorem OutI.len {l : List (List Nd)} {t O : List Nd} {pre : List (Nd × Int)} (h : OutI l pre O) (hc : chk t = 0) (hp : pre <+: nodesN t) : O.length ≤ 20000 := by
 have h1 := h.bd
 have h2 := hp.length_le
 have h3 : (nodesN t).length = t.length := by unfold nodesN; rw [List.length_map, nodesL_len hc]
 have h4 := (treeOf_ok hc).2.2.2
 omega
theorem OutI.all {l : List (List Nd)} {t O : List Nd} (hc : chk t = 0) (h : OutI l (nodesN t) O) :
  trEL (puV 0 l) t 0 = 0 ∧ (4000 < O.length → 4000 < (trL (puV 0 l) t 0).length) ∧ (O.length ≤ 4000 → O.reverse = trL (puV 0 l) t 0) := by
 obtain ⟨hw, _, _, _⟩ := treeOf_ok hc
 obtain ⟨h1, h2⟩ := re_T l (treeOf t) 0 hw
 rw [← nodesN_vis hc] at h1 h2
 have h3 : trEL (puV 0 l) t 0 = 0 := h1.2 h.er
 have h4 : trL (puV 0 l) t 0 = (trT (puV 0 l) 0 (treeOf t)).flat := by unfold trL; rw [if_pos h3]
 have h5 : (reR l (nodesN t)).length = (trL (puV 0 l) t 0).length := by rw [h2, h4, List.length_reverse]
 refine ⟨h3, fun hl => ?_, fun hl => ?_⟩
 ·
  rw [← h5]
  rcases h.out with q1 | ⟨_, q3⟩
  · rw [← q1]; exact hl
  · omega
 ·
  rcases h.out with q1 | ⟨q1, _⟩
  · rw [q1, h2, List.reverse_reverse, h4]
  · omega
theorem re_err {l : List (List Nd)} {t : List Nd} {x : Nd × Int} (hc : chk t = 0) (hl : oks l) (hx : x ∈ nodesN t) (he : reE l x ≠ 0) : trEL (puV 0 l) t 0 = 2 := by
 obtain ⟨hw, _, _, _⟩ := treeOf_ok hc
 obtain ⟨h1, _⟩ := re_T l (treeOf t) 0 hw
 rw [← nodesN_vis hc] at h1
 rcases pu_only hl (treeOf t) 0 (Int.le_refl _) with h | h
 · exact absurd (h1.1 h x hx) he
 · exact h
theorem re_other {l : List (List Nd)} {n : Nd} {u : Int} (h : ¬ n.K = 0) : reE l (n, u) = 0 ∧ reL l (n, u) = [n] := by simp [reE, reL, h]
theorem re_low {l : List (List Nd)} {n : Nd} {u : Int} (h : n.K = 0) (h1 : n.N < u) : reE l (n, u) = 0 ∧ reL l (n, u) = [n] := by
 have : n.N - u < 0 := by omega
 simp [reE, reL, h, puV, this, T.flat_mk, T.flats_nil]
theorem re_keep {l : List (List Nd)} {x : Nd × Int} (h : ¬ x.1.K = 0 ∨ x.1.N < x.2) : reE l x = 0 ∧ [x.1] = (reL l x).reverse := by
 by_cases hk : x.1.K = 0
 ·
  have h1 : x.1.N < x.2 := by
   rcases h with h | h
   · exact absurd hk h
   · exact h
  have h2 := re_low (l := l) (n := x.1) (u := x.2) hk h1
  exact ⟨h2.1, by rw [show reL l x = [x.1] from h2.2]; rfl⟩
 ·
  have h2 := re_other (l := l) (n := x.1) (u := x.2) hk
  exact ⟨h2.1, by rw [show reL l x = [x.1] from h2.2]; rfl⟩
theorem re_in {l : List (List Nd)} {n : Nd} {u : Int} (h : n.K = 0) (h1 : ¬ n.N < u) (h2 : n.N - u < l.length) : reE l (n, u) = sfE (nthL l (n.N - u).toNat) u 0 ∧ (sfE (nthL l (n.N - u).toNat) u 0 = 0 → reL l (n, u) = sfA (nthL l (n.N - u).toNat) u 0) := by
 have e1 : ¬ n.N - u < 0 := by omega
 have e2 : n.N - u < 0 + (l.length : Int) := by omega
 have e3 : nthLs l (n.N - u - 0) = nthL l (n.N - u).toNat := by unfold nthLs; congr 1; omega
 have e4 : u + 0 = u := by omega
 simp only [reE, reL, h, if_true, puV, e1, e2, if_false, e3, e4]
 exact ⟨trivial, fun hs => sf_flat hs⟩
theorem re_out {l : List (List Nd)} {n : Nd} {u : Int} (hr : right n = true) (h : n.K = 0) (h1 : ¬ n.N < u) (h2 : ¬ n.N - u < l.length) : reE l (n, u) = 0 ∧ reL l (n, u) = [⟨n.K, n.N - l.length, n.M, n.S⟩] := by
 have e1 : ¬ n.N - u < 0 := by omega
 have e2 : ¬ n.N - u < 0 + (l.length : Int) := by omega
 obtain ⟨e3, _, _⟩ := var_node hr h
 simp only [reE, reL, h, if_true, puV, e1, e2, if_false, T.flat_mk, T.flats_nil, List.nil_append, true_and]
 rw [e3]
theorem nodesN_at {t : List Nd} {pre : List (Nd × Int)} {x : Nd × Int} (hc : chk t = 0) (h : pre ++ [x] <+: nodesN t) : x ∈ nodesN t ∧ right x.1 = true ∧ 0 ≤ x.2 ∧ x.2 ≤ 2 * t.length ∧ 0 ≤ x.1.N ∧ x.1.N ≤ 99 ∧ x.1 ∈ t := by
 obtain ⟨rest, hr⟩ := h
 have hm : x ∈ nodesN t := by rw [← hr]; simp
 obtain ⟨y, hy, rfl⟩ := List.mem_map.1 hm
 have h1 := vis_bd (treeOf t) 0 0 y hy
 rw [(treeOf_ok hc).2.1] at h1
 have hlt : y.1.toNat < t.length := by omega
 have h2 := right_at (meas_chk hc) hlt
 have h3 := right_N h2
 exact ⟨hm, h2, by omega, by omega, h3.1, h3.2, nth_mem hlt⟩
theorem poE_err {t : List Nd} {l : List (List Nd)} {x : Nd × Int} (hc : chk t = 0) (hl : oks l) (hx : x ∈ nodesN t) (he : reE l x ≠ 0) : poE t 0 l = 2 ∧ poA t 0 l = [] := by
 have h := re_err hc hl hx he
 have h2 := po_err (t := t) (k := 0) (l := l) (by rw [h]; decide)
 rw [h] at h2
 exact h2
theorem put_big {l : List (List Nd)} {t O : List Nd} (hc : chk t = 0) (h : OutI l (nodesN t) O) (hn : 4000 < O.length) : poE t 0 l = 21 ∧ poA t 0 l = [] := by
 obtain ⟨h1, h2, _⟩ := h.all hc
 obtain ⟨h3, h4⟩ := po_chk h1
 rw [h3, h4, chk_size (h2 hn)]
 exact ⟨rfl, if_neg (by decide)⟩
theorem put_all {l : List (List Nd)} {t O : List Nd} (hc : chk t = 0) (h : OutI l (nodesN t) O) (hn : O.length ≤ 4000) : poE t 0 l = chk O.reverse ∧ poA t 0 l = if chk O.reverse = 0 then O.reverse else [] := by
 obtain ⟨h1, _, h2⟩ := h.all hc
 obtain ⟨h3, h4⟩ := po_chk h1
 rw [h2 hn]
 exact ⟨h3, h4⟩
theorem put_sml {l : List (List Nd)} {t O : List Nd} (hc : chk t = 0) (hs : sml t) (hl : ∀ x ∈ l, sml x) (h : OutI l (nodesN t) O) (hn : O.length ≤ 4000) : sml O.reverse := by
 rw [(h.all hc).2.2 hn]
 exact trL_sml (puV_sml hl) (meas_chk hc) hs 0
end
section
/- Several terms checked, and put into one. -/
def ckE : List (List Nd) → Int
 | [] => 0
 | p :: l => if chk p = 0 then ckE l else chk p
theorem ckE_at {L : List (List Nd)} {k : Nat} (h : ∀ i, i < k → chk (nthL L i) = 0) (hk : k < L.length) (he : ¬ chk (nthL L k) = 0) : ckE L = chk (nthL L k) := by
 induction L generalizing k with
 | nil => simp at hk
 | cons p l ih =>
  cases k with
  | zero =>
   have : nthL (p :: l) 0 = p := rfl
   rw [this] at he ⊢
   simp [ckE, he]
  | succ k =>
   have h0 : chk p = 0 := h 0 (by omega)
   have : nthL (p :: l) (k + 1) = nthL l k := by simp [nthL]
   rw [this] at he ⊢
   simp only [ckE, h0, if_true]
   exact ih (fun i hi => by have := h (i + 1) (by omega); simpa [nthL] using this) (by simpa using hk) he
theorem ckE_all {L : List (List Nd)} {k : Nat} (h : ∀ i, i < k → chk (nthL L i) = 0) (hk : L.length ≤ k) : ckE L = 0 ∧ oks L := by
 have hall : oks L := fun p hp => by
  obtain ⟨i, hi, rfl⟩ := List.getElem_of_mem hp
  have := h i (by omega)
  simpa [nthL, hi] using this
 refine ⟨?_, hall⟩
 clear h hk
 induction L with
 | nil => rfl
 | cons p l ih =>
  simp only [ckE, hall p (by simp), if_true]
  exact ih (fun q hq => hall q (by simp [hq]))
def inE (t : List Nd) (l : List (List Nd)) : Int := if ckE (t :: l) = 0 then poE t 0 l else ckE (t :: l)
def inA (t : List Nd) (l : List (List Nd)) : List Nd := if inE t l = 0 then poA t 0 l else []
theorem in_err {t : List Nd} {l : List (List Nd)} (h : ¬ ckE (t :: l) = 0) : inE t l = ckE (t :: l) ∧ inA t l = [] := by
 have : inE t l = ckE (t :: l) := if_neg h
 refine ⟨this, ?_⟩
 unfold inA
 rw [this, if_neg h]
theorem in_ok {t : List Nd} {l : List (List Nd)} (h : ckE (t :: l) = 0) : inE t l = poE t 0 l ∧ inA t l = poA t 0 l := by
 have e : inE t l = poE t 0 l := if_pos h
 refine ⟨e, ?_⟩
 unfold inA
 rw [e]
 exact po_same _ _ _
theorem in_bad {t : List Nd} {l : List (List Nd)} (h : ¬ inE t l = 0) : inA t l = [] := by unfold inA; rw [if_neg h]
theorem nthS_cons (a : Sl) (l : List Sl) (k : Nat) : (nthS ([a] ++ l) k).2.2 = nthL (a.2.2 :: lsts l) k := by
 rw [lsts_nth, lsts_app]
 rfl
theorem hyp_step {L : List (List Nd)} {k : Nat} (h : ∀ i, i < k → chk (nthL L i) = 0) (hk : chk (nthL L k) = 0) : ∀ i, i < k + 1 → chk (nthL L i) = 0 := fun i hi => by
 by_cases e : i = k
 · subst e; exact hk
 · exact h i (by omega)
theorem poA_len (t : List Nd) (k : Int) (l : List (List Nd)) : (poA t k l).length ≤ 4000 := by
 unfold poA
 split
 ·
  rename_i h
  unfold poE at h
  split at h
  · exact (treeOf_ok h).2.2.2
  · rename_i h2; exact absurd h h2
 · simp
theorem inA_len (t : List Nd) (l : List (List Nd)) : (inA t l).length ≤ 4000 := by
 unfold inA
 split
 · exact poA_len t 0 l
 · simp
theorem poA_sml {t : List Nd} {l : List (List Nd)} (hc : chk t = 0) (hs : sml t) (hl : ∀ x ∈ l, sml x) : sml (poA t 0 l) := by
 unfold poA
 split
 · exact trL_sml (puV_sml hl) (meas_chk hc) hs 0
 · intro k hk; simp at hk
theorem inA_sml {t : List Nd} {l : List (List Nd)} (hs : sml t) (hl : ∀ x ∈ l, sml x) : sml (inA t l) := by
 by_cases h : ckE (t :: l) = 0
 ·
  rw [(in_ok h).2]
  have hc : chk t = 0 := by
   by_cases hc : chk t = 0
   · exact hc
   · simp only [ckE, hc, if_false] at h
  exact poA_sml hc hs hl
 · rw [(in_err h).2]; intro k hk; simp at hk
end
section
/- Terms that may have an error: a slice of nodes with a number; slices of them. -/
open Go Go.RowKit
abbrev Bu := Sl × Int
def buz : Bu := (slz, 0)
def encU (s : Bu) : List Value := [.slice s.1.1 s.1.2.2.length s.1.2.1, .int .i64 s.2]
def encUs (l : List Bu) : List Value := l.flatMap encU
def nthU (t : List Bu) (k : Nat) : Bu := t.getD k buz
theorem encU_len (s : Bu) : (encU s).length = 2 := rfl
theorem encU_one (l : List Bu) : ∀ u ∈ encUs l, u.oneCell' = true := by
 intro u hu
 obtain ⟨n, _, hn⟩ := List.mem_flatMap.1 hu
 simp [encU] at hn
 rcases hn with rfl | rfl <;> rfl
theorem us_elem {w : World} {I : Nat → Prop} {A : Option Addr} {k : Nat} {t : List Bu} (h : RowI w I 2 A t.length (encUs t)) (hk : k < t.length) : ElemAt w A (k * 2) (encU (nthU t k)) := by
 have := h.elem hk
 rwa [show (encUs t) = t.flatMap encU from rfl, enc_at encU_len t k hk buz] at this
def dAllU (t : List Bu) : Dat := ⟨fun w I => ∀ s ∈ t, s.1.2.2.length ≤ s.1.2.1 ∧ RowI w I 4 s.1.1 s.1.2.2.length (encNs s.1.2.2),
 fun _ _ _ _ _ h hk s hs => ⟨(h s hs).1, (h s hs).2.mono hk⟩⟩
theorem nthU_mem {t : List Bu} {k : Nat} (h : k < t.length) : nthU t k ∈ t := by
 have : nthU t k = t[k] := by simp [nthU, h]
 rw [this]
 exact List.getElem_mem h
section
variable {w : World} {I : Nat → Prop}
theorem allU_at {t : List Bu} {k : Nat} (h : (dAllU t).φ w I) (hk : k < t.length) : (dRow 4 (nthU t k).1.1 (nthU t k).1.2.2.length (nthU t k).1.2.1 (encNs (nthU t k).1.2.2)).φ w I := h _ (nthU_mem hk)
theorem allU_nil : (dAllU []).φ w I := fun _ h => by cases h
theorem allU_cons {A : Option Addr} {c : Nat} {L : List Nd} {e : Int} {t : List Bu} (h : (dRow 4 A L.length c (encNs L)).φ w I) (ht : (dAllU t).φ w I) : (dAllU (((A, c, L), e) :: t)).φ w I := fun s hs => by
 rcases List.mem_cons.1 hs with rfl | hs
 · exact h
 · exact ht s hs
theorem allU_append {a b : List Bu} (ha : (dAllU a).φ w I) (hb : (dAllU b).φ w I) : (dAllU (a ++ b)).φ w I := fun s hs => by
 rcases List.mem_append.1 hs with hs | hs
 · exact ha s hs
 · exact hb s hs
theorem allU_take {a : List Bu} (ha : (dAllU a).φ w I) (k : Nat) : (dAllU (a.take k)).φ w I := fun s hs => ha s (List.mem_of_mem_take hs)
end
theorem ret_u {A : Option Addr} {n n' c : Nat} {e e' : Int} (h : n = n') (h2 : e = e') : Value.agg #[.slice A n c, .int .i64 e] = .agg #[.slice A n' c, .int .i64 e'] := by rw [h, h2]
abbrev Bd := List Nd × Int
def blts (t : List Bu) : List Bd := t.map fun s => (s.1.2.2, s.2)
def nthD (t : List Bd) (k : Nat) : Bd := t.getD k ([], 0)
theorem blts_len (t : List Bu) : (blts t).length = t.length := by simp [blts]
theorem blts_nth (t : List Bu) (k : Nat) : ((nthU t k).1.2.2, (nthU t k).2) = nthD (blts t) k := by
 unfold nthU nthD blts
 by_cases h : k < t.length
 · simp [h]
 · simp [List.getD_eq_getElem?_getD, List.getElem?_eq_none (by omega : t.length ≤ k), buz, slz]
theorem blts_app (a b : List Bu) : blts (a ++ b) = blts a ++ blts b := by simp [blts]
theorem blts_take (a : List Bu) (k : Nat) : blts (a.take k) = (blts a).take k := by simp [blts]
theorem blts_cons (s : Bu) (l : List Bu) : blts (s :: l) = (s.1.2.2, s.2) :: blts l := rfl
theorem blts_nil : blts [] = [] := rfl
def fsE : List Bd → Bd
 | [] => ([], 0)
 | x :: l => if x.2 = 0 then fsE l else x
def bOf (n : Nd) (l : List Bd) : Bd := if (fsE l).2 = 0 then ((l.map (·.1)).flatten ++ [n], 0) else ([], (fsE l).2)
def bUp (a : Bd) (n k : Int) : Bd := if a.2 = 0 then (sfA a.1 n k, sfE a.1 n k) else a
def bDone (a : Bd) : Bd := if a.2 = 0 then (if chk a.1 = 0 then (a.1, 0) else ([], chk a.1)) else ([], a.2)
theorem fsE_take {l : List Bd} {k : Nat} (h : ∀ i, i < k → (nthD l i).2 = 0) (hk : k < l.length) (he : ¬ (nthD l k).2 = 0) : fsE l = nthD l k := by
 induction l generalizing k with
 | nil => simp at hk
 | cons x l ih =>
  cases k with
  | zero => exact if_neg he
  | succ k =>
   have h0 : x.2 = 0 := h 0 (by omega)
   rw [fsE, if_pos h0]
   exact ih (fun i hi => h (i + 1) (by omega)) (by simpa using hk) he
theorem fsE_all {l : List Bd} (h : ∀ i, i < l.length → (nthD l i).2 = 0) : (fsE l).2 = 0 := by
 induction l with
 | nil => rfl
 | cons x l ih =>
  have h0 : x.2 = 0 := h 0 (by simp)
  rw [fsE, if_pos h0]
  exact ih (fun i hi => h (i + 1) (by simpa using hi))
theorem bOf_err {n : Nd} {t : List Bu} {k : Nat} (h : ∀ i, i < k → (nthU t i).2 = 0) (hk : k < t.length) (he : ¬ (nthU t k).2 = 0) : bOf n (blts t) = ([], (nthU t k).2) := by
 have h1 : fsE (blts t) = nthD (blts t) k := fsE_take (fun i hi => by rw [← blts_nth]; exact h i hi) (by rw [blts_len]; exact hk) (by rw [← blts_nth]; exact he)
 unfold bOf
 rw [h1, ← blts_nth, if_neg he]
theorem bOf_ok {n : Nd} {t : List Bu} (h : ∀ i, i < t.length → (nthU t i).2 = 0) : bOf n (blts t) = (((blts t).map (·.1)).flatten ++ [n], 0) := by
 have h1 : (fsE (blts t)).2 = 0 := fsE_all (fun i hi => by rw [← blts_nth]; exact h i (by rw [blts_len] at hi; exact hi))
 unfold bOf
 rw [if_pos h1]
theorem u_step {t : List Bu} {k : Nat} (h : ∀ i, i < k → (nthU t i).2 = 0) (hk : (nthU t k).2 = 0) : ∀ i, i < k + 1 → (nthU t i).2 = 0 := fun i hi => by
 by_cases e : i = k
 · subst e; exact hk
 · exact h i (by omega)
def bAt (a : Bd) (l : List Bd) : Bd := if ¬ a.2 = 0 then a else if ¬ (fsE l).2 = 0 then fsE l else (inA a.1 (l.map (·.1)), inE a.1 (l.map (·.1)))
theorem bAt_err {a : List Nd} {t : List Bu} {k : Nat} (h : ∀ i, i < k → (nthU t i).2 = 0) (hk : k < t.length) (he : ¬ (nthU t k).2 = 0) : bAt (a, 0) (blts t) = ((nthU t k).1.2.2, (nthU t k).2) := by
 have h1 : fsE (blts t) = nthD (blts t) k := fsE_take (fun i hi => by rw [← blts_nth]; exact h i hi) (by rw [blts_len]; exact hk) (by rw [← blts_nth]; exact he)
 unfold bAt
 rw [if_neg (not_not_intro rfl), h1, ← blts_nth, if_pos he]
theorem bAt_ok {a : List Nd} {t : List Bu} (h : ∀ i, i < t.length → (nthU t i).2 = 0) : bAt (a, 0) (blts t) = (inA a ((blts t).map (·.1)), inE a ((blts t).map (·.1))) := by
 have h1 : (fsE (blts t)).2 = 0 := fsE_all (fun i hi => by rw [← blts_nth]; exact h i (by rw [blts_len] at hi; exact hi))
 unfold bAt
 rw [if_neg (not_not_intro rfl), if_neg (not_not_intro h1)]
theorem ckE_snoc : ∀ (l : List (List Nd)) (x : List Nd), ckE (l ++ [x]) = if ckE l = 0 then chk x else ckE l
 | [], x => by simp only [List.nil_append, ckE]; split <;> simp_all
 | y :: l, x => by
  have := ckE_snoc l x
  simp only [List.cons_append, ckE]
  split
  · exact this
  · rename_i h; first | rfl | (rw [if_neg h])
theorem ckE_pre : ∀ (l m : List (List Nd)), ¬ ckE l = 0 → ckE (l ++ m) = ckE l
 | [], m, h => absurd rfl h
 | y :: l, m, h => by
  simp only [List.cons_append, ckE] at h ⊢
  split at h
  · rename_i hy; rw [if_pos hy, if_pos hy]; exact ckE_pre l m h
  · rename_i hy; rw [if_neg hy, if_neg hy]
theorem ck_next {t : List Nd} {l : List Sl} {k : Nat} (hk : k < l.length) (h : ckE (t :: (lsts l).take k) = 0) : chk (nthS l k).2.2 = ckE (t :: (lsts l).take (k + 1)) := by
 have e : (lsts l)[k]? = some (nthS l k).2.2 := by
  unfold lsts nthS
  simp [hk]
 rw [List.take_add_one, e, ← List.cons_append]
 have := ckE_snoc (t :: (lsts l).take k) (nthS l k).2.2
 rw [if_pos h] at this
 exact this.symm
theorem ck_end {t : List Nd} {l : List Sl} {k : Nat} (h : ¬ k < l.length ∨ ¬ ckE (t :: (lsts l).take k) = 0) : ckE (t :: (lsts l).take k) = ckE (t :: lsts l) := by
 rcases h with h | h
 · rw [List.take_of_length_le (by rw [lsts_len]; omega)]
 ·
  have := ckE_pre (t :: (lsts l).take k) ((lsts l).drop k) h
  rw [List.cons_append, List.take_append_drop] at this
  exact this.symm
theorem blts_snoc {l : List Bu} {k : Nat} (h : k < l.length) : (blts (l.take (k + 1))).map (·.1) = (blts (l.take k)).map (·.1) ++ [(nthU l k).1.2.2] := by
 have e : nthU l k = l[k] := by simp [nthU, h]
 rw [List.take_add_one, List.getElem?_eq_getElem h, e, blts_app, List.map_append]
 rfl
theorem bl_flat {l : List Bu} {k : Nat} (hb : ∀ x ∈ blts l, x.1.length ≤ 1000000) (hl : l.length ≤ 10) (hk : k ≤ l.length) : ((blts (l.take k)).map (·.1)).flatten.length ≤ 50000000 := by
 have h1 : ∀ (m : List Bd), (∀ x ∈ m, x.1.length ≤ 1000000) → (m.map (·.1)).flatten.length ≤ m.length * 1000000 := fun m => by
  induction m with
  | nil => simp
  | cons a t ih =>
   intro h
   have q1 := h a (by simp)
   have q2 := ih (fun x hx => h x (by simp [hx]))
   rw [List.map_cons, List.flatten_cons, List.length_append, List.length_cons, Nat.add_mul]
   omega
 have h2 := h1 (blts (l.take k)) (fun x hx => by rw [blts_take] at hx; exact hb x (List.mem_of_mem_take hx))
 rw [blts_len, List.length_take] at h2
 have h3 : min k l.length * 1000000 ≤ 10 * 1000000 := Nat.mul_le_mul_right _ (by omega)
 omega
theorem ckl_oks {t : List Nd} {l : List Sl} (h : ckE (t :: lsts l) = 0) : measB t = true ∧ t.length ≤ 4000 ∧ ∀ x ∈ lsts l, x.length ≤ 4000 := by
 have h1 : ∀ (m : List (List Nd)), ckE m = 0 → ∀ x ∈ m, chk x = 0 := fun m => by
  induction m with
  | nil => intro _ x hx; cases hx
  | cons y m ih =>
   intro hm x hx
   simp only [ckE] at hm
   split at hm
   ·
    rcases List.mem_cons.1 hx with rfl | hx
    · assumption
    · exact ih hm x hx
   · contradiction
 have h2 := h1 _ h
 exact ⟨meas_chk (h2 t (by simp)), (treeOf_ok (h2 t (by simp))).2.2.2, fun x hx => (treeOf_ok (h2 x (by simp [hx]))).2.2.2⟩
theorem and_of2 {A B : Prop} [Decidable A] [Decidable B] (h : (decide A && decide B) = true) : A ∧ B := by simpa using h
theorem ck_end2 {t : List Nd} {l : List Sl} {k : Nat} {ev : Int} (hev : ev = ckE (t :: (lsts l).take k)) (h : (decide ((k : Int) < (l.length : Int)) && decide (ev = 0)) = false) : ev = ckE (t :: lsts l) := by
 refine hev.trans (ck_end ?_)
 by_cases hk : k < l.length
 ·
  right
  intro h0
  rw [← hev] at h0
  rw [decide_eq_true h0, decide_eq_true (by omega)] at h
  cases h
 · exact .inl hk
end
section
/- The parts of a term by its measures, as term.backward hands them over; slices of slices made. -/
open Go Go.RowKit
theorem allTs_pre {st st' : List T} {t : List Nd} : ∀ (_ : scanT st t = some st'), ∃ r, allTs 0 st' = allTs 0 st ++ r := by
 induction t generalizing st with
 | nil =>
  intro h
  simp only [scanT] at h
  obtain rfl := Option.some.inj h
  exact ⟨[], by simp⟩
 | cons n t ih =>
  intro h
  simp only [scanT] at h
  cases hp : pushT st n with
  | none => simp [hp] at h
  | some s =>
   simp only [hp] at h
   obtain ⟨r, hr⟩ := ih h
   have := (push_meas hp rfl).2
   exact ⟨_, by rw [hr, this, List.append_assoc]⟩
theorem measL_from {t : List Nd} {e : Nat} (h : measB t = true) (he : e < t.length) : (nthM (measL t) e).1 = (frL t e : Int) := by
 obtain ⟨x, hs, h2, _, hf⟩ := measB_tree h
 obtain ⟨st, hst⟩ := meas_scan h e
 obtain ⟨hr, hm⟩ := meas_at h he hst
 have h3 := scan_step hst he
 obtain ⟨st', hp, _⟩ := push_some hr hm
 rw [hp] at h3
 have hfl := scan_flats hst (by omega)
 have h4 := (push_meas hp hfl).2
 have h5 : scanT st' (t.drop (e + 1)) = some [x] := by
  have := hs
  rw [show t = t.take (e + 1) ++ t.drop (e + 1) from (List.take_append_drop _ _).symm, scanT_append, h3] at this
  simpa using this
 obtain ⟨r, hr2⟩ := allTs_pre h5
 have hal : (allTs 0 st).length = e := by rw [allTs_length, hfl]
 have h6 : measL t = allTs 0 st ++ ((fromQ e (meas 0 st) (st.length - many (nth t e)) (many (nth t e)), deepQ (meas 0 st) (st.length - many (nth t e)) (many (nth t e))) :: r) := by
  rw [h2]
  have : allTs 0 [x] = allT 0 x := by simp [allTs]
  rw [← this, hr2, h4, List.append_assoc]
  rfl
 have h7 : nthM (measL t) e = (fromQ e (meas 0 st) (st.length - many (nth t e)) (many (nth t e)), deepQ (meas 0 st) (st.length - many (nth t e)) (many (nth t e))) := by
  rw [h6, nthM, List.getD_eq_getElem?_getD, List.getElem?_append_right (by omega), hal]
  simp
 rw [h7, ← posL_end h he]
 unfold posL
 rw [hst]
 simp only
 unfold fromQ
 split
 ·
  rename_i h0
  rw [h0, Nat.sub_zero, List.take_length, hfl]
 ·
  obtain ⟨o, h8, h9⟩ := nthM_meas (st := st) (i := st.length - many (nth t e)) (by omega)
  rw [h8, h9]
theorem ps_step {t : List Nd} {j : Nat} (h : measB t = true) (hj : j < many (nth t (t.length - 1))) : 0 < posL t (t.length - 1) j ∧ posL t (t.length - 1) j ≤ t.length - 1 ∧ (nthM (measL t) (posL t (t.length - 1) j - 1)).1 = (posL t (t.length - 1) (j + 1) : Int) ∧ posL t (t.length - 1) (j + 1) < posL t (t.length - 1) j := by
 have hp := meas_pos h
 obtain ⟨h1, h2, h3, h4⟩ := posL_step h (show t.length - 1 < t.length by omega) hj
 refine ⟨h1, h2, ?_, h4⟩
 rw [measL_from h (by omega), h3]
def bkAt (A : Option Addr) (c : Nat) (t : List Nd) (k : Nat) : Int × Sl :=
 (((many (nth t (t.length - 1)) - 1 - k : Nat) : Int), ((if c = posL t (t.length - 1) (k + 1) then A else A.map (·.add (posL t (t.length - 1) (k + 1) * 4))), c - posL t (t.length - 1) (k + 1), (t.drop (posL t (t.length - 1) (k + 1))).take (posL t (t.length - 1) k - posL t (t.length - 1) (k + 1))))
def bkS (A : Option Addr) (c : Nat) (t : List Nd) : List (Int × Sl) := (List.range (many (nth t (t.length - 1)))).map (bkAt A c t)
theorem bkS_step {A : Option Addr} {c : Nat} {t : List Nd} {k : Nat} (h : k < many (nth t (t.length - 1))) : (bkS A c t).take k ++ [bkAt A c t k] = (bkS A c t).take (k + 1) := by
 rw [List.take_add_one]
 have : (bkS A c t)[k]? = some (bkAt A c t k) := by simp [bkS, h]
 rw [this]
 rfl
theorem bkS_len (A : Option Addr) (c : Nat) (t : List Nd) : (bkS A c t).length = many (nth t (t.length - 1)) := by simp [bkS]
theorem bkS_all {A : Option Addr} {c : Nat} {t : List Nd} {k : Nat} (h : many (nth t (t.length - 1)) ≤ k) : (bkS A c t).take k = bkS A c t := List.take_of_length_le (by rw [bkS_len]; exact h)
theorem bkS_pre {A : Option Addr} {c : Nat} {t : List Nd} {k : Nat} {x : Int × Sl} (h : k < many (nth t (t.length - 1))) (hx : x = bkAt A c t k) : (bkS A c t).take k ++ [x] <+: bkS A c t := by
 rw [hx, bkS_step h]
 exact List.take_prefix _ _
theorem bk_eq {A : Option Addr} {c : Nat} {t : List Nd} {k f : Nat} {i : Int} (hi : i = ((many (nth t (t.length - 1)) - 1 - k : Nat) : Int)) (hf : f = posL t (t.length - 1) (k + 1)) :
  ((i, ((if c = f then A else A.map (·.add (f * 4))), c - f, (t.drop f).take (posL t (t.length - 1) k - f))) : Int × Sl) = bkAt A c t k := by
 subst hi hf
 rfl
theorem bkS_next {A : Option Addr} {c : Nat} {t : List Nd} {pre : List (Int × Sl)} {k : Nat} {x : Int × Sl} (hk : pre.length = k) (h : pre ++ [x] <+: bkS A c t) : k < many (nth t (t.length - 1)) ∧ x = bkAt A c t k := by
 obtain ⟨r, hr⟩ := h
 have hl := congrArg List.length hr
 rw [List.length_append, List.length_append, List.length_singleton, bkS_len, hk] at hl
 have hlt : k < many (nth t (t.length - 1)) := by omega
 have h1 : (bkS A c t)[k]? = some x := by
  rw [← hr, List.append_assoc, List.getElem?_append_right (by omega), hk]
  simp
 refine ⟨hlt, ?_⟩
 simp [bkS, hlt] at h1
 exact h1.symm
theorem bk_row {A : Option Addr} {c : Nat} {t : List Nd} {w : World} {I : Nat → Prop} {k : Nat} (hb : measB t = true) (h : (dRow 4 A t.length c (encNs t)).φ w I) (hk : k < many (nth t (t.length - 1))) :
  (dRow 4 (bkAt A c t k).2.1 (bkAt A c t k).2.2.2.length (bkAt A c t k).2.2.1 (encNs (bkAt A c t k).2.2.2)).φ w I := by
 obtain ⟨h1, h2, _, h4⟩ := ps_step hb hk
 exact cut_row (f := encN) (L := t) h encN_len (by omega)
theorem arg_step {t : List Nd} {Ls : List Sl} {k : Nat} {A : Option Addr} {c : Nat} {A' : Option Addr} {c' : Nat} (hb : measB t = true) (hL : lsts Ls.reverse = ptD t k) (hk : k < many (nth t (t.length - 1))) : lsts (Ls ++ [((A', c', (bkAt A c t k).2.2.2) : Sl)]).reverse = ptD t (k + 1) := by
 rw [List.reverse_append]
 exact parts_step hb hL hk rfl rfl
theorem rep_set {n k i : Nat} {Ls : List Sl} {x : Sl} (h : k < n) (hi : i = n - 1 - k) : (List.replicate (n - k) slz ++ Ls.reverse).set i x = List.replicate (n - (k + 1)) slz ++ (Ls ++ [x]).reverse := by
 subst hi
 rw [List.set_append_left _ _ (by rw [List.length_replicate]; omega), show n - k = (n - 1 - k) + 1 by omega, List.replicate_succ', List.set_append_right _ _ (by rw [List.length_replicate]; omega)]
 simp
 omega
theorem all_rep {w : World} {I : Nat → Prop} (n : Nat) : (dAll (List.replicate n slz)).φ w I := fun s hs => by
 rw [List.eq_of_mem_replicate hs]
 exact ⟨Nat.le_refl _, RowI.nil _ _ _ _⟩
def agA (t : List Nd) : List (List Nd) := if chk t = 0 then ptL t else []
theorem agA_ok {t : List Nd} (h : chk t = 0) : agA t = ptL t := if_pos h
theorem agA_no {t : List Nd} (h : ¬ chk t = 0) : agA t = [] := if_neg h
theorem zeros_encS (n : Nat) : (List.replicate n slz).flatMap encS = List.replicate n (.slice none 0 0) := by
 induction n with
 | zero => rfl
 | succ n ih => rw [List.replicate_succ, List.flatMap_cons, ih]; rfl
section
variable {P : Program} {X : Prop} {Next : Act → World → Prop} {o : Oper} {a : Act} {w w0 : World} {N : Nat} {l : List (Nat × Value)} {d : Nat} {Z M : Nat → Prop} {m : List Res} {ds : List Dat}
theorem m_makeSs {t e : TypeId} {n by_ : Nat} {x y : Operand} {p q : Int} {kx ky : IntKind} (hs : SteV P X Next o a w) (hR : Reg a N l) (hS : St w0 Z M w m ds) (hd : o.dst = some d) (ho : o.op = .makeSlice t x y) (hx : ev l x = some (.int kx p)) (hy : ev l y = some (.int ky q))
  (hp : p = (n : Int)) (hq' : q = (n : Int)) (ht : P.underlying t = some (.slice e)) (hi : (P.info? e).map (fun i => (i.zero, i.size, i.bytes)) = some (some (.slice none 0 0), 1, by_)) (hby : by_ ≤ 100) (hn : n ≤ 1000) (hdN : d < N)
  (k : ∀ a' w' g, Reg a' N ((d, .slice (some ⟨g, 0, none⟩) (List.replicate n slz).length (List.replicate n slz).length) :: l) → St w0 Z M w' (m ++ [.row (some ⟨g, 0, none⟩) (List.replicate n slz).length (List.replicate n slz).length e 1 (encSs (List.replicate n slz))]) ds → Next a' w') : X :=
 m_makeSlice hs hR hS hd ho hx hy hp hq' ht hi rfl rfl (decide_eq_true (by omega)) (by omega) hdN (fun a' w' g hR' hS' => k a' w' g (by rw [List.length_replicate]; exact hR') (by rw [List.length_replicate, encSs, zeros_encS]; exact hS'))
end
end
section
/- Slices of slices of slices of nodes; calls walked in place; loops over functions that hand over nothing. -/
open Go Go.RowKit
abbrev Tl := Option Addr × Nat × List Sl
def tlz : Tl := (none, 0, [])
def encT (s : Tl) : List Value := [.slice s.1 s.2.2.length s.2.1]
def encTs (l : List Tl) : List Value := l.flatMap encT
def nthT (t : List Tl) (k : Nat) : Tl := t.getD k tlz
theorem encT_len (s : Tl) : (encT s).length = 1 := rfl
theorem ts_elem {w : World} {I : Nat → Prop} {A : Option Addr} {k : Nat} {t : List Tl} (h : RowI w I 1 A t.length (encTs t)) (hk : k < t.length) : ElemAt w A (k * 1) (encT (nthT t k)) := by
 have := h.elem hk
 rwa [show (encTs t) = t.flatMap encT from rfl, enc_at encT_len t k hk tlz] at this
def dAllT (t : List Tl) : Dat := ⟨fun w I => ∀ s ∈ t, (dRow 1 s.1 s.2.2.length s.2.1 (encSs s.2.2)).φ w I ∧ (dAll s.2.2).φ w I, fun _ _ _ _ hs h hk s hm => ⟨(dRow _ _ _ _ _).mono _ _ _ _ hs (h s hm).1 hk, (dAll _).mono _ _ _ _ hs (h s hm).2 hk⟩⟩
theorem nthT_mem {t : List Tl} {k : Nat} (h : k < t.length) : nthT t k ∈ t := by
 have : nthT t k = t[k] := by simp [nthT, h]
 rw [this]
 exact List.getElem_mem h
theorem allT_at {w : World} {I : Nat → Prop} {t : List Tl} {k : Nat} (h : (dAllT t).φ w I) (hk : k < t.length) : (dRow 1 (nthT t k).1 (nthT t k).2.2.length (nthT t k).2.1 (encSs (nthT t k).2.2)).φ w I ∧ (dAll (nthT t k).2.2).φ w I := h _ (nthT_mem hk)
theorem allT_nil {w : World} {I : Nat → Prop} : (dAllT []).φ w I := fun _ h => by cases h
def lstsT (t : List Tl) : List (List (List Nd)) := t.map fun s => lsts s.2.2
def nthLL (c : List (List (List Nd))) (k : Nat) : List (List Nd) := c.getD k []
theorem lstsT_len (t : List Tl) : (lstsT t).length = t.length := by simp [lstsT]
theorem lstsT_nth (t : List Tl) (k : Nat) : lsts (nthT t k).2.2 = nthLL (lstsT t) k := by
 unfold nthT nthLL lstsT
 by_cases h : k < t.length
 · simp [h]
 · simp [List.getD_eq_getElem?_getD, List.getElem?_eq_none (by omega : t.length ≤ k), tlz, lsts]
section
variable {P : Program} {X : Prop} {Next : Act → World → Prop} {o : Oper} {a : Act} {w : World} {N : Nat} {l : List (Nat × Value)} {d : Nat}
theorem k_inl {f : FuncId} {xs : List Operand} {ts : Array TypeId} {vs : List Value} (hs : Ste P X Next o a w) (hR : Reg a N l) (hd : o.dst = some d)
  (ho : o.op = .call { callee := .value (.func f), args := xs.toArray, argTypes := ts }) (hx : evs l xs = some vs) (hdN : d < N) (hf : FOK P f)
  (hc : Calls P f vs.toArray w (fun e w' => ∃ v, e = .returned v ∧ ∀ a', Reg a' N ((d, v) :: l) → Next a' w')) : X := k_call hs hR hd ho hx hdN hf hc (fun _ _ h => h)
theorem k_inlV {g : Operand} {f : FuncId} {cs xv : List Value} {xs : List Operand} {ts : Array TypeId} {vs : List Value} (hs : Ste P X Next o a w) (hR : Reg a N l) (hd : o.dst = some d)
  (ho : o.op = .call { callee := .value g, args := xs.toArray, argTypes := ts }) (hg : ev l g = some (.func (.func f) #[] cs.toArray)) (hx : evs l xs = some vs) (hdN : d < N) (hf : FOK P f) (hv : vs ++ cs = xv)
  (hc : Calls P f xv.toArray w (fun e w' => ∃ v, e = .returned v ∧ ∀ a', Reg a' N ((d, v) :: l) → Next a' w')) : X :=
 k_callV (cs := cs.toArray) hs hR hd ho hg hx hdN hf (by subst hv; rw [List.append_toArray]; exact hc) (fun _ _ h => h)
end
section
variable {w0 w W : World} {Z M : Nat → Prop} {m : List Res} {ds : List Dat}
end
end
section
/- Shorter spellings of single steps. -/
open Go Go.RowKit
def putA : List Value → List Value → Option (List Value)
 | [], cs => some cs
 | _ :: _, [] => none
 | v :: vs, _ :: cs => match putA vs cs with | some r => some (v :: r) | none => none
def putJ (vs : List Value) : Nat → List Value → Option (List Value)
 | 0, cs => putA vs cs
 | _ + 1, [] => none
 | j + 1, c :: cs => match putJ vs j cs with | some r => some (c :: r) | none => none
def putO (cs : List Value) (j : Nat) (vs : List Value) : Option (List Value) := putJ vs j cs
theorem putA_eq : ∀ {vs cs r : List Value}, putA vs cs = some r → vs ++ cs.drop vs.length = r
 | [], cs, r, h => by cases h; simp
 | _ :: _, [], _, h => by cases h
 | v :: vs, c :: cs, r, h => by
  unfold putA at h
  split at h
  ·
   rename_i r' hr
   cases h
   rw [List.length_cons, List.drop_succ_cons, List.cons_append, putA_eq hr]
  · cases h
theorem putO_eq {cs : List Value} {j : Nat} {vs r : List Value} (h : putO cs j vs = some r) : cs.take j ++ vs ++ cs.drop (j + vs.length) = r := by
 unfold putO at h
 induction j generalizing cs r with
 | zero => simpa using putA_eq h
 | succ j ih =>
  cases cs with
  | nil => cases h
  | cons c cs =>
   unfold putJ at h
   split at h
   ·
    rename_i r' hr
    cases h
    rw [List.take_succ_cons, show j + 1 + vs.length = (j + vs.length) + 1 by omega, List.drop_succ_cons, List.cons_append, List.cons_append, ih hr]
   · cases h
def lstO {α : Type} : List α → Option (List α)
 | [] => some []
 | x :: l => match lstO l with | some r => some (x :: r) | none => none
theorem lstO_eq {α : Type} : ∀ {l r : List α}, lstO l = some r → l = r
 | [], _, h => by cases h; rfl
 | x :: l, r, h => by
  unfold lstO at h
  split at h
  ·
   rename_i r' hr
   cases h
   rw [lstO_eq hr]
  · cases h
def fillO (size : Nat) (z : List Value) : Nat → List (Nat × Value) → Option (List Value)
 | n, [] => lstO (List.replicate n z).flatten
 | n, (i, v) :: vs => match fillO size z n vs with | some r => putO r (i * size) v.cells.toList | none => none
def bldO (zs : List Value) (offs : List Nat) : List (Nat × Value) → Option (List Value)
 | [] => some zs
 | (i, v) :: vs => match bldO zs offs vs, offs[i]? with | some r, some j => putO r j v.cells.toList | _, _ => none
section
variable {P : Program} {ops : Array Oper} {Q : Exit → Act → World → Prop} {X : Prop} {Next : Act → World → Prop} {o : Oper} {a : Act} {w w0 w1 : World} {N : Nat} {l : List (Nat × Value)} {d : Nat} {Z M J : Nat → Prop} {m : List Res} {ds : List Dat} {ps : List (World → Prop)} {rest : List Oper}
theorem sto {t : TypeId} {x y : Operand} {g j n : Nat} {e : TypeId} {cs cs' : List Value} {v : Value} (i : Nat) (hR : Reg a N l) (hS : St w0 Z M w m ds) (k : ∀ a' w', Reg a' N l → St w0 Z M w' (m.set i (.box g e cs')) ds → Next a' w')
  (hs : Ste P X Next o a w := by first | exact se | exact st_op rfl (want_n rfl) | exact st_list_w (wt ‹_›) | exact st_op rfl (wt ‹_›)) (hd : o.dst = none := by exact rfl) (ho : o.op = .store t x y := by exact rfl) (hx : ev l x = some (.pointer (some ⟨g, j, none⟩)) := by exact rfl) (hy : ev l y = some v := by exact rfl)
  (hi : m[i]? = some (.box g e cs) := by exact rfl) (hq : Siz P t n := by infer_instance) (hn : n = v.cells.toList.length := by exact rfl) (hone : v.cells.toList.all Value.oneCell' = true := by exact rfl) (hfit : decide (j + v.cells.toList.length ≤ cs.length) = true := by exact rfl) (hcs : putO cs j v.cells.toList = some cs' := by exact rfl) : X :=
 m_store hs hR hS hd ho hx hy hi (by rw [← hn]; exact hq.h) hone hfit (putO_eq hcs) k
theorem alc {e : TypeId} {z : Value} {cs : List Value} (hR : Reg a N l) (hS : St w0 Z M w m ds) (k : ∀ a' w' g, Reg a' N ((d, .pointer (some ⟨g, 0, none⟩)) :: l) → St w0 Z M w' (m ++ [.box g e cs]) ds → Next a' w')
  (hs : SteV P X Next o a w := by first | exact sv | exact st_opV rfl (want_n rfl) | exact st_listV_w (wt ‹_›) | exact st_opV rfl (wt ‹_›)) (hd : o.dst = some d := by exact rfl) (ho : o.op = .alloc e := by exact rfl) (hz : Zer P e z := by infer_instance) (hc : lstO z.cells.toList = some cs := by exact rfl) (hdN : d < N := by decide) : X :=
 m_alloc hs hR hS hd ho hz.h (lstO_eq hc) hdN k
theorem bxx {e : TypeId} {x : Operand} {v : Value} {cs : List Value} (hR : Reg a N l) (hS : St w0 Z M w m ds) (k : ∀ a' w' g, Reg a' N ((d, .pointer (some ⟨g, 0, none⟩)) :: l) → St w0 Z M w' (m ++ [.box g e cs]) ds → Next a' w')
  (hs : SteV P X Next o a w := by first | exact sv | exact st_opV rfl (want_n rfl) | exact st_listV_w (wt ‹_›) | exact st_opV rfl (wt ‹_›)) (hd : o.dst = some d := by exact rfl) (ho : o.op = .box e x := by exact rfl) (hx : ev l x = some v := by exact rfl) (hc : lstO v.cells.toList = some cs := by exact rfl) (hdN : d < N := by decide) : X :=
 m_box hs hR hS hd ho hx (lstO_eq hc) hdN k
theorem bsl {t e : TypeId} {n size : Nat} {vs : List (Nat × Value)} {z : Value} {bytes : Nat} {ps' : List (Nat × Operand)} {cs : List Value} (hR : Reg a N l) (hS : St w0 Z M w m ds)
  (k : ∀ a' w' g, Reg a' N ((d, .slice (some ⟨g, 0, none⟩) n n) :: l) → St w0 Z M w' (m ++ [.row (some ⟨g, 0, none⟩) n n e size cs]) ds → Next a' w')
  (hs : SteV P X Next o a w := by first | exact sv | exact st_opV rfl (want_n rfl) | exact st_listV_w (wt ‹_›) | exact st_opV rfl (wt ‹_›)) (hd : o.dst = some d := by exact rfl) (ho : o.op = .buildSlice t n ps'.toArray := by exact rfl) (hx : evp l ps' = some vs := by exact rfl) (ht : Slc P t e := by infer_instance) (hz : Zis P e z size bytes := by infer_instance)
  (hcs : fillO size z.cells.toList n vs = some cs := by exact rfl) (hn : decide (n * size ≤ 1000000) = true := by exact rfl) (hn1 : decide (n ≤ 1000000) = true := by exact rfl)
  (hf : Instr.fill (fun i => some (i * size, size)) ((Array.range (n * size)).map fun i => (if n * size = 0 then #[] else z.cells)[i % (if n * size = 0 then (#[] : Array Value) else z.cells).size]!) vs = some cs.toArray := by kernel_rfl) (hl : (cs.length == n * size) = true := by exact rfl) (hdN : d < N := by decide) : X :=
 m_buildSlice (ps := ps') (cs := cs) hs hR hS hd ho hx ht.h hz.h hn hn1 hf hl hdN k
theorem bld {t : TypeId} {vs : List (Nat × Value)} {zs cs : List Value} {offs : List Nat} {ps' : List (Nat × Operand)} (hR : Reg a N l) (k : ∀ a', Reg a' N ((d, .agg cs.toArray) :: l) → Next a' w)
  (hs : SteV P X Next o a w := by first | exact sv | exact st_opV rfl (want_n rfl) | exact st_listV_w (wt ‹_›) | exact st_opV rfl (wt ‹_›)) (hd : o.dst = some d := by exact rfl) (ho : o.op = .build t ps'.toArray := by exact rfl) (hx : evp l ps' = some vs := by exact rfl) (ht : Bld P t zs offs := by infer_instance) (hcs : bldO zs offs vs = some cs := by exact rfl)
  (hrun : ∀ w, (Instr.build t vs.toArray).run P w = .ok (.agg cs.toArray) w := by (intro _; kernel_rfl)) (hdN : d < N := by decide) : X :=
 m_build hs hR hd ho hx hrun hdN k
theorem bldY {t : TypeId} {vs : List (Nat × Value)} {zs cs : List Value} {offs : List Nat} {ps' : List (Nat × Operand)} (hR : Reg a N l) (ho : o.op = .build t ps'.toArray := by exact rfl) (hx : evp l ps' = some vs := by exact rfl) (ht : Bld P t zs offs := by infer_instance) (hcs : bldO zs offs vs = some cs := by exact rfl)
  (hrun : ∀ w, (Instr.build t vs.toArray).run P w = .ok (.agg cs.toArray) w := by (intro _; kernel_rfl)) : (execOp a.eval o).run P w = .ok (.value (.agg cs.toArray)) w := by
 have hm : ps'.toArray.map (fun (i, x) => (i, a.eval x)) = vs.toArray := by
  rw [← hR.evp hx]; simp
 unfold execOp; rw [ho]
 simp only [hm, Sem.run_bind, hrun, Result.andThen_ok, Sem.run_pure]
theorem ix {t : TypeId} {x y : Operand} {A : Option Addr} {n c size : Nat} {p : Int} {ki : IntKind} {e : TypeId} (i j : Nat) (hR : Reg a N l) (hA : A.isSome = true) (k : ∀ a', Reg a' N ((d, .pointer (eP A j)) :: l) → Next a' w)
  (hs : SteV P X Next o a w := by first | exact sv | exact st_opV rfl (want_n rfl) | exact st_listV_w (wt ‹_›) | exact st_opV rfl (wt ‹_›)) (hd : o.dst = some d := by exact rfl) (ho : o.op = .indexAddr t x y := by exact rfl) (hx : ev l x = some (.slice A n c) := by exact rfl) (hy : ev l y = some (.int ki p) := by exact rfl)
  (ht : Slc P t e := by infer_instance) (hsz : Siz P e size := by infer_instance) (hp : p = (i : Int) := by omega) (hi : i < n := by omega) (hj : i * size = j := by exact rfl) (hdN : d < N := by decide) : X :=
 m_index hs hR hd ho hx hy ht.h hsz.h hp hi hA hj hdN k
theorem lde {t : TypeId} {x : Operand} {A : Option Addr} {j : Nat} {vs : List Value} {v : Value} (i j0 : Nat) (hR : Reg a N l) (he : ElemAt w A j0 vs) (k : ∀ a', Reg a' N ((d, v) :: l) → Next a' w)
  (hs : SteV P X Next o a w := by first | exact sv | exact st_opV rfl (want_n rfl) | exact st_listV_w (wt ‹_›) | exact st_opV rfl (wt ‹_›)) (hd : o.dst = some d := by exact rfl) (ho : o.op = .load t x := by exact rfl) (hx : ev l x = some (.pointer (eP A j)) := by exact rfl)
  (hj : j = j0 + i := by exact rfl) (hv : vs[i]? = some v := by exact rfl) (ht : NAg P t := by infer_instance) (hdN : d < N := by decide) : X :=
 have ⟨_, h1, h2⟩ := ht.h
 m_loadE hs hR hd ho hx i j0 he hj hv h1 h2 hdN k
theorem adi {t u : TypeId} {x y : Operand} {p q : Int} (z : Int) (hR : Reg a N l) (k : ∀ a', Reg a' N ((d, .int .i64 z) :: l) → Next a' w)
  (hs : SteV P X Next o a w := by first | exact sv | exact st_opV rfl (want_n rfl) | exact st_listV_w (wt ‹_›) | exact st_opV rfl (wt ‹_›)) (hd : o.dst = some d := by exact rfl) (ho : o.op = .binOp .add t x y u := by exact rfl) (hx : ev l x = some (.int .i64 p) := by exact rfl) (hy : ev l y = some (.int .i64 q) := by exact rfl)
  (hdN : d < N := by decide) (hz : p + q = z := by omega) (h1 : -1000000000000000 ≤ z := by omega) (h2 : z ≤ 1000000000000000 := by omega) : X := r_add hs hR hd ho hx hy hdN hz h1 h2 k
theorem sbi {t u : TypeId} {x y : Operand} {p q : Int} (z : Int) (hR : Reg a N l) (k : ∀ a', Reg a' N ((d, .int .i64 z) :: l) → Next a' w)
  (hs : SteV P X Next o a w := by first | exact sv | exact st_opV rfl (want_n rfl) | exact st_listV_w (wt ‹_›) | exact st_opV rfl (wt ‹_›)) (hd : o.dst = some d := by exact rfl) (ho : o.op = .binOp .sub t x y u := by exact rfl) (hx : ev l x = some (.int .i64 p) := by exact rfl) (hy : ev l y = some (.int .i64 q) := by exact rfl)
  (hdN : d < N := by decide) (hz : p - q = z := by omega) (h1 : -1000000000000000 ≤ z := by omega) (h2 : z ≤ 1000000000000000 := by omega) : X := r_sub hs hR hd ho hx hy hdN hz h1 h2 k
theorem er1 {fn : Func} {R : Ending → World → Prop} {t : Nat} {v : Value} (hR : Reg a N l) (h : R (.returned v) w) (h0 : l.lookup 1000000 = some (.bool false) := by exact rfl) (hr : fn.results = #[.tmp t] := by exact rfl) (hv : ev l (.tmp t) = some v := by exact rfl) : bodyPost P fn R .ret a w := e_ret1 hR h0 hr hv h
theorem er2 {fn : Func} {R : Ending → World → Prop} {t u : Nat} {v v' : Value} (hR : Reg a N l) (h : R (.returned (.tuple #[v, v'])) w) (h0 : l.lookup 1000000 = some (.bool false) := by exact rfl) (hr : fn.results = #[.tmp t, .tmp u] := by exact rfl) (hv : ev l (.tmp t) = some v := by exact rfl) (hv' : ev l (.tmp u) = some v' := by exact rfl) : bodyPost P fn R .ret a w := e_ret2 hR h0 hr hv hv' h
theorem kcl {f : FuncId} {xs : List Operand} {ts : Array TypeId} {vs : List Value} {R : Ending → World → Prop} (hR : Reg a N l) (hf : FOK P f) (hc : Calls P f vs.toArray w R) (k : ∀ e w', R e w' → ∃ v, e = .returned v ∧ ∀ a', Reg a' N ((d, v) :: l) → Next a' w')
  (hs : Ste P X Next o a w := by first | exact se | exact st_op rfl (want_n rfl) | exact st_list_w (wt ‹_›) | exact st_op rfl (wt ‹_›)) (hd : o.dst = some d := by exact rfl) (ho : o.op = .call { callee := .value (.func f), args := xs.toArray, argTypes := ts } := by exact rfl) (hx : evs l xs = some vs := by exact rfl) (hdN : d < N := by decide) : X := k_call hs hR hd ho hx hdN hf hc k
section
variable {S : World → Prop} {oi : Oper} {fuel : Nat} {listed : Array Bool}
theorem dix {t : TypeId} {x y : Operand} {A : Option Addr} {n c size : Nat} {p : Int} {ki : IntKind} {e : TypeId} (q i j : Nat) (hR : Reg a N l) (hA : ∀ x, sW w1 J ps x → A.isSome = true) (k : ∀ a', Reg a' N ((d, .pointer (eP A j)) :: l) → wpAnyH P .any ops Q (sW w1 J ps) fuel (listed.setIfInBounds q true) a' w) (hP : PanOK Q := by assumption) (hS : sW w1 J ps w := by assumption)
  (hi : ops[q]? = some oi := by exact rfl) (hd : oi.dst = some d := by exact rfl) (ho : oi.op = .indexAddr t x y := by exact rfl) (hx : ev l x = some (.slice A n c) := by exact rfl) (hy : ev l y = some (.int ki p) := by exact rfl)
  (hw : Region.wanted oi (yielded ops a.tmps) = true := by first | exact want_n rfl | exact wt ‹_›) (ht : Slc P t e := by infer_instance) (hsz : Siz P e size := by infer_instance) (hp : p = (i : Int) := by omega) (hin : i < n := by omega) (hj : i * size = j := by exact rfl) (hdN : d < N := by decide) (hne : d ≠ 1000000 := by decide)
  (hs : Region.noSelect ops = true := by kernel_rfl) (hf : Region.free .any ops listed q = true := by kernel_rfl) (hr : (Region.ready .any ops listed).contains q = true := by kernel_rfl) : wpAnyH P .any ops Q (sW w1 J ps) (fuel + 1) listed a w :=
 dt q hi hP hR hw (fun y hy' => m_index (sy hR hd hdN) hR hd ho hx hy ht.h hsz.h hp hin (hA y hy') hj hdN (gt hne)) hS k hd hdN hs hf hr
theorem dle {t : TypeId} {x : Operand} {A : Option Addr} {j : Nat} {vs : List Value} {v : Value} (q i j0 : Nat) (hR : Reg a N l) (he : ∀ x, sW w1 J ps x → ElemAt x A j0 vs) (k : ∀ a', Reg a' N ((d, v) :: l) → wpAnyH P .any ops Q (sW w1 J ps) fuel (listed.setIfInBounds q true) a' w) (hP : PanOK Q := by assumption) (hS : sW w1 J ps w := by assumption)
  (hi : ops[q]? = some oi := by exact rfl) (hd : oi.dst = some d := by exact rfl) (ho : oi.op = .load t x := by exact rfl) (hx : ev l x = some (.pointer (eP A j)) := by exact rfl)
  (hw : Region.wanted oi (yielded ops a.tmps) = true := by first | exact want_n rfl | exact wt ‹_›) (hj : j = j0 + i := by exact rfl) (hv : vs[i]? = some v := by exact rfl) (ht : NAg P t := by infer_instance) (hdN : d < N := by decide) (hne : d ≠ 1000000 := by decide)
  (hs : Region.noSelect ops = true := by kernel_rfl) (hf : Region.free .any ops listed q = true := by kernel_rfl) (hr : (Region.ready .any ops listed).contains q = true := by kernel_rfl) : wpAnyH P .any ops Q (sW w1 J ps) (fuel + 1) listed a w :=
 have ⟨_, h1, h2⟩ := ht.h
 dt q hi hP hR hw (fun y hy' => m_loadE (sy hR hd hdN) hR hd ho hx i j0 (he y hy') hj hv h1 h2 hdN (gt hne)) hS k hd hdN hs hf hr
theorem dta {late : List Nat} {v : Value} (i : Nat) (hi : ops[i]? = some oi) (hP : PanOK Q) (hR : Reg a N l) (hw : Region.wanted oi (yielded ops a.tmps) = true) (hy : ∀ x, (execOp a.eval oi).run P x = .ok (.value v) x) (h : ∀ a', Reg a' N ((d, v) :: l) → wpAnyL P ops Q S late fuel (listed.setIfInBounds i true) a' w)
  (hd : oi.dst = some d := by exact rfl) (hdN : d < N := by decide) (hs : Region.noSelect ops = true := by kernel_rfl) (hf : Region.free .any ops listed i = true := by kernel_rfl) (hr : (Region.ready .any ops listed).contains i = true := by kernel_rfl) : wpAnyL P ops Q S late (fuel + 1) listed a w :=
 dl_takeA hi hs hf hr (fun c a w h => hP c _ _ _ _ h) hd hdN hR hw hy h
theorem dtv {late : List Nat} {v : Value} (i : Nat) (hP : PanOK Q) (hR : Reg a N l) (h : ∀ a', Reg a' N ((d, v) :: l) → wpAnyL P ops Q S late fuel (listed.setIfInBounds i true) a' w)
  (hi : ops[i]? = some oi := by exact rfl) (hv : pv l oi.op = some v := by exact rfl) (hw : Region.wanted oi (yielded ops a.tmps) = true := by first | exact want_n rfl | exact wt ‹_›) (hd : oi.dst = some d := by exact rfl) (hdN : d < N := by decide) (hs : Region.noSelect ops = true := by kernel_rfl) (hf : Region.free .any ops listed i = true := by kernel_rfl) (hr : (Region.ready .any ops listed).contains i = true := by kernel_rfl) : wpAnyL P ops Q S late (fuel + 1) listed a w :=
 dta i hi hP hR hw (pv_run hR hv) h hd hdN hs hf hr
theorem dlt {late : List Nat} {v : Value} (i : Nat) (hi : ops[i]? = some oi) (hP : PanOK Q) (hR : Reg a N l) (hw : Region.wanted oi (yielded ops a.tmps) = true) (hy : ∀ x, S x → (execOp a.eval oi).run P x = .ok (.value v) x) (hS : S w) (h : ∀ a', Reg a' N ((d, v) :: l) → wpAnyL P ops Q S late fuel (listed.setIfInBounds i true) a' w)
  (hd : oi.dst = some d := by exact rfl) (hdN : d < N := by decide) (hs : Region.noSelect ops = true := by kernel_rfl) (hf : Region.free .any ops listed i = true := by kernel_rfl) (hr : (Region.ready .any ops listed).contains i = true := by kernel_rfl) (hl : waits ops late i = true := by kernel_rfl) : wpAnyL P ops Q S late (fuel + 1) listed a w :=
 dl_take hi hs hf hr hl (fun c a w h => hP c _ _ _ _ h) hd hdN hR hw hy hS h
end
theorem St.el {t : List Sl} (h : St w0 Z M w m ds) (i k : Nat) (hi : ds[i]? = some (dAll t) := by exact rfl) (hk : k < t.length := by omega) : St w0 Z M w m (ds ++ [dRow 4 (nthS t k).1 (nthS t k).2.2.length (nthS t k).2.1 (encNs (nthS t k).2.2)]) := h.data _ (all_at (h.get hi) hk)
theorem St.elU {t : List Bu} (h : St w0 Z M w m ds) (i k : Nat) (hi : ds[i]? = some (dAllU t) := by exact rfl) (hk : k < t.length := by omega) : St w0 Z M w m (ds ++ [dRow 4 (nthU t k).1.1 (nthU t k).1.2.2.length (nthU t k).1.2.1 (encNs (nthU t k).1.2.2)]) := h.data _ (allU_at (h.get hi) hk)
theorem St.elT {t : List Tl} (h : St w0 Z M w m ds) (i k : Nat) (hi : ds[i]? = some (dAllT t) := by exact rfl) (hk : k < t.length := by omega) : St w0 Z M w m (ds ++ [dRow 1 (nthT t k).1 (nthT t k).2.2.length (nthT t k).2.1 (encSs (nthT t k).2.2)]) := h.data _ (allT_at (h.get hi) hk).1
theorem St.elA {t : List Tl} (h : St w0 Z M w m ds) (i k : Nat) (hi : ds[i]? = some (dAllT t) := by exact rfl) (hk : k < t.length := by omega) : St w0 Z M w m (ds ++ [dAll (nthT t k).2.2]) := h.data _ (allT_at (h.get hi) hk).2
theorem St.pub {A : Option Addr} {n cap e size : Nat} {xs : List Value} (h : St w0 Z none_ w m ds) (i : Nat) (D : Dat) (hi : m[i]? = some (.row A n cap e size xs) := by exact rfl) (hD : D = dRow size A n cap xs := by exact rfl) : St w0 Z none_ w (m.eraseIdx i) (ds ++ [D]) := by
 obtain ⟨h1, h2⟩ := h.row_data hi (fun _ h => h)
 subst hD
 exact h1.data _ ⟨own_cap (h.res hi), h2⟩
end
end
section
/- What makers make, behind an error nothing. -/
open Go Go.RowKit
def noL (e : Int) (n : Nd) (p : List (List Nd)) : List Nd := if e = 0 then p.flatten ++ [n] else []
def upL (e : Int) (t : List Nd) (n k : Int) : List Nd := if e = 0 then sfA t n k else []
def upE (e : Int) (t : List Nd) (n k : Int) : Int := if e = 0 then sfE t n k else e
def inL (e : Int) (t : List Nd) (l : List (List Nd)) : List Nd := if e = 0 then inA t l else []
def inQ (e : Int) (t : List Nd) (l : List (List Nd)) : Int := if e = 0 then inE t l else e
def bandI (n : Int) (k : Nat) : Int := ((n.toNat &&& k : Nat) : Int)
def plL (e m : Int) (t : List Nd) : List Nd := if 0 < bandI m 2 then noL e ⟨29, 0, 0, ⟨#[]⟩⟩ [] else t
theorem run_andI {P : Program} {w : World} {t : TypeId} {n : Int} {b : Nat} (h0 : 0 ≤ n) (hn : n < 1000) (hb : b < 1000) : (Go.binOp .and t (.int .i64 n) (.int .i64 (b : Int))).run P w = .ok (.int .i64 (bandI n b)) w := by
 have h := run_and64 (P := P) (w := w) (t := t) (a := n.toNat) (b := b) (by omega) (by omega)
 rw [Int.toNat_of_nonneg h0] at h
 exact h
theorem noL_len {e : Int} {n : Nd} {p : List (List Nd)} : (noL e n p).length ≤ p.flatten.length + 1 := by
 unfold noL
 split <;> simp
theorem noL_sml {e : Int} {n : Nd} {p : List (List Nd)} (hn : n.S.size < 1000000) (hp : ∀ x ∈ p, sml x) : sml (noL e n p) := by
 rw [sml_mem]
 unfold noL
 split
 ·
  intro m hm
  rcases List.mem_append.1 hm with h | h
  ·
   obtain ⟨x, hx, h⟩ := List.mem_flatten.1 h
   exact sml_mem.1 (hp x hx) m h
  ·
   simp only [List.mem_singleton] at h
   rw [h]; exact hn
 · intro m hm; simp at hm
theorem upL_sml {e : Int} {t : List Nd} {n k : Int} (h : sml t) : sml (upL e t n k) := by
 unfold upL
 split
 · exact sfA_sml h
 · intro k hk; simp at hk
theorem upL_len {e : Int} {t : List Nd} {n k : Int} : (upL e t n k).length ≤ t.length := by
 unfold upL
 split
 · exact sfA_len _ _ _
 · simp
theorem inL_sml {e : Int} {t : List Nd} {l : List (List Nd)} (h : sml t) (hl : ∀ x ∈ l, sml x) : sml (inL e t l) := by
 unfold inL
 split
 · exact inA_sml h hl
 · intro k hk; simp at hk
theorem inL_len {e : Int} {t : List Nd} {l : List (List Nd)} : (inL e t l).length ≤ 4000 := by
 unfold inL
 split
 · exact inA_len _ _
 · simp
theorem plL_len {e m : Int} {t : List Nd} : (plL e m t).length ≤ t.length + 1 := by
 unfold plL
 split
 ·
  have h1 : (noL e ⟨29, 0, 0, ⟨#[]⟩⟩ []).length ≤ 1 := noL_len
  omega
 · omega
theorem plL_sml {e m : Int} {t : List Nd} (h : sml t) : sml (plL e m t) := by
 unfold plL
 split
 · exact noL_sml (by decide) (by intro x hx; cases hx)
 · exact h
section
variable {r : List Nd} {e : Int}
theorem upZ {t : List Nd} {n k : Int} (h : r = upL e t n k) (hs : sml t) : r.length ≤ t.length ∧ sml r := by rw [h]; exact ⟨upL_len, upL_sml hs⟩
theorem plZ {m : Int} {t : List Nd} (h : r = plL e m t) (hs : sml t) : r.length ≤ t.length + 1 ∧ sml r := by rw [h]; exact ⟨plL_len, plL_sml hs⟩
theorem noZ0 {n : Nd} (h : r = noL e n []) (hn : n.S.size < 1000000) : r.length ≤ 1 ∧ sml r := by rw [h]; exact ⟨noL_len, noL_sml hn (by intro x hx; cases hx)⟩
end
theorem many_3 {n : Nd} (h : n.K = 3) : many n = 2 := by simp [many, binds, h, shp]
theorem many_23 {n : Nd} (h : n.K = 23) : many n = 2 := by simp [many, binds, h, shp]
end
section
/- Terms that are built of parts: whether they are terms, what their parts are, and which errors there may be. -/
theorem chk_meas {t : List Nd} (h : measB t = true) : chk t = 0 ∨ chk t = 21 ∨ chk t = 22 := by
 by_cases hl : t.length ≤ 4000
 ·
  by_cases hd : 60 < (nthM (measL t) ((measL t).length - 1)).2
  · exact .inr (.inr (chk_deep hl h hd))
  · exact .inl (chk_good hl h hd)
 · exact .inr (.inl (chk_size (by omega)))
def dpL (t : List Nd) : Nat := (treeOf t).deep
theorem chk_le {t : List Nd} (h : chk t = 0) : t.length ≤ 4000 := (treeOf_ok h).2.2.2
theorem built {n : Nd} {p : List (List Nd)} (hr : right n = true) (hm : many n = p.length) (hp : ∀ x ∈ p, measB x = true) :
  measB (p.flatten ++ [n]) = true ∧ treeOf (p.flatten ++ [n]) = .mk n (p.map treeOf) ∧ ptL (p.flatten ++ [n]) = p ∧ nth (p.flatten ++ [n]) ((p.flatten ++ [n]).length - 1) = n := by
 have e1 : (p.map treeOf).map T.flat = p := by
  rw [List.map_map]
  have : p.map (T.flat ∘ treeOf) = p.map id := List.map_congr_left fun x hx => (treeOf_meas (hp x hx)).2
  rw [this, List.map_id]
 have e2 : T.flats (p.map treeOf) = p.flatten := by rw [← flats_flatten, e1]
 have hw : (T.mk n (p.map treeOf)).wf = true := by
  rw [T.wf_mk]
  simp only [Bool.and_eq_true, beq_iff_eq, List.length_map]
  refine ⟨⟨hr, hm⟩, (T.wfs_iff _).2 ?_⟩
  intro t ht
  obtain ⟨x, hx, rfl⟩ := List.mem_map.1 ht
  exact (treeOf_meas (hp x hx)).1
 have e3 : (T.mk n (p.map treeOf)).flat = p.flatten ++ [n] := by rw [T.flat_mk, e2]
 have e4 : treeOf (p.flatten ++ [n]) = .mk n (p.map treeOf) := by rw [← e3, treeOf_flat hw]
 refine ⟨by rw [← e3]; exact meas_flat hw, e4, ?_, ?_⟩
 ·
  unfold ptL
  rw [e4]
  exact e1
 · simp [nth]
def GE (e : Int) : Prop := e = 0 ∨ e = 2 ∨ e = 21 ∨ e = 22
theorem GE.zero : GE 0 := .inl rfl
theorem GE.meas {t : List Nd} (h : measB t = true) : GE (chk t) := by
 rcases chk_meas h with q | q | q
 · exact .inl q
 · exact .inr (.inr (.inl q))
 · exact .inr (.inr (.inr q))
theorem up_G {e : Int} {t : List Nd} {n k : Int} (he : GE e) (hc : e = 0 → chk t = 0) (hn : 0 ≤ n) : GE (upE e t n k) := by
 unfold upE
 split
 ·
  rename_i h0
  rcases sf_max (f := k) (hc h0) hn with q | q
  · exact .inl q
  · exact .inr (.inl q)
 · exact he
theorem upL_zero {t : List Nd} {n k : Int} : upL 0 t n k = sfA t n k := if_pos rfl
theorem ck_G {L : List (List Nd)} (h : ∀ x ∈ L, measB x = true) : GE (ckE L) := by
 induction L with
 | nil => exact .inl rfl
 | cons x L ih =>
  simp only [ckE]
  split
  · exact ih (fun y hy => h y (by simp [hy]))
  · exact GE.meas (h x (by simp))
theorem ck_oks {L : List (List Nd)} (h : ckE L = 0) : oks L := by
 induction L with
 | nil => intro p hp; cases hp
 | cons x L ih =>
  simp only [ckE] at h
  by_cases hc : chk x = 0
  ·
   rw [if_pos hc] at h
   intro p hp
   rcases List.mem_cons.1 hp with rfl | hp
   · exact hc
   · exact ih h p hp
  · rw [if_neg hc] at h; exact absurd h hc
theorem po_meas {t : List Nd} {l : List (List Nd)} (hc : chk t = 0) (h : trEL (puV 0 l) t 0 = 0) : measB (trL (puV 0 l) t 0) = true := by
 unfold trL
 rw [if_pos h]
 exact meas_flat (tr_wf (puV_wf (Int.le_refl _)) (treeOf t) 0 (treeOf_meas (meas_chk hc)).1 (Int.le_refl _) h)
theorem po_G {t : List Nd} {l : List (List Nd)} (hc : chk t = 0) (hl : oks l) : GE (poE t 0 l) := by
 by_cases h : trEL (puV 0 l) t 0 = 0
 ·
  rw [(po_chk h).1]
  exact GE.meas (po_meas hc h)
 ·
  rw [(po_err h).1]
  rcases pu_only hl (treeOf t) 0 (Int.le_refl _) with q | q
  · exact .inl q
  · exact .inr (.inl q)
theorem in_E {t : List Nd} {l : List (List Nd)} (h : ∀ x ∈ t :: l, measB x = true) : GE (inE t l) := by
 by_cases hc : ckE (t :: l) = 0
 ·
  rw [(in_ok hc).1]
  have ho := ck_oks hc
  exact po_G (ho t (by simp)) (fun p hp => ho p (by simp [hp]))
 ·
  rw [(in_err hc).1]
  exact ck_G h
theorem ag_part {t : List Nd} (hc : chk t = 0) {k : Nat} (hk : k < many (nth t (t.length - 1))) : chk (nthL (agA t) k) = 0 ∧ nthL (agA t) k ∈ agA t := by
 have hb := meas_chk hc
 rw [agA_ok hc]
 have hm := nthL_mem (l := ptL t) (k := k) (by rw [ptL_length hb]; exact hk)
 exact ⟨ptL_chk hc hm, hm⟩
theorem nthL_any {l : List (List Nd)} {Q : List Nd → Prop} (h : ∀ x ∈ l, Q x) (h0 : Q []) (k : Nat) : Q (nthL l k) := by
 by_cases hk : k < l.length
 · exact h _ (nthL_mem hk)
 ·
  have : nthL l k = [] := by unfold nthL; rw [List.getD_eq_getElem?_getD, List.getElem?_eq_none (by omega)]; rfl
  rw [this]; exact h0
theorem sml_nil : sml [] := fun k hk => by simp at hk
theorem ag_sml {t : List Nd} (hs : sml t) : ∀ x ∈ agA t, sml x ∧ x.length ≤ t.length := by
 intro x hx
 by_cases hc : chk t = 0
 ·
  rw [agA_ok hc] at hx
  obtain ⟨_, h2, h3⟩ := ptL_mem (meas_chk hc) hx
  exact ⟨sml_sub hs h3, by omega⟩
 · rw [agA_no hc] at hx; cases hx
end
section
/- What a redex comes to (eliminators of inductive types aside); which kind an argument's type is of. -/
def tgK (n : Nd) : Int := if n.K = 5 ∨ n.K = 8 ∨ n.K = 9 then 0 else if n.K = 13 ∨ n.K = 24 then 3 else if n.K = 27 then n.M + 1 else -1
def tgA (t : List Nd) : Int := if chk t = 0 then tgK (nth t (t.length - 1)) else -1
def tgL (t : List Nd) : List Nd := nthL (agA t) (tgK (nth t (t.length - 1))).toNat
def urX (n x : Nd) (p q : List (List Nd)) : Option (List Nd × Int) :=
 if n.K = 5 ∧ x.K = 4 then some (inL 0 (nthL q 1) [nthL p 1], inQ 0 (nthL q 1) [nthL p 1])
 else if n.K = 8 ∧ x.K = 7 then some (nthL q 1, 0)
 else if n.K = 9 ∧ x.K = 7 then some (nthL q 2, 0)
 else if n.K = 13 ∧ x.K = 11 then some (nthL p 1, 0)
 else if n.K = 13 ∧ x.K = 12 then some (inL 0 (nthL p 2) [noL 0 n (p.set (p.length - 1) (nthL q 0)), nthL q 0], inQ 0 (nthL p 2) [noL 0 n (p.set (p.length - 1) (nthL q 0)), nthL q 0])
 else if n.K = 24 ∧ x.K = 23 then some (inL 0 (nthL p 1) [nthL q 1], inQ 0 (nthL p 1) [nthL q 1])
 else none
def urQ (t : List Nd) : Option (List Nd × Int) := urX (nth t (t.length - 1)) (nth (tgL t) ((tgL t).length - 1)) (agA t) (agA (tgL t))
def urE (t : List Nd) : Int := if ¬ chk t = 0 then chk t else if tgK (nth t (t.length - 1)) < 0 then 120 else match urQ t with
 | none => 120
 | some (x, e) => if e = 0 then chk x else e
def urA (t : List Nd) : List Nd := if ¬ chk t = 0 then [] else if tgK (nth t (t.length - 1)) < 0 then [] else match urQ t with
 | none => []
 | some (x, e) => if (if e = 0 then chk x else e) = 0 then x else []
theorem ur_some {t : List Nd} (h : chk t = 0) (h1 : ¬ tgK (nth t (t.length - 1)) < 0) {x : List Nd} {e : Int} (h2 : urQ t = some (x, e)) : urE t = (if e = 0 then chk x else e) ∧ urA t = if (if e = 0 then chk x else e) = 0 then x else [] := by
 unfold urE urA
 refine ⟨(if_neg (by omega)).trans ((if_neg h1).trans ?_), (if_neg (by omega)).trans ((if_neg h1).trans ?_)⟩ <;> rw [h2]
theorem tg_many {t : List Nd} (h : chk t = 0) (h1 : ¬ tgK (nth t (t.length - 1)) < 0) : (tgK (nth t (t.length - 1))).toNat < many (nth t (t.length - 1)) := by
 have hr := right_at (meas_chk h) (show t.length - 1 < t.length by have := chk_pos h; omega)
 revert h1 hr
 generalize nth t (t.length - 1) = n
 intro h1 hr
 unfold tgK at h1 ⊢
 by_cases a : n.K = 5 ∨ n.K = 8 ∨ n.K = 9
 ·
  rw [if_pos a]
  have : 1 ≤ many n := by rcases a with a | a | a <;> simp [many, binds, a, shp]
  omega
 ·
  rw [if_neg a] at h1 ⊢
  by_cases b : n.K = 13 ∨ n.K = 24
  ·
   rw [if_pos b]
   have : many n = 4 := by rcases b with b | b <;> simp [many, binds, b, shp]
   omega
  ·
   rw [if_neg b] at h1 ⊢
   by_cases c : n.K = 27
   ·
    rw [if_pos c]
    have hm : many n = n.M.toNat + 2 := by simp [many, binds, c]
    have h2 := (right_elim2 c).symm.trans hr
    rw [decide_eq_true_eq] at h2
    omega
   · rw [if_neg c] at h1; omega
theorem tg_ok {t : List Nd} (h : chk t = 0) (h1 : ¬ tgK (nth t (t.length - 1)) < 0) : chk (tgL t) = 0 := (ag_part h (tg_many h h1)).1
def ownL (s : ByteArray) : List Nd := [⟨25, 0, 0, s⟩]
def kdA (s : ByteArray) (t : List Nd) : Int := if ¬ chk t = 0 then 0 else if t = ownL s then 1 else if (nth t (t.length - 1)).K = 3 ∧ nthL (agA t) 1 = ownL s then 2 else 0
section
variable {k m : Nat} {t : List Nd} {a b : ByteArray} (hm : m < 4) (ht : chk t = 0) (hd : dpL t ≤ 50) (hl : t.length ≤ 200) (ha : nameOk a = true)
include hm ht hd hl ha
end
theorem ur_half {t pr : List Nd} {k : Nat} {q : List (List Nd)} (hc : chk t = 0) (hk : k = 8 ∨ k = 9) (hr : nth t (t.length - 1) = ⟨(k : Int), 0, 0, ⟨#[]⟩⟩) (hp : ptL t = [pr]) (hx : (nth pr (pr.length - 1)).K = 7) (hq : ptL pr = q) :
  urE t = chk (nthL q (k - 7)) ∧ (chk (nthL q (k - 7)) = 0 → urA t = nthL q (k - 7)) := by
 have htg : tgK (nth t (t.length - 1)) = 0 := by rw [hr]; rcases hk with rfl | rfl <;> rfl
 have hL : tgL t = pr := by unfold tgL; rw [htg, agA_ok hc, hp]; rfl
 have hcp : chk pr = 0 := by
  have := tg_ok hc (by omega)
  rw [hL] at this; exact this
 have hQ : urQ t = some (nthL q (k - 7), 0) := by
  unfold urQ
  rw [hL, agA_ok hcp, hq, hr]
  unfold urX
  rcases hk with rfl | rfl
  · rw [if_neg (by rintro ⟨z, _⟩; exact absurd (show (8 : Int) = 5 from z) (by decide)), if_pos ⟨rfl, hx⟩]
  · rw [if_neg (by rintro ⟨z, _⟩; exact absurd (show (9 : Int) = 5 from z) (by decide)), if_neg (by rintro ⟨z, _⟩; exact absurd (show (9 : Int) = 8 from z) (by decide)), if_pos ⟨rfl, hx⟩]
 obtain ⟨h1, h2⟩ := ur_some hc (by omega) hQ
 rw [if_pos rfl] at h1 h2
 exact ⟨h1, fun h => by rw [h2, if_pos h]⟩
end
section
/- What the rule for a cast comes to, by its cases. -/
section
variable {a b t : List Nd}
theorem cr_mark {a : List Nd} (hc : chk a = 0) (hk : (nth a (a.length - 1)).K = 3 ∨ (nth a (a.length - 1)).K = 6) : 0 ≤ (nth a (a.length - 1)).N ∧ (nth a (a.length - 1)).N < 4 := by
 have hr := right_at (meas_chk hc) (show a.length - 1 < a.length by have := chk_pos hc; omega)
 rw [right_pi hk, decide_eq_true_eq] at hr
 omega
end
section
variable {a b t : List Nd} (hsa : sml a) (hsb : sml b) (hst : sml t) (hla : a.length ≤ 5000) (hlb : b.length ≤ 5000) (hlt : t.length ≤ 5000)
include hsa hsb hst hla hlb hlt
end
end
section
/- What a cast comes to: its errors, and its parts. -/
section
variable {a b t : List Nd} (ha : chk a = 0) (hb : chk b = 0) (ht : chk t = 0)
include ha hb ht
end
theorem many_4 {n : Nd} (h : n.K = 4) : many n = 2 := by simp [many, binds, h, shp]
theorem many_7 {n : Nd} (h : n.K = 7) : many n = 3 := by simp [many, binds, h, shp]
def grB (e : Int) : Bool := (decide (e = 2) || decide (e = 21)) || decide (e = 22)
theorem gr_of {e : Int} (h : GE e) (h0 : ¬ e = 0) : grB e = true := by
 rcases h with h | h | h | h
 · exact absurd h h0
 · rw [h]; rfl
 · rw [h]; rfl
 · rw [h]; rfl
end
section
/- What the walks of redexes ask: parts of roots, sizes, strings. -/
theorem right_M {n : Nd} (h : right n = true) : 0 ≤ n.M ∧ n.M ≤ 6 := by
 obtain ⟨_, h2, _, h4⟩ := (right_split n).1 h
 by_cases hn : (shp n.K.toNat).m = true
 · exact h4 hn
 ·
  have : n.M = 0 := by
   unfold fieldsBad at h2
   simp only [Bool.or_eq_false_iff, Bool.and_eq_false_iff, Bool.not_eq_false', decide_eq_false_iff_not, decide_eq_true_eq] at h2
   simp only [Bool.not_eq_true] at hn
   simp [hn] at h2
   exact h2.2.1
  omega
theorem lsts_set {p : List Sl} {k : Nat} {s : Sl} : lsts (p.set k s) = (lsts p).set k s.2.2 := by unfold lsts; rw [List.map_set]
theorem all_set {w : World} {I : Nat → Prop} {L : List Sl} {k : Nat} {z : Sl} (h : (dAll L).φ w I) (hz : (dRow 4 z.1 z.2.2.length z.2.1 (encNs z.2.2)).φ w I) : (dAll (L.set k z)).φ w I := fun s hs => by
 rcases List.mem_or_eq_of_mem_set hs with h1 | h1
 · exact h s h1
 · rw [h1]; exact hz
theorem set_bd {p : List Sl} {z : Sl} {k : Nat} (hp : ∀ x ∈ lsts p, sml x ∧ x.length ≤ 4000) (hz : z.2.2.length ≤ 4000) : ∀ s ∈ p.set k z, s.2.2.length ≤ 100000 := fun s hs => by
 rcases List.mem_or_eq_of_mem_set hs with h1 | h1
 · exact Nat.le_trans (hp _ (List.mem_map_of_mem h1)).2 (by decide)
 · rw [h1]; omega
theorem nthS_in {Ls : List Sl} {k : Nat} (h : k < Ls.length) : (nthS Ls k).2.2 ∈ lsts Ls := by
 rw [lsts_nth]; exact nthL_mem (by rw [lsts_len]; exact h)
theorem ag_nth {t : List Nd} {Ls : List Sl} {k : Nat} (hc : chk t = 0) (hL : lsts Ls = agA t) (hs : sml t) (hk : k < many (nth t (t.length - 1))) : (nthS Ls k).2.2.length ≤ 4000 ∧ sml (nthS Ls k).2.2 ∧ chk (nthS Ls k).2.2 = 0 := by
 obtain ⟨h1, h2⟩ := ag_part hc hk
 obtain ⟨h3, h4⟩ := ag_sml hs _ h2
 rw [lsts_nth, hL]
 exact ⟨chk_le h1, h3, h1⟩
theorem ag_all {t : List Nd} {Ls : List Sl} (hc : chk t = 0) (hL : lsts Ls = agA t) (hs : sml t) : ∀ x ∈ lsts Ls, sml x ∧ x.length ≤ 4000 := by
 intro x hx
 rw [hL] at hx
 obtain ⟨h1, h2⟩ := ag_sml hs x hx
 exact ⟨h1, Nat.le_trans h2 (chk_le hc)⟩
theorem ag_len {t : List Nd} {Ls : List Sl} (hc : chk t = 0) (hL : lsts Ls = agA t) : Ls.length = many (nth t (t.length - 1)) ∧ Ls.length ≤ 8 := by
 have h1 : Ls.length = many (nth t (t.length - 1)) := by rw [← lsts_len, hL, agA_ok hc, ptL_length (meas_chk hc)]
 have h2 := many_le (right_at (meas_chk hc) (show t.length - 1 < t.length by have := chk_pos hc; omega))
 exact ⟨h1, by omega⟩
theorem many_5 {n : Nd} (h : n.K = 5) : many n = 2 := by simp [many, binds, h, shp]
theorem many_8 {n : Nd} (h : n.K = 8) : many n = 1 := by simp [many, binds, h, shp]
theorem many_9 {n : Nd} (h : n.K = 9) : many n = 1 := by simp [many, binds, h, shp]
theorem many_13 {n : Nd} (h : n.K = 13) : many n = 4 := by simp [many, binds, h, shp]
theorem many_24 {n : Nd} (h : n.K = 24) : many n = 4 := by simp [many, binds, h, shp]
theorem many_12 {n : Nd} (h : n.K = 12) : many n = 1 := by simp [many, binds, h, shp]
def urR (n x : Nd) (p q : List (List Nd)) : List Nd × Int := (urX n x p q).getD ([], 120)
theorem lsts_cons1 {s : Sl} {l : List Sl} : lsts (s :: l) = s.2.2 :: lsts l := rfl
theorem lsts_nil1 : lsts [] = [] := rfl
theorem nand_of {A B : Prop} [Decidable A] [Decidable B] (h : (decide A && decide B) = false) : ¬ (A ∧ B) := by simpa using h
theorem urR_sz {n x : Nd} {p q : List (List Nd)} (hn : n.S.size < 1000000) (hp : ∀ x ∈ p, sml x ∧ x.length ≤ 4000) (hq : ∀ x ∈ q, sml x ∧ x.length ≤ 4000) : sml (urR n x p q).1 ∧ (urR n x p q).1.length ≤ 100000 := by
 have h0 : sml ([] : List Nd) ∧ ([] : List Nd).length ≤ 4000 := ⟨sml_nil, by simp⟩
 have hp' : ∀ k, sml (nthL p k) ∧ (nthL p k).length ≤ 4000 := nthL_any (Q := fun x => sml x ∧ x.length ≤ 4000) hp h0
 have hq' : ∀ k, sml (nthL q k) ∧ (nthL q k).length ≤ 4000 := nthL_any (Q := fun x => sml x ∧ x.length ≤ 4000) hq h0
 have hi : ∀ t l, sml t → (∀ x ∈ l, sml x) → sml (inL 0 t l) ∧ (inL 0 t l).length ≤ 100000 := fun t l a b => ⟨inL_sml a b, Nat.le_trans inL_len (by decide)⟩
 have one : ∀ a : List Nd, sml a → ∀ x ∈ [a], sml x := fun a h x hx => by simp only [List.mem_cons, List.not_mem_nil, or_false] at hx; rw [hx]; exact h
 unfold urR urX
 (repeat' split) <;> simp only [Option.getD_some, Option.getD_none]
 · exact hi _ _ (hq' 1).1 (one _ (hp' 1).1)
 · exact ⟨(hq' 1).1, Nat.le_trans (hq' 1).2 (by decide)⟩
 · exact ⟨(hq' 2).1, Nat.le_trans (hq' 2).2 (by decide)⟩
 · exact ⟨(hp' 1).1, Nat.le_trans (hp' 1).2 (by decide)⟩
 ·
  refine hi _ _ (hp' 2).1 ?_
  intro y hy
  simp only [List.mem_cons, List.not_mem_nil, or_false] at hy
  rcases hy with rfl | rfl
  ·
   refine noL_sml hn ?_
   intro z hz
   rcases List.mem_or_eq_of_mem_set hz with h | h
   · exact (hp z h).1
   · rw [h]; exact (hq' 0).1
  · exact (hq' 0).1
 · exact hi _ _ (hp' 1).1 (one _ (hq' 1).1)
 · exact ⟨sml_nil, by simp⟩
theorem again_sz {r : List Nd} {e : Int} {n : Nd} {p : List Sl} {t : List Nd} (h : r = noL e n ((lsts p).set ((lsts p).length - 1) t)) (hp : ∀ x ∈ lsts p, sml x ∧ x.length ≤ 4000) (hn : n.S.size < 1000000) (ht : sml t) (hl : t.length ≤ 4000) (hq : p.length ≤ 9) : r.length ≤ 40000 ∧ sml r := by
 have hm : ∀ x ∈ (lsts p).set ((lsts p).length - 1) t, sml x ∧ x.length ≤ 4000 := by
  intro z hz
  rcases List.mem_or_eq_of_mem_set hz with h | h
  · exact hp z h
  · rw [h]; exact ⟨ht, hl⟩
 rw [h]
 refine ⟨?_, noL_sml hn (fun x hx => (hm x hx).1)⟩
 have h1 : (noL e n ((lsts p).set ((lsts p).length - 1) t)).length ≤ _ := noL_len
 have h2 : ((lsts p).set ((lsts p).length - 1) t).flatten.length ≤ ((lsts p).set ((lsts p).length - 1) t).length * 4000 := flatten_le (fun x hx => (hm x hx).2)
 have h3 : ((lsts p).set ((lsts p).length - 1) t).length = p.length := by rw [List.length_set, lsts_len]
 rw [h3] at h2
 have : p.length * 4000 ≤ 9 * 4000 := Nat.mul_le_mul_right _ hq
 omega
def kinB (e f : Int) : Bool := decide (e = f) || (grB e && grB f)
theorem sml_14 : sml [⟨10, 0, 0, ⟨#[]⟩⟩, ⟨11, 0, 0, ⟨#[]⟩⟩, ⟨16, 0, 0, ⟨#[]⟩⟩, ⟨7, 0, 0, ⟨#[]⟩⟩, ⟨8, 0, 0, ⟨#[]⟩⟩] := by
 rw [sml_mem]
 decide
theorem sh14 : urE [⟨10, 0, 0, ⟨#[]⟩⟩, ⟨11, 0, 0, ⟨#[]⟩⟩, ⟨16, 0, 0, ⟨#[]⟩⟩, ⟨7, 0, 0, ⟨#[]⟩⟩, ⟨8, 0, 0, ⟨#[]⟩⟩] = 0 ∧ urA [⟨10, 0, 0, ⟨#[]⟩⟩, ⟨11, 0, 0, ⟨#[]⟩⟩, ⟨16, 0, 0, ⟨#[]⟩⟩, ⟨7, 0, 0, ⟨#[]⟩⟩, ⟨8, 0, 0, ⟨#[]⟩⟩] = [⟨11, 0, 0, ⟨#[]⟩⟩] ∧
  tgA [⟨10, 0, 0, ⟨#[]⟩⟩, ⟨11, 0, 0, ⟨#[]⟩⟩, ⟨16, 0, 0, ⟨#[]⟩⟩, ⟨7, 0, 0, ⟨#[]⟩⟩, ⟨8, 0, 0, ⟨#[]⟩⟩] = 0 := by
 have hc : chk [⟨10, 0, 0, ⟨#[]⟩⟩, ⟨11, 0, 0, ⟨#[]⟩⟩, ⟨16, 0, 0, ⟨#[]⟩⟩, ⟨7, 0, 0, ⟨#[]⟩⟩, ⟨8, 0, 0, ⟨#[]⟩⟩] = 0 := by decide
 have hz : chk [⟨11, 0, 0, ⟨#[]⟩⟩] = 0 := by decide
 have h := ur_half (pr := [⟨10, 0, 0, ⟨#[]⟩⟩, ⟨11, 0, 0, ⟨#[]⟩⟩, ⟨16, 0, 0, ⟨#[]⟩⟩, ⟨7, 0, 0, ⟨#[]⟩⟩]) (q := [[⟨10, 0, 0, ⟨#[]⟩⟩], [⟨11, 0, 0, ⟨#[]⟩⟩], [⟨16, 0, 0, ⟨#[]⟩⟩]]) hc (k := 8) (.inl rfl) rfl rfl rfl rfl
 refine ⟨h.1.trans hz, h.2 hz, ?_⟩
 unfold tgA
 rw [if_pos hc]
 rfl
end
section
/- Redexes of pairs, of functions, of numbers. -/
def PU (x : List Nd) : Prop := chk x = 0 ∧ dpL x ≤ 50
section
variable {s a b : List Nd} (hs : PU s) (ha : PU a) (hb : PU b) (hls : s.length ≤ 120) (hla : a.length ≤ 120) (hlb : b.length ≤ 120)
include hs ha hb hls hla hlb
end
mutual
theorem shz_T {f : Int} : ∀ (x : T) (u : Int), x.wf = true → trE (shV 0 f) u x = 0 ∧ trT (shV 0 f) u x = x
 | .mk n l, u, hw => by
  obtain ⟨h1, h2, h3⟩ := wf_parts hw
  by_cases hk : n.K = 0
  ·
   obtain ⟨e, a, b⟩ := var_node h1 hk
   have hl : l = [] := List.eq_nil_of_length_eq_zero (by rw [← h2]; simp [many, binds, hk, shp])
   simp only [trE, trT, hk, if_true, shV]
   split
   ·
    rw [if_neg (by omega), if_neg (by omega)]
    refine ⟨rfl, ?_⟩
    rw [hl, e]
    simp
   · rw [hl]; exact ⟨rfl, rfl⟩
  ·
   simp only [trE, trT, hk, if_false]
   obtain ⟨a, b⟩ := shz_Ts (f := f) l ((binds n).map (u + ·)) h3 (by simp [← h2, many])
   exact ⟨a, by rw [b]⟩
theorem shz_Ts {f : Int} : ∀ (l : List T) (us : List Int), T.wfs l = true → l.length = us.length → trEs (shV 0 f) l us = 0 ∧ trTs (shV 0 f) l us = l
 | [], us, _, _ => by simp [trEs, trTs]
 | y :: l, [], _, h => by simp at h
 | y :: l, u :: us, hw, h => by
  obtain ⟨h1, h2⟩ := wf_cons hw
  obtain ⟨a, b⟩ := shz_T (f := f) y u h1
  obtain ⟨c, d⟩ := shz_Ts (f := f) l us h2 (by simpa using h)
  simp only [trEs, trTs, a, if_true, b, c, d, and_self]
end
theorem sf_zero {t : List Nd} {f : Int} (h : chk t = 0) : sfE t 0 f = 0 ∧ sfA t 0 f = t := by
 obtain ⟨h1, h2⟩ := sfE_ok (b := 0) (f := f) h
 have hc : clamp 0 = 0 := by decide
 rw [hc] at h1 h2
 obtain ⟨a, b⟩ := shz_T (f := max 0 (clamp f)) (treeOf t) 0 (treeOf_meas (meas_chk h)).1
 refine ⟨h1.trans a, ?_⟩
 rw [h2]
 unfold trL trEL
 rw [if_pos a, b, (treeOf_meas (meas_chk h)).2]
end
section
/- Eliminators of constructors: what their rule says where no argument has a hypothesis. -/
open Go Go.RowKit
def apK (o : List Nd) (q : List (List Nd)) (k : Nat) : List Nd := (q.take k).foldl (fun o x => noL 0 ⟨5, 0, 0, ⟨#[]⟩⟩ [o, x]) o
theorem apK_zero {o : List Nd} {q : List (List Nd)} : apK o q 0 = o := rfl
theorem apK_succ {o : List Nd} {q : List (List Nd)} {k : Nat} (h : k < q.length) : apK o q (k + 1) = noL 0 ⟨5, 0, 0, ⟨#[]⟩⟩ [apK o q k, nthL q k] := by
 unfold apK
 rw [List.take_add_one, List.foldl_append]
 have : nthL q k = q[k] := by simp [nthL, h]
 rw [this, List.getElem?_eq_getElem h]
 rfl
theorem apK_len {o : List Nd} {q : List (List Nd)} (ho : o.length ≤ 4000) (hq : ∀ x ∈ q, x.length ≤ 4000) : ∀ k, k ≤ q.length → (apK o q k).length ≤ 4000 + k * 4001
 | 0, _ => by rw [apK_zero]; omega
 | k + 1, h => by
  have h1 := apK_len ho hq k (by omega)
  have h2 := hq _ (nthL_mem (l := q) (k := k) (by omega))
  have h3 := noL_len (e := 0) (n := ⟨5, 0, 0, ⟨#[]⟩⟩) (p := [apK o q k, nthL q k])
  rw [apK_succ (by omega)]
  simp only [List.flatten_cons, List.flatten_nil, List.length_append, List.length_nil] at h3
  omega
theorem apK_sml {o : List Nd} {q : List (List Nd)} (ho : sml o) (hq : ∀ x ∈ q, sml x) : ∀ k, k ≤ q.length → sml (apK o q k)
 | 0, _ => ho
 | k + 1, h => by
  rw [apK_succ (by omega)]
  refine noL_sml (show (⟨#[]⟩ : ByteArray).size < 1000000 by decide) ?_
  intro x hx
  simp only [List.mem_cons, List.not_mem_nil, or_false] at hx
  rcases hx with rfl | rfl
  · exact apK_sml ho hq k (by omega)
  · exact hq _ (nthL_mem (by omega))
theorem many_26 {n : Nd} (h : n.K = 26) : many n = n.M.toNat := by simp [many, binds, h]
theorem many_27 {n : Nd} (h : n.K = 27) : many n = n.M.toNat + 2 := by simp [many, binds, h]
theorem con_nn {n : Nd} (hr : right n = true) (hk : n.K = 26) : 0 ≤ n.N ∧ 0 ≤ n.M := by
 rw [right_con2 hk, decide_eq_true_eq] at hr
 exact ⟨hr.2.1, hr.2.2.2.1⟩
def ofN (n : Nd) (p : List (List Nd)) : List Nd := p.flatten ++ [n]
def PE (x : List Nd) : Prop := chk x = 0 ∧ dpL x ≤ 30
section
variable {m c : List Nd} {q : List (List Nd)} {s : ByteArray} (hm : PE m) (hlm : m.length ≤ 120) (hc : PE c) (hlc : c.length ≤ 120) (hq : ∀ x ∈ q, PE x ∧ x.length ≤ 120) (h6 : q.length ≤ 6) (hs : nameOk s = true)
def elT (m c : List Nd) (q : List (List Nd)) (s : ByteArray) : List Nd := ofN ⟨27, 0, 1, s⟩ [m, c, ofN ⟨26, 0, (q.length : Int), s⟩ q]
include hm hlm hc hlc hq h6 hs
end
end
section
/- Iterators that change a box of their caller's between the rounds, and hand over rows that they have made. -/
open Go Go.RowKit
abbrev rB (A : Option Addr) (k : Nat) : Prop := A.map (·.block) = some k
structure Hnd (β : Type) where
 el : Nat
 sz : Nat
 enc : List β → List Value
def YieldsN {β : Type} (P : Program) (gf : Nat) (lb : Array Value) (H : Hnd β) (xs : List (List β)) (Zd : Nat → Prop) (W0 : World) (g : Nat) (t : TypeId) (c0 : List Value) (cell : List (List β) → List Value) (cE : List Value) : Prop :=
 ∀ (l : Nat) (jf jx : JF (List β)) (W : World) (C Mc : Nat → Prop), W0.heap.size ≤ W.heap.size → (∀ k, Zd k → W.heap[k]? = W0.heap[k]?) → (∀ k, Zd k → k < W.heap.size ∧ ¬ Mc k ∧ k ≠ g) →
  ¬ C g → (Res.box g t c0).holds W → jf.J [] W C Mc →
  (∀ pre x A c W1 C1 M1, jf.J pre W1 C1 M1 → ¬ C1 g → (Res.box g t (cell pre)).holds W1 → (Res.row A x.length c H.el H.sz (H.enc x)).holds W1 → (∀ k, rB A k → ¬ C1 k ∧ k ≠ g ∧ k < W1.heap.size) → SameOs W W1 → pre ++ [x] <+: xs →
   YieldAt Fence.wide 0 P l #[.slice A x.length c] W1 fun e W' => ∃ C' M', Chg C1 M1 W1 W' C' M' ∧
   ((e = .returned (.bool true) ∧ jf.J (pre ++ [x]) W' C' M') ∨ (e = .returned (.bool false) ∧ jx.J (pre ++ [x]) W' C' M'))) →
  CallsIn Fence.wide 0 P gf (#[.func (.yield l) #[] #[]] ++ lb) W fun e W' => (∃ v, e = .returned v) ∧ ∃ C' M', Chg C (fun k => Mc k ∨ k = g) W W' C' M' ∧
   ((jf.J xs W' C' M' ∧ ¬ C' g ∧ (Res.box g t cE).holds W') ∨ ∃ pre, pre <+: xs ∧ jx.J pre W' C' M')
theorem row_dat {w : World} {I : Nat → Prop} {A : Option Addr} {n cap e size : Nat} {xs : List Value} (h : (Res.row A n cap e size xs).holds w) (hI : ∀ k, rB A k → I k) : (dRow size A n cap xs).φ w I := by
 have hr : w.ownsRow 0 e size (.slice A n cap) n xs := h
 refine ⟨own_cap hr, hr.1, fun hn => ?_⟩
 obtain ⟨g, rfl⟩ := own_some hr hn
 exact ⟨_, rfl, hI g rfl, fun j u hu => hr.cells (g := g) rfl j u hu⟩
section
variable {I0 : Nat → Prop} {W W' w w0 wl : World} {m m' m0 : List Res} {ds ds' : List Dat} {Z M : Nat → Prop} {g : Nat}
theorem CSt.keepB (h : CSt w0 M I0 wl m0 W m ds) (hg : ownB m0 g) (hg0 : ¬ I0 g) (hs : W.heap.size ≤ W'.heap.size) (hI0 : ∀ k, I0 k → k < wl.heap.size) (hI : ∀ k, k < wl.heap.size → k ≠ g → W'.heap[k]? = W.heap[k]?) (hm : ∀ k, ownB m k → W'.heap[k]? = W.heap[k]?) : CSt w0 M I0 wl m0 W' m ds :=
 ⟨fun r hr => Res.holds_keep (h.hold r hr) (fun k e => hm k ⟨r, hr, e⟩), fun r hr k e => ⟨lt_keep (h.own r hr k e).1 (hm k ⟨r, hr, e⟩), (h.own r hr k e).2⟩, h.apart,
  fun d hd => d.mono _ _ _ _ hs (h.dat d hd) (fun k hk => ⟨hk, hI k (hI0 k hk) (fun e => hg0 (e ▸ hk))⟩), fun k hk => Nat.lt_of_lt_of_le (h.low k hk) hs, fun k hk hn => (hI k hk (fun e => hn (e ▸ hg))).trans (h.old k hk hn)⟩
theorem CSt.uncons {r : Res} (h : CSt w0 M I0 wl m0 W (r :: m) ds) : CSt w0 M I0 wl m0 W m ds :=
 ⟨fun x hx => h.hold x (.tail _ hx), fun x hx => h.own x (.tail _ hx), (List.pairwise_cons.1 h.apart).2, h.dat, h.low, h.old⟩
end
def rJB {α : Type} (K : List α → List Res → Prop) (w0 : World) (Z M : Nat → Prop) (wl : World) (m0 : List Res) (ds : List Dat) (l D g : Nat) (hg : ownB m0 g) (o : Obj) : JF α where
 J s W C Mc := ∃ m1, K s m1 ∧ CSt w0 M (imm Z w0 m0 wl) wl m0 W m1 ds ∧ wl.heap.size ≤ W.heap.size ∧ W.heap[l]? = some o ∧ W.heap[D]? = some (.deferred (some [])) ∧ C = (fun k => k < wl.heap.size ∧ k ≠ g ∨ ownB m1 k ∨ k = l ∨ k = D) ∧ Mc = (fun k => ownB m1 k ∨ k = l)
 abide s W W' C Mc h hs hk := by
  obtain ⟨m1, h1, h2, h5, h3, h4, rfl, rfl⟩ := h
  exact ⟨m1, h1, h2.keepB hg (fun q => by obtain ⟨r, hr, e⟩ := hg; exact q.2.2 r hr e) hs (fun k q => q.1) (fun k q hn => hk k (.inl ⟨q, hn⟩)) (fun k q => hk k (.inr (.inl q))), Nat.le_trans h5 hs, (hk l (.inr (.inr (.inl rfl)))).trans h3, (hk D (.inr (.inr (.inr rfl)))).trans h4, rfl, rfl⟩
 sub s W C Mc h := by
  obtain ⟨m1, h1, h2, h5, h3, h4, rfl, rfl⟩ := h
  refine ⟨fun k q => ?_, fun k q => ?_⟩
  ·
   rcases q with q | q
   · exact .inr (.inl q)
   · exact .inr (.inr (.inl q))
  ·
   rcases q with q | ⟨r, hr, e⟩ | rfl | rfl
   · exact h2.low k q.1
   · exact (h2.own r hr k e).1
   · exact (Array.getElem?_eq_some_iff.1 h3).1
   · exact (Array.getElem?_eq_some_iff.1 h4).1
def nPost {α : Type} (Inv : List α → List Res → Prop) (w0 : World) (Z M : Nat → Prop) (s : List α) (W : World) (m : List Res) (b : Res) : Exit → Act → World → Prop
 | .normal, _, W' => ∃ (m3 : List Res) (ds3 : List Dat) (i : Nat), St w0 Z M W' (b :: m3) ds3 ∧ ds3[i]? = some (dAg W (imm Z w0 m W)) ∧ Inv s m3
 | _, _, _ => False
theorem out_nPost {α : Type} {Inv : List α → List Res → Prop} {w0 : World} {Z M : Nat → Prop} {s : List α} {W : World} {m : List Res} {b : Res} : NoOut (nPost Inv w0 Z M s W m b) := fun _ _ h => h
def nBody {α : Type} (P : Program) (l : Nat) (body : Code) (Inv : List α → List Res → Prop) (w0 : World) (Z M : Nat → Prop) (ds : List Dat) (s : List α) (W : World) (m1 : List Res) (b : Res) (d : Dat) (a1 : Act) (W1 : World) : Prop :=
 ∃ (m2 : List Res) (ds2 : List Dat) (i j : Nat), St w0 Z M W1 m2 ds2 ∧ ds2[i]? = some (dAg W (imm Z w0 m1 W)) ∧ ds2[j]? = some d ∧ (∀ k, M k → ownB m1 k) ∧ (∀ k, M k → ownB m2 k) ∧
  ∀ W2, St w0 Z M W2 m2 (ds ++ [dAg W2 (imm Z w0 m2 W2)] ++ [d]) → body.wpIn (rI l) 0 P (nPost Inv w0 Z M s W2 m2 b) a1 W2
section
variable {P : Program}
theorem w_rangeN {β : Type} {g0 : Operand} {ps : Array Tmp} {assign body : Code} {Q : Exit → Act → World → Prop} {a : Act} {w w0 : World} {Z M Zd : Nat → Prop} {m : List Res} {ds : List Dat} {gf : Nat} {lb : Array Value} {H : Hnd β} {xs : List (List β)} {g : Nat} {t : TypeId} {c0 cE : List Value} {cell : List (List β) → List Value}
  (hg : a.eval g0 = .func (.func gf) #[] lb) (hok : FOK P gf) (hseq : YieldsN P gf lb H xs Zd w g t c0 cell cE) (hps : ps.size = 1) (hsz : H.sz ≠ 0)
  (hS : St w0 Z M w (.box g t c0 :: m) ds) (hZd : ∀ k, Zd k → imm Z w0 (.box g t c0 :: m) w k) (Inv : List (List β) → List Res → Prop) (h0 : Inv [] m)
  (hround : ∀ (l : Nat) (pre : List (List β)) (x : List β) (A : Option Addr) (c : Nat) (W : World) (m1 : List Res), pre ++ [x] <+: xs → Inv pre m1 → St w0 Z M W (.box g t (cell pre) :: m1) (ds ++ [dAg W (imm Z w0 (.box g t (cell pre) :: m1) W)] ++ [dRow H.sz A x.length c (H.enc x)]) →
   assign.wpIn (rI l) 0 P (Exit.then (nBody P l body Inv w0 Z M ds (pre ++ [x]) W (.box g t (cell pre) :: m1) (.box g t (cell pre)) (dRow H.sz A x.length c (H.enc x))) (fun _ _ _ => False)) { tmps := (ps.zip #[.slice A x.length c]).foldl (fun t (p, v) => t.setIfInBounds p v) a.tmps, defers := [] } W)
  (hdone : ∀ (D : Nat) (m' : List Res) (W : World), Inv xs m' → St w0 Z M W (.box g t cE :: m') (ds ++ [dMark w0.heap.size D]) → Q .normal { a with defers := mark D :: a.defers } W) :
  (Code.rangeFunc g0 ps assign body).wp P Q a w := by
 refine (wpIn_wide (n := 0)).1 (wpIn_rangeFunc ?_)
 intro fn _
 have hgm : ownB (.box g t c0 :: m) g := ⟨_, List.mem_cons_self, rfl⟩
 have hgw := hS.own _ List.mem_cons_self g rfl
 have hgI : ¬ imm Z w0 (.box g t c0 :: m) w g := fun q => q.2.2 _ List.mem_cons_self rfl
 have hgm1 : ¬ ownB m g := fun ⟨r, hr, e⟩ => (List.pairwise_cons.1 hS.apart).1 r hr g rfl e
 obtain ⟨rec, hrec⟩ : ∃ rec : LoopState → Option Code → Loop, rec = fun st pe => { state := st, pending := pe, fn, tmps := a.tmps, params := ps, assign, body, defers := w.heap.size } := ⟨_, rfl⟩
 obtain ⟨W1, hW1⟩ : ∃ W1, (w.alloc (.deferred (some []))).alloc (.loop (rec .ready none)) = W1 := ⟨_, rfl⟩
 have hsz1 : W1.heap.size = w.heap.size + 2 := by rw [← hW1]; simp
 have hL1 : W1.heap[w.heap.size + 1]? = some (.loop (rec .ready none)) := by
  rw [← hW1]; have := World.alloc_heap_new (w.alloc (.deferred (some []))) (.loop (rec .ready none)); rwa [World.size_alloc] at this
 have hK1 : W1.heap[w.heap.size]? = some (.deferred (some [])) := by
  rw [← hW1]; exact (Below.heap_alloc _ _ _ (by simp)).trans (World.alloc_heap_new w _)
 have hb1 : Below w.heap.size w W1 := by
  rw [← hW1]; exact (((Below.refl _ w).alloc (Nat.le_refl _) _).alloc (by simp) _)
 have hold1 : ∀ k, k < w.heap.size → W1.heap[k]? = w.heap[k]? := fun k hk => hb1.block k hk
 have hc0 := hS.cst
 have hso1 : SameOs w W1 := ⟨hb1.os, hb1.tape, hb1.output⟩
 have hc1 : CSt w0 M (imm Z w0 (.box g t c0 :: m) w) w (.box g t c0 :: m) W1 (.box g t c0 :: m) ds := hc0.keep (by omega) (fun k hk => hk.1) hold1 (fun k ⟨r, hr, e⟩ => hold1 k (hS.own r hr k e).1)
 refine ⟨w.heap.size + 1, [mark w.heap.size], W1, { target := .fn (.func gf) lb, args := #[.func (.yield (w.heap.size + 1)) #[] #[]] }, W1, gf,
  #[.func (.yield (w.heap.size + 1)) #[] #[]] ++ lb, W1, ?_, ?_, (fun _ _ => trivial), ?_, (fun h => by cases h), ?_⟩
 · rw [← hW1, hrec]; exact run_enterLoop_outer _ _ _ _ _
 ·
  simp only [resolve, hg]
  simp [go_sem]
 · simp [invoke, go_sem, hok _ _]
 ·
  refine (hseq (w.heap.size + 1) (rJB Inv w0 Z M w (.box g t c0 :: m) ds (w.heap.size + 1) w.heap.size g hgm (.loop (rec .ready none)))
   (rJB (fun _ _ => False) w0 Z M w (.box g t c0 :: m) ds (w.heap.size + 1) w.heap.size g hgm (.loop (rec .ready none))) W1 _ _ (by omega) ?_ ?_ ?_ (hc1.hold _ List.mem_cons_self) ⟨m, h0, hc1.uncons, by omega, hL1, hK1, rfl, rfl⟩ ?_).mono ?_
  ·
   intro k hk
   exact hold1 k (hZd k hk).1
  ·
   intro k hk
   have hi := hZd k hk
   have hlt : k < w.heap.size := hi.1
   refine ⟨by omega, ?_, fun e => hi.2.2 _ List.mem_cons_self (by rw [e]; rfl)⟩
   rintro (⟨r, hr, e⟩ | rfl)
   · exact hi.2.2 r (.tail _ hr) e
   · omega
  ·
   rintro (q | q | q | q)
   · exact q.2 rfl
   · exact hgm1 q
   · have := hgw.1; omega
   · have := hgw.1; omega
  ·
   -- one round
   rintro pre x A c W C1 M1 ⟨m1, hinv, hcst0, hlz, hl, hk, rfl, rfl⟩ hgC hbox hrow hrB hso hp
   have hgm2 : ¬ ownB m1 g := fun q => hgC (.inr (.inl q))
   have hy := run_yield (P := P) (args := #[.slice A x.length c]) hl (by rw [hrec]; exact hps.symm)
   rw [hrec] at hy
   have hcst : CSt w0 M (imm Z w0 (.box g t c0 :: m) w) w (.box g t c0 :: m) W (.box g t (cell pre) :: m1) ds := by
    refine ⟨fun r hr => ?_, fun r hr k e => ?_, List.pairwise_cons.2 ⟨fun r hr k e e' => ?_, hcst0.apart⟩, hcst0.dat, hcst0.low, hcst0.old⟩
    ·
     rcases List.mem_cons.1 hr with rfl | hr
     · exact hbox
     · exact hcst0.hold r hr
    ·
     rcases List.mem_cons.1 hr with rfl | hr
     ·
      have : g = k := by simpa [Res.blk] using e
      subst this
      exact ⟨(Array.getElem?_eq_some_iff.1 hbox).1, hgI, hgw.2, .inl hgm⟩
     · exact hcst0.own r hr k e
    ·
     have : g = k := by simpa [Res.blk] using e
     subst this
     exact hgm2 ⟨r, hr, e'⟩
   have hnl : ¬ ownB (.box g t (cell pre) :: m1) (w.heap.size + 1) := own_ne hcst.hold hl loop_ne
   have hnd : ¬ ownB (.box g t (cell pre) :: m1) w.heap.size := own_ne hcst.hold hk def_ne
   have hso' : SameOs w W := ⟨hso.1.trans hso1.1, hso.2.1.trans hso1.2.1, hso.2.2.trans hso1.2.2⟩
   have hS0 := hcst.st hS hso' hlz
   have hdr : (dRow H.sz A x.length c (H.enc x)).φ W (imm Z w0 (.box g t (cell pre) :: m1) W) := row_dat hrow fun k hk => by
    obtain ⟨q1, q2, q4⟩ := hrB k hk
    refine ⟨q4, fun hlt => ?_, fun r hr e => ?_⟩
    · exact absurd (.inl ⟨Nat.lt_of_lt_of_le hlt hS.size, q2⟩) q1
    ·
     rcases List.mem_cons.1 hr with rfl | hr
     · exact q2 (by simpa [Res.blk] using e.symm)
     · exact q1 (.inr (.inl ⟨r, hr, e⟩))
   have hS1 := hS0.data _ hdr
   refine ⟨fn, _, assign, body, hy, roundIn_of_wpIn trivial (wpIn_mono (hround (w.heap.size + 1) pre x A c W m1 hp hinv hS1) ?_)⟩
   rintro e a1 Wa he
   cases e with
   | normal =>
    obtain ⟨m2, ds2, i2, j2, hSa, hi2, hj2, hM1, hM2, hbody⟩ := he
    obtain ⟨q1, q2, q3⟩ := CSt.chg hS1 hSa hi2 hM1
    have hla : Wa.heap[w.heap.size + 1]? = some (.loop (rec .ready none)) := (q1 _ (Array.getElem?_eq_some_iff.1 hl).1 hnl).trans hl
    have hka : Wa.heap[w.heap.size]? = some (.deferred (some [])) := (q1 _ (Array.getElem?_eq_some_iff.1 hk).1 hnd).trans hk
    have hlt : w.heap.size + 1 < Wa.heap.size := (Array.getElem?_eq_some_iff.1 hla).1
    refine ⟨_, run_beginRound hla (by rw [hrec]), ?_⟩
    have hca := hcst.back hSa hlz q1 q2 q3
    have hnl2 : ¬ ownB m2 (w.heap.size + 1) := own_ne hca.hold hla loop_ne
    have hnd2 : ¬ ownB m2 w.heap.size := own_ne hca.hold hka def_ne
    have hput : ∀ k, k ≠ w.heap.size + 1 → (Wa.putObj (w.heap.size + 1) (.loop { rec .ready none with state := .busy })).heap[k]? = Wa.heap[k]? := fun k h => World.putObj_heap_other h
    have hcb : CSt w0 M (imm Z w0 (.box g t c0 :: m) w) w (.box g t c0 :: m) (Wa.putObj (w.heap.size + 1) (.loop { rec .ready none with state := .busy })) m2 ds :=
     hca.keep (by rw [World.putObj_size]; omega) (fun k hk => hk.1) (fun k hk => hput k (by omega)) (fun k hk => hput k (fun e => hnl2 (e ▸ hk)))
    have hsa : SameOs w (Wa.putObj (w.heap.size + 1) (.loop { rec .ready none with state := .busy })) := ⟨hSa.os.trans hS.os.symm, hSa.tape.trans hS.tape.symm, hSa.output.trans hS.output.symm⟩
    have hS20 := hcb.st hS hsa (by rw [World.putObj_size]; omega)
    have hdr2 : (dRow H.sz A x.length c (H.enc x)).φ (Wa.putObj (w.heap.size + 1) (.loop { rec .ready none with state := .busy })) (imm Z w0 m2 (Wa.putObj (w.heap.size + 1) (.loop { rec .ready none with state := .busy }))) := by
     have h1 := datC_row hsz A x.length c (H.enc x) Wa (Wa.putObj (w.heap.size + 1) (.loop { rec .ready none with state := .busy })) _ (hSa.get hj2) (fun k ⟨cs, ty, fz, hk⟩ => hput k (fun e => by
      rw [e, hla] at hk
      cases hk))
     have himm : imm Z w0 m2 (Wa.putObj (w.heap.size + 1) (.loop { rec .ready none with state := .busy })) = imm Z w0 m2 Wa := by
      funext k
      unfold imm
      rw [World.putObj_size]
     rw [himm]
     exact h1
    have hS2 := hS20.data _ hdr2
    refine wpIn_mono (hbody _ hS2) ?_
    have hl2 : (Wa.putObj (w.heap.size + 1) (.loop { rec .ready none with state := .busy })).heap[w.heap.size + 1]? = some (.loop { rec .ready none with state := .busy }) := World.putObj_heap_same hlt
    have hk2 : (Wa.putObj (w.heap.size + 1) (.loop { rec .ready none with state := .busy })).heap[w.heap.size]? = some (.deferred (some [])) := (hput _ (by omega)).trans hka
    rintro e a3 W3 hp3
    cases e with
    | normal =>
     obtain ⟨m3, ds3, i3, hS3, hi3, hv3⟩ := hp3
     obtain ⟨p1, p2, p3⟩ := CSt.chg hS2 hS3 hi3 hM2
     rw [World.putObj_size] at p3
     have hl3 : W3.heap[w.heap.size + 1]? = some (.loop { rec .ready none with state := .busy }) := (p1 _ (by simpa using hlt) hnl2).trans hl2
     have hk3 : W3.heap[w.heap.size]? = some (.deferred (some [])) := (p1 _ (Array.getElem?_eq_some_iff.1 hk2).1 hnd2).trans hk2
     have hr := run_endRound (P := P) none hl3
     have hlt3 := (Array.getElem?_eq_some_iff.1 hl3).1
     have hc3 := hcb.back hS3 (by rw [World.putObj_size]; omega) p1 p2 (by rw [World.putObj_size]; exact p3)
     have hnl3 : ¬ ownB (.box g t (cell pre) :: m3) (w.heap.size + 1) := own_ne hc3.hold hl3 loop_ne
     have hput3 : ∀ k, k ≠ w.heap.size + 1 → (W3.putObj (w.heap.size + 1) (.loop (rec .ready none))).heap[k]? = W3.heap[k]? := fun k h => World.putObj_heap_other h
     have hown3 : ∀ k, ownB (.box g t (cell pre) :: m3) k → ownB (.box g t (cell pre) :: m1) k ∨ W.heap.size ≤ k := fun k q => by
      rcases p2 k q with q | q
      · exact q2 k q
      ·
       rw [World.putObj_size] at q
       right; omega
     have hg3 : ¬ ownB m3 g := fun ⟨r, hr, e⟩ => (List.pairwise_cons.1 hS3.apart).1 r hr g rfl e
     have hown4 : ∀ k, ownB m3 k → ownB m1 k ∨ W.heap.size ≤ k := fun k q => by
      obtain ⟨r, hr, e⟩ := q
      rcases hown3 k ⟨r, .tail _ hr, e⟩ with ⟨r', hr', e'⟩ | q
      ·
       rcases List.mem_cons.1 hr' with rfl | hr'
       ·
        have : g = k := by simpa [Res.blk] using e'
        subst this
        exact absurd ⟨r, hr, e⟩ hg3
       · exact .inl ⟨r', hr', e'⟩
      · exact .inr q
     have hc4 := hc3.keep (W' := W3.putObj (w.heap.size + 1) (.loop (rec .ready none))) (by rw [World.putObj_size]; omega) (fun k hk => hk.1) (fun k hk => hput3 k (by omega)) (fun k hk => hput3 k (fun e => hnl3 (e ▸ hk)))
     have hr' : (Instr.endRound (w.heap.size + 1) none).run P W3 = .ok (.bool true) (W3.putObj (w.heap.size + 1) (.loop (rec .ready none))) := by rw [hrec] at hr ⊢; exact hr
     refine ⟨_, _, hr', _, _, ?_, .inl ⟨rfl, m3, hv3, hc4.uncons, by rw [World.putObj_size]; omega, World.putObj_heap_same hlt3, (hput3 _ (by omega)).trans hk3, rfl, rfl⟩⟩
     refine ⟨hS3.os.trans hS1.os.symm, hS3.tape.trans hS1.tape.symm, hS3.output.trans hS1.output.symm, by rw [World.putObj_size]; omega, fun k hk hM => ?_, fun k q => ?_, fun k q => ?_⟩
     ·
      have hkl : k ≠ w.heap.size + 1 := fun e => hM (.inr e)
      by_cases hkg : k = g
      ·
       subst hkg
       have e1 : (W3.putObj (w.heap.size + 1) (.loop (rec .ready none))).heap[k]? = some (.cells (cell pre).toArray t (0, 0)) := hc4.hold _ List.mem_cons_self
       have e2 : W.heap[k]? = some (.cells (cell pre).toArray t (0, 0)) := hbox
       exact e1.trans e2.symm
      ·
       have hk1 : ¬ ownB (.box g t (cell pre) :: m1) k := fun ⟨r, hr, e⟩ => by
        rcases List.mem_cons.1 hr with rfl | hr
        · exact hkg (by simpa [Res.blk] using e.symm)
        · exact hM (.inl ⟨r, hr, e⟩)
       have hka' : k < Wa.heap.size := Nat.lt_of_lt_of_le hk q3
       have hn2 : ¬ ownB m2 k := fun q => by
        rcases q2 k q with q | q
        · exact hk1 q
        · omega
       rw [hput3 k hkl, p1 k (by rw [World.putObj_size]; exact hka') hn2, hput k hkl]
       exact q1 k hk hk1
     ·
      rcases q with q | q | q
      · exact .inl (.inl q)
      ·
       rcases hown4 k q with q | q
       · exact .inl (.inr (.inl q))
       · exact .inr q
      · exact .inl (.inr (.inr q))
     ·
      rcases q with q | q
      ·
       rcases hown4 k q with q | q
       · exact .inl (.inl q)
       · exact .inr q
      · exact .inl (.inr q)
    | _ => exact hp3.elim
   | _ => exact he.elim
  ·
   -- behind the iterator
   rintro e W' ⟨⟨v, rfl⟩, C', M', hch, ⟨⟨m', hinv, hc, _, hl, hk, rfl, rfl⟩, hgC, hbE⟩ | ⟨pre, hpre, m', hix, _⟩⟩
   ·
    have he := run_endLoop (P := P) hl (by rw [hrec]; simp)
    rw [hrec] at he
    refine ⟨none, _, he, hdone _ m' _ hinv ?_⟩
    have hgm3 : ¬ ownB m' g := fun q => hgC (.inr (.inl q))
    have hcb : CSt w0 M (imm Z w0 (.box g t c0 :: m) w) w (.box g t c0 :: m) W' (.box g t cE :: m') ds := by
     refine ⟨fun r hr => ?_, fun r hr k e => ?_, List.pairwise_cons.2 ⟨fun r hr k e e' => ?_, hc.apart⟩, hc.dat, hc.low, hc.old⟩
     ·
      rcases List.mem_cons.1 hr with rfl | hr
      · exact hbE
      · exact hc.hold r hr
     ·
      rcases List.mem_cons.1 hr with rfl | hr
      ·
       have : g = k := by simpa [Res.blk] using e
       subst this
       exact ⟨(Array.getElem?_eq_some_iff.1 hbE).1, hgI, hgw.2, .inl hgm⟩
      · exact hc.own r hr k e
     ·
      have : g = k := by simpa [Res.blk] using e
      subst this
      exact hgm3 ⟨r, hr, e'⟩
    have hnl : ¬ ownB (.box g t cE :: m') (w.heap.size + 1) := own_ne hcb.hold hl loop_ne
    have hnd : ¬ ownB (.box g t cE :: m') w.heap.size := own_ne hcb.hold hk def_ne
    have hput : ∀ k, k ≠ w.heap.size + 1 → (W'.putObj (w.heap.size + 1) (.loop { rec .ready none with state := .exhausted })).heap[k]? = W'.heap[k]? := fun k h => World.putObj_heap_other h
    have hsz := hch.size
    have hS' : St w0 Z M (W'.putObj (w.heap.size + 1) (.loop { rec .ready none with state := .exhausted })) (.box g t cE :: m') ds := by
     refine hS.step (hch.os.trans hb1.os) (hch.tape.trans hb1.tape) (hch.output.trans hb1.output) (by rw [World.putObj_size]; omega) (fun k hk hne => ?_)
      (fun r hr => Res.holds_keep (hcb.hold r hr) (fun k e => hput k (fun e' => hnl (e' ▸ ⟨r, hr, e⟩)))) (fun r hr k e => ⟨by rw [World.putObj_size]; exact (hcb.own r hr k e).1, ?_⟩) hcb.apart
     ·
      rw [hput k (by omega), hch.old k (by omega) (by
       rintro ((⟨r, hr, e⟩ | rfl) | rfl)
       · exact hne r (.tail _ hr) e
       · omega
       · exact hne _ List.mem_cons_self rfl)]
      exact hold1 k hk
     · exact (hcb.own r hr k e).2.2.2.imp (fun ⟨r', hr', e'⟩ => ⟨r', hr', e'⟩) id
    have hS4 := hS'.data (dMark w0.heap.size w.heap.size) ⟨hS.size, ⟨by rw [World.putObj_size]; exact (Array.getElem?_eq_some_iff.1 hk).1, fun hlt => by have := hS.size; omega, fun r hr e => hnd ⟨r, hr, e⟩⟩, (hput _ (by omega)).trans hk⟩
    rw [hrec] at hS4
    exact hS4
   · exact hix.elim
end
theorem St.freshM {w0 w : World} {Z : Nat → Prop} {g : Nat} {m : List Res} {ds : List Dat} {t : TypeId} {cs : List Value} {i j : Nat} {r : Res} (h : St w0 Z (· = g) w m ds) (hi : m[i]? = some r) (hj : m[j]? = some (.box g t cs)) (hij : i ≠ j) (k : Nat) (hk : r.blk = some k) : w0.heap.size ≤ k :=
 ((h.own r (List.mem_of_getElem? hi) k hk).2).resolve_right (fun e => apart_get h.apart hij hi hj hk (by rw [e]; rfl))
theorem St.callMO {w0 w w' : World} {Z M : Nat → Prop} {g : Nat} {m : List Res} {ds : List Dat} {t : TypeId} {cs cs' : List Value} {i : Nat} {r : Res} (h : St w0 Z M w m ds) (hi : m[i]? = some (.box g t cs)) (hf : Fr (· = g) w w') (hb : (Res.box g t cs').holds w') (hr : r.holds w') (hfr : ∀ k, r.blk = some k → w.heap.size ≤ k) : St w0 Z M w' (m.set i (.box g t cs') ++ [r]) ds := by
 have h1 := h.callM hi hf hb
 have hown : ∀ s ∈ m.set i (.box g t cs'), ∀ k, s.blk = some k → ∃ r' ∈ m, r'.blk = some k := fun s hs k e => by
  rcases List.mem_or_eq_of_mem_set hs with hs | rfl
  · exact ⟨s, hs, e⟩
  · exact ⟨_, List.mem_of_getElem? hi, e⟩
 refine h.step hf.os hf.tape hf.output hf.size (fun k hk hne => hf.old k hk (fun e => hne _ (List.mem_of_getElem? hi) (by rw [e]; rfl))) ?_ ?_ ?_
 ·
  intro s hs
  rcases List.mem_append.1 hs with hs | hs
  · exact h1.hold s hs
  · rw [List.mem_singleton] at hs; subst hs; exact hr
 ·
  intro s hs k e
  rcases List.mem_append.1 hs with hs | hs
  · exact ⟨(h1.own s hs k e).1, .inl (hown s hs k e)⟩
  ·
   rw [List.mem_singleton] at hs; subst hs
   refine ⟨?_, .inr (hfr k e)⟩
   obtain ⟨cs, t, fz, hc⟩ := Res.cells_at hr e
   exact (Array.getElem?_eq_some_iff.1 hc).1
 ·
  refine List.pairwise_append.2 ⟨h1.apart, List.pairwise_singleton _ _, fun s hs r' hr' k e e' => ?_⟩
  rw [List.mem_singleton] at hr'; subst hr'
  obtain ⟨q, hq, e2⟩ := hown s hs k e
  have := (h.own q hq k e2).1
  have := hfr k e'
  omega
structure YsN {β : Type} (P : Program) (lp : Nat) (H : Hnd β) (xs : List (List β)) (jf jx : JF (List β)) (w0 : World) (C0 M0 Zd : Nat → Prop) (g : Nat) (t : TypeId) (cell : List (List β) → List Value) : Prop where
 zd : ∀ k, Zd k → k < w0.heap.size ∧ ¬ M0 k
 y : ∀ pre x A c W1 C1 M1, jf.J pre W1 C1 M1 → ¬ C1 g → (Res.box g t (cell pre)).holds W1 → (Res.row A x.length c H.el H.sz (H.enc x)).holds W1 → (∀ k, rB A k → ¬ C1 k ∧ k ≠ g ∧ k < W1.heap.size) → SameOs w0 W1 → pre ++ [x] <+: xs →
   YieldAt Fence.wide 0 P lp #[.slice A x.length c] W1 fun e W' => ∃ C' M', Chg C1 M1 W1 W' C' M' ∧
   ((e = .returned (.bool true) ∧ jf.J (pre ++ [x]) W' C' M') ∨ (e = .returned (.bool false) ∧ jx.J (pre ++ [x]) W' C' M'))
def itPostN {β : Type} (jf jx : JF (List β)) (xs : List (List β)) (C0 M0 : Nat → Prop) (g : Nat) (t : TypeId) (cE : List Value) (w0 : World) (e : Ending) (W' : World) : Prop :=
 (∃ v, e = .returned v) ∧ ∃ C' M', Chg C0 M0 w0 W' C' M' ∧ ((jf.J xs W' C' M' ∧ ¬ C' g ∧ (Res.box g t cE).holds W') ∨ ∃ pre, pre <+: xs ∧ jx.J pre W' C' M')
section
variable {β : Type} {P : Program} {ops : Array Oper} {Q : Exit → Act → World → Prop} {rest : List Oper} {o : Oper} {a : Act} {w w0 : World} {N : Nat} {ls : List (Nat × Value)} {d : Nat} {m : List Res} {ds ds0 : List Dat} {jf jx : JF (List β)} {H : Hnd β} {xl : List (List β)} {C0 M0 Zd : Nat → Prop} {g : Nat} {t : TypeId} {c0 cE : List Value} {cell : List (List β) → List Value}
theorem it_allN {v : Value} {s : List (List β)} {j : Nat} (hS : St w0 (oldB w0) M0 w m ds) (hi : ds[0]? = some (dJ jf s C0 M0 w0.heap.size)) (hj : m[j]? = some (.box g t cE)) (h : s = xl) : itPostN jf jx xl C0 M0 g t cE w0 (.returned v) w := by
 subst h
 obtain ⟨C', M', h1, h2, h3, h4⟩ := hS.get hi
 exact ⟨⟨v, rfl⟩, C', M', ⟨hS.os, hS.tape, hS.output, hS.size, hS.old, h3, h4⟩, .inl ⟨h1, fun q => (h2 g q).2.2 _ (List.mem_of_getElem? hj) rfl, hS.res hj⟩⟩
theorem it_stopN {v : Value} {s : List (List β)} (hS : St w0 (oldB w0) M0 w m ds) (hi : ds[0]? = some (dJ jx s C0 M0 w0.heap.size)) (h : s <+: xl) : itPostN jf jx xl C0 M0 g t cE w0 (.returned v) w := by
 obtain ⟨C', M', h1, h2, h3, h4⟩ := hS.get hi
 exact ⟨⟨v, rfl⟩, C', M', ⟨hS.os, hS.tape, hS.output, hS.size, hS.old, h3, h4⟩, .inr ⟨s, h, h1⟩⟩
theorem yieldsN_of {gf : Nat} {fn : Func} {c : Code} {lb : List Value} {W0 : World} (hf : P.funcs[gf]? = some fn) (hb : fn.body = some c) (hN : fn.ntmps = N) (hsz : decide (lb.length + 1 ≤ N ∧ N ≤ 1000000) = true)
  (ds0 : List Dat) (hds : ∀ d ∈ ds0, d.φ W0 Zd)
  (h : ∀ (lp : Nat) (jf jx : JF (List β)) (w0 : World) (C0 M0 : Nat → Prop), YsN P lp H xl jf jx w0 C0 M0 Zd g t cell → (∀ d ∈ ds0, d.φ w0 Zd) → ∀ a, Reg a N ((1000000, .bool false) :: idx 0 (.func (.yield lp) #[] #[] :: lb)) →
   St w0 (oldB w0) M0 w0 [.box g t c0] (dJ jf [] C0 M0 w0.heap.size :: ds0) → c.wp P (bodyPost P fn (itPostN jf jx xl C0 M0 g t cE w0)) a w0) : YieldsN P gf lb.toArray H xl Zd W0 g t c0 cell cE := by
 intro lp jf jx W C Mc hs hag hz hgC hbx hj hY
 have hz' : ∀ k, Zd k → k < W.heap.size ∧ ¬ (Mc k ∨ k = g) := fun k hk => ⟨(hz k hk).1, fun q => q.elim (hz k hk).2.1 (hz k hk).2.2⟩
 have hds' : ∀ d ∈ ds0, d.φ W Zd := fun d hd => d.mono _ _ _ _ hs (hds d hd) fun k hk => ⟨hk, hag k hk⟩
 have hgW : g < W.heap.size := (Array.getElem?_eq_some_iff.1 hbx).1
 have h1 : (#[.func (.yield lp) #[] #[]] ++ lb.toArray : Array Value) = (Value.func (.yield lp) #[] #[] :: lb).toArray := by simp
 rw [h1]
 refine callsIn_wide.2 (c_enter hf hb hN (by simpa using hsz) fun a hR => ?_)
 refine h lp jf jx W C (fun k => Mc k ∨ k = g) ⟨hz', hY⟩ hds' a hR ⟨rfl, rfl, rfl, Nat.le_refl _, fun _ _ _ => rfl, (fun r hr => by rw [List.mem_singleton] at hr; subst hr; exact hbx), (fun r hr k e => by
  rw [List.mem_singleton] at hr; subst hr
  have : g = k := by simpa [Res.blk] using e
  subst this
  exact ⟨hgW, .inr (.inr rfl)⟩), .cons (fun _ h => by cases h) .nil, fun d hd => ?_⟩
 have hne : ∀ k, k ≠ g → ∀ r ∈ [Res.box g t c0], r.blk ≠ some k := fun k hk r hr e => by
  rw [List.mem_singleton] at hr; subst hr
  exact hk (by simpa [Res.blk] using e.symm)
 rcases List.mem_cons.1 hd with rfl | hd
 · exact ⟨C, Mc, hj, fun k hC => ⟨(jf.sub _ _ _ _ hj).2 k hC, fun h => h, hne k (fun e => hgC (e ▸ hC))⟩, fun _ h => .inl h, fun _ h => .inl (.inl h)⟩
 · exact d.mono _ _ _ _ (Nat.le_refl _) (hds' d hd) fun k hk => ⟨⟨(hz k hk).1, fun h => h, hne k (hz k hk).2.2⟩, rfl⟩
theorem y_callN {ro : Option Nat} {lp : Nat} {tt : Operand} {xo : Operand} {ts : Array TypeId} {pre : List (List β)} {bi ri : Nat}
  (hY : YsN P lp H xl jf jx w0 C0 M0 Zd g t cell) (hg : o.guard = none) (hR : Reg a N ls) (hS : St w0 (oldB w0) M0 w m ds) (hd : o.dst = some d)
  (ho : o.op = .call { callee := .value tt, args := #[xo], argTypes := ts }) (ht : ev ls tt = some (.func (.yield lp) #[] #[])) (x : List β) {A : Option Addr} {c : Nat} (hx : ev ls xo = some (.slice A x.length c)) (hdN : d < N)
  (hi : ds[0]? = some (dJ jf pre C0 M0 w0.heap.size)) (hb : m[bi]? = some (.box g t (cell pre))) (hr : m[ri]? = some (.row A x.length c H.el H.sz (H.enc x))) (hne : bi ≠ ri) (hp : pre ++ [x] <+: xl) (hds : ∀ d ∈ ds0, d.φ w0 Zd)
  (kt : ∀ a' w', Reg a' N ((d, .bool true) :: ls) → St w0 (oldB w0) M0 w' m (dJ jf (pre ++ [x]) C0 M0 w0.heap.size :: ds0) → wpListIn (wf ro) 0 P ops Q rest a' w')
  (kf : ∀ a' w', Reg a' N ((d, .bool false) :: ls) → St w0 (oldB w0) M0 w' m (dJ jx (pre ++ [x]) C0 M0 w0.heap.size :: ds0) → wpListIn (wf ro) 0 P ops Q rest a' w') :
  wpListIn (wf ro) 0 P ops Q (o :: rest) a w := by
 obtain ⟨C1, M1, hj, hC, h0, h1⟩ := hS.get hi
 have hC1 : ¬ C1 g := fun q => (hC g q).2.2 _ (List.mem_of_getElem? hb) rfl
 have hrB : ∀ k, rB A k → ¬ C1 k ∧ k ≠ g ∧ k < w.heap.size := fun k hk =>
  ⟨fun q => (hC k q).2.2 _ (List.mem_of_getElem? hr) hk, fun e => apart_get hS.apart hne hb hr (k := g) rfl (by rw [← e]; exact hk), (hS.own _ (List.mem_of_getElem? hr) k hk).1⟩
 obtain ⟨fn, tmps, assign, body, hrun, hround⟩ := hY.y pre x A c w C1 M1 hj hC1 (hS.res hb) (hS.res hr) hrB ⟨hS.os, hS.tape, hS.output⟩ hp
 have hxs : evs ls [xo] = some [.slice A x.length c] := by simp [evs, hx]
 have hrun' := run_yieldcall (xs := [xo]) hR (by rw [ho]) ht hxs hrun
 have hnd : ∀ c, o.op ≠ .defer c := fun c e => by rw [ho] at e; cases e
 unfold wpListIn
 rw [if_pos (by simp [Region.wanted, hg])]
 refine ⟨fun _ _ => trivial, ?_⟩
 rw [Oper.semAt_eq _ _ _ hnd, hrun']
 refine ⟨fun hd => by simp [wf, Fence.wide] at hd, ?_⟩
 have hround' : RoundIn (wf ro) 0 P lp fn tmps assign body w fun e W' => ∃ C' M', Chg C1 M1 w W' C' M' ∧
   ((e = .returned (.bool true) ∧ jf.J (pre ++ [x]) W' C' M') ∨ (e = .returned (.bool false) ∧ jx.J (pre ++ [x]) W' C' M')) := by
  cases ro <;> exact hround
 refine hround'.mono ?_
 rintro e W' ⟨C', M', hc, ⟨rfl, hj'⟩ | ⟨rfl, hj'⟩⟩
 ·
  rw [hd]
  exact kt _ _ (hR.put hdN _) (st_yield_next (jf := jf) (pre := pre) hS hC h0 h1 (jf.sub _ _ _ _ hj).1 hc hj' hY.zd hds)
 ·
  rw [hd]
  exact kf _ _ (hR.put hdN _) (st_yield_next (jf := jf) (pre := pre) hS hC h0 h1 (jf.sub _ _ _ _ hj).1 hc hj' hY.zd hds)
end
theorem Reg.round1n {a : Act} {N p : Nat} {v0 u : Value} {l' : List (Nat × Value)} (h : Reg a N ((1000000, v0) :: l')) (hp : p < N) (hk : l'.lookup 1000000 = none) :
  Reg { tmps := (#[p].zip #[u]).foldl (fun t (p, v) => t.setIfInBounds p v) a.tmps, defers := [] } N ((p, u) :: (1000000, .bool false) :: l') := by
 have h0 : Reg { tmps := a.tmps, defers := [] } N ((1000000, .bool false) :: l') := by
  refine ⟨fun _ => rfl, (fun D q => by rw [lookup_eq] at q; cases q), h.top, h.size, fun i w hi hw => ?_⟩
  rw [lookup_ne hi] at hw
  exact h.get i w hi (by rw [lookup_ne hi]; exact hw)
 have h1 := h0.put hp u
 simpa [Act.put] using h1
theorem St.box_dataX {w0 w : World} {Z : Nat → Prop} {m : List Res} {ds : List Dat} {g0 : Nat} (h : St w0 Z (· = g0) w m ds) {i : Nat} {g : Nat} {t : TypeId} {cs : List Value} (hi : m[i]? = some (.box g t cs)) {j : Nat} {t' : TypeId} {cs' : List Value} (hj : m[j]? = some (.box g0 t' cs')) (hij : i ≠ j) :
  St w0 Z (· = g0) w (m.eraseIdx i) ds ∧ (dBox g cs).φ w (imm Z w0 (m.eraseIdx i) w) := by
 refine ⟨h.drop _ (List.eraseIdx_sublist m i), ⟨(h.own _ (List.mem_of_getElem? hi) g rfl).1, fun hlt => ?_, fun r hmem e => ?_⟩, box_cells (h.res hi)⟩
 ·
  rcases (h.own _ (List.mem_of_getElem? hi) g rfl).2 with h1 | h1
  ·
   have hlt' : g < w0.heap.size := hlt
   omega
  ·
   have hb : g = g0 := h1
   subst hb
   exact absurd rfl (apart_get h.apart hij hi hj rfl)
 obtain ⟨j', hj'⟩ := List.mem_iff_getElem?.1 hmem
 rw [List.getElem?_eraseIdx] at hj'
 by_cases hji : j' < i
 ·
  rw [if_pos hji] at hj'
  exact apart_get h.apart (by omega : j' ≠ i) hj' hi e rfl
 ·
  rw [if_neg hji] at hj'
  exact apart_get h.apart (by omega : j' + 1 ≠ i) hj' hi e rfl
end
end Go.Proofs.YtpfmnpaifchleaaDoor
