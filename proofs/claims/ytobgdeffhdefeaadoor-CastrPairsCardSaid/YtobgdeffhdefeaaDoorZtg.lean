import Derived.Test.YtobgdeffhdefeaaDoorZtf
/- Terms that are built of parts: whether they are terms, what their parts are, and which errors there may be. -/
namespace Go.Proofs.YtobgdeffhdefeaaDoor
set_option linter.unusedSimpArgs false
set_option linter.unusedVariables false
theorem chk_meas {t : List Nd} (h : measB t = true) : chk t = 0 ∨ chk t = 21 ∨ chk t = 22 := by
 by_cases hl : t.length ≤ 4000
 ·
  by_cases hd : 60 < (nthM (measL t) ((measL t).length - 1)).2
  · exact .inr (.inr (chk_deep hl h hd))
  · exact .inl (chk_good hl h hd)
 · exact .inr (.inl (chk_size (by omega)))
def dpL (t : List Nd) : Nat := (treeOf t).deep
theorem chk_of {t : List Nd} (h : measB t = true) (hl : t.length ≤ 4000) (hd : dpL t ≤ 60) : chk t = 0 := by
 obtain ⟨hw, hf⟩ := treeOf_meas h
 rw [← hf]
 exact chk_flat hw hd (by rw [hf]; exact hl)
theorem chk_le {t : List Nd} (h : chk t = 0) : t.length ≤ 4000 := (treeOf_ok h).2.2.2
theorem deeps_bd {l : List T} {b : Nat} (h : ∀ t ∈ l, t.deep ≤ b) : T.deeps l ≤ b := by
 induction l with
 | nil => simp [T.deeps]
 | cons t l ih =>
  simp only [T.deeps]
  have h1 := h t (by simp)
  have h2 := ih (fun x hx => h x (by simp [hx]))
  omega
theorem built {n : Nd} {p : List (List Nd)} (hr : right n = true) (hm : many n = p.length) (hp : ∀ x ∈ p, measB x = true) :
  measB (p.flatten ++ [n]) = true ∧ treeOf (p.flatten ++ [n]) = .mk n (p.map treeOf) ∧ ptL (p.flatten ++ [n]) = p ∧ nth (p.flatten ++ [n]) ((p.flatten ++ [n]).length - 1) = n := by
 have e1 : (p.map treeOf).map T.flat = p := by
  rw [List.map_map]
  have : p.map (T.flat ∘ treeOf) = p.map id := List.map_congr_left fun x hx => (treeOf_meas (hp x hx)).2
  rw [this, List.map_id]
 have e2 : T.flats (p.map treeOf) = p.flatten := by rw [← flats_flatten, e1]
 have hw : (T.mk n (p.map treeOf)).wf = true := by
  rw [T.wf_mk]
  simp only [Bool.and_eq_true, beq_iff_eq, List.length_map]
  refine ⟨⟨hr, hm⟩, (T.wfs_iff _).2 ?_⟩
  intro t ht
  obtain ⟨x, hx, rfl⟩ := List.mem_map.1 ht
  exact (treeOf_meas (hp x hx)).1
 have e3 : (T.mk n (p.map treeOf)).flat = p.flatten ++ [n] := by rw [T.flat_mk, e2]
 have e4 : treeOf (p.flatten ++ [n]) = .mk n (p.map treeOf) := by rw [← e3, treeOf_flat hw]
 refine ⟨by rw [← e3]; exact meas_flat hw, e4, ?_, ?_⟩
 ·
  unfold ptL
  rw [e4]
  exact e1
 · simp [nth]
theorem built_deep {n : Nd} {p : List (List Nd)} {b : Nat} (hr : right n = true) (hm : many n = p.length) (hp : ∀ x ∈ p, measB x = true) (hb : ∀ x ∈ p, dpL x ≤ b) : dpL (p.flatten ++ [n]) ≤ b + 1 := by
 unfold dpL
 rw [(built hr hm hp).2.1]
 simp only [T.deep]
 have := deeps_bd (l := p.map treeOf) (b := b) (by
  intro t ht
  obtain ⟨x, hx, rfl⟩ := List.mem_map.1 ht
  exact hb x hx)
 omega
theorem noL_ok {n : Nd} {p : List (List Nd)} (hr : right n = true) (hm : many n = p.length) (hp : ∀ x ∈ p, measB x = true) : measB (noL 0 n p) = true ∧ ptL (noL 0 n p) = p ∧ nth (noL 0 n p) ((noL 0 n p).length - 1) = n := by
 have : noL 0 n p = p.flatten ++ [n] := if_pos rfl
 rw [this]
 obtain ⟨h1, _, h3, h4⟩ := built hr hm hp
 exact ⟨h1, h3, h4⟩
theorem right_lit {k : Nat} (h : k < 30 ∧ k ≠ 1 ∧ k ≠ 25 ∧ k ≠ 26 ∧ k ≠ 27) : right ⟨(k : Int), 0, 0, ⟨#[]⟩⟩ = true ∧ many ⟨(k : Int), 0, 0, ⟨#[]⟩⟩ = (shp k).b.length := by
 obtain ⟨h0, h1, h2, h3, h4⟩ := h
 have : ∀ k : Fin 30, k.val ≠ 1 → k.val ≠ 25 → k.val ≠ 26 → k.val ≠ 27 → right ⟨(k.val : Int), 0, 0, ⟨#[]⟩⟩ = true ∧ many ⟨(k.val : Int), 0, 0, ⟨#[]⟩⟩ = (shp k.val).b.length := by decide
 exact this ⟨k, h0⟩ h1 h2 h3 h4
theorem meas_tick : measB [⟨29, 0, 0, ⟨#[]⟩⟩] = true := by decide
theorem meas_v0 : measB [⟨0, 0, 0, ⟨#[]⟩⟩] = true := by decide
theorem caL_ok {a b t : List Nd} (ha : measB a = true) (hb : measB b = true) (ht : measB t = true) : measB (caL 0 a b t) = true ∧ ptL (caL 0 a b t) = [a, b, [⟨29, 0, 0, ⟨#[]⟩⟩], t] ∧ nth (caL 0 a b t) ((caL 0 a b t).length - 1) = ⟨20, 0, 0, ⟨#[]⟩⟩ :=
 noL_ok (right_lit (k := 20) (by decide)).1 (right_lit (k := 20) (by decide)).2 (by
  intro x hx
  simp only [List.mem_cons, List.not_mem_nil, or_false] at hx
  rcases hx with rfl | rfl | rfl | rfl
  · exact ha
  · exact hb
  · exact meas_tick
  · exact ht)
theorem plL_ok {m : Int} {t : List Nd} (h : measB t = true) : measB (plL 0 m t) = true := by
 unfold plL
 split
 · exact meas_tick
 · exact h
def GE (e : Int) : Prop := e = 0 ∨ e = 2 ∨ e = 21 ∨ e = 22
theorem GE.zero : GE 0 := .inl rfl
theorem GE.meas {t : List Nd} (h : measB t = true) : GE (chk t) := by
 rcases chk_meas h with q | q | q
 · exact .inl q
 · exact .inr (.inr (.inl q))
 · exact .inr (.inr (.inr q))
theorem up_zero {e : Int} {t : List Nd} {n k : Int} (h : upE e t n k = 0) : e = 0 ∧ sfE t n k = 0 := by
 unfold upE at h
 by_cases he : e = 0
 · rw [if_pos he] at h; exact ⟨he, h⟩
 · rw [if_neg he] at h; exact absurd h he
theorem up_G {e : Int} {t : List Nd} {n k : Int} (he : GE e) (hc : e = 0 → chk t = 0) (hn : 0 ≤ n) : GE (upE e t n k) := by
 unfold upE
 split
 ·
  rename_i h0
  rcases sf_max (f := k) (hc h0) hn with q | q
  · exact .inl q
  · exact .inr (.inl q)
 · exact he
theorem upL_zero {t : List Nd} {n k : Int} : upL 0 t n k = sfA t n k := if_pos rfl
theorem up_meas {e : Int} {t : List Nd} {n k : Int} (h : upE e t n k = 0) : chk (upL e t n k) = 0 := by
 obtain ⟨h0, h1⟩ := up_zero h
 rw [h0, upL_zero]
 exact sf_chk h1
theorem in_zero {e : Int} {t : List Nd} {l : List (List Nd)} (h : inQ e t l = 0) : e = 0 ∧ inE t l = 0 := by
 unfold inQ at h
 by_cases he : e = 0
 · rw [if_pos he] at h; exact ⟨he, h⟩
 · rw [if_neg he] at h; exact absurd h he
theorem ck_G {L : List (List Nd)} (h : ∀ x ∈ L, measB x = true) : GE (ckE L) := by
 induction L with
 | nil => exact .inl rfl
 | cons x L ih =>
  simp only [ckE]
  split
  · exact ih (fun y hy => h y (by simp [hy]))
  · exact GE.meas (h x (by simp))
theorem ck_oks {L : List (List Nd)} (h : ckE L = 0) : oks L := by
 induction L with
 | nil => intro p hp; cases hp
 | cons x L ih =>
  simp only [ckE] at h
  by_cases hc : chk x = 0
  ·
   rw [if_pos hc] at h
   intro p hp
   rcases List.mem_cons.1 hp with rfl | hp
   · exact hc
   · exact ih h p hp
  · rw [if_neg hc] at h; exact absurd h hc
theorem po_meas {t : List Nd} {l : List (List Nd)} (hc : chk t = 0) (h : trEL (puV 0 l) t 0 = 0) : measB (trL (puV 0 l) t 0) = true := by
 unfold trL
 rw [if_pos h]
 exact meas_flat (tr_wf (puV_wf (Int.le_refl _)) (treeOf t) 0 (treeOf_meas (meas_chk hc)).1 (Int.le_refl _) h)
theorem po_G {t : List Nd} {l : List (List Nd)} (hc : chk t = 0) (hl : oks l) : GE (poE t 0 l) := by
 by_cases h : trEL (puV 0 l) t 0 = 0
 ·
  rw [(po_chk h).1]
  exact GE.meas (po_meas hc h)
 ·
  rw [(po_err h).1]
  rcases pu_only hl (treeOf t) 0 (Int.le_refl _) with q | q
  · exact .inl q
  · exact .inr (.inl q)
theorem in_E {t : List Nd} {l : List (List Nd)} (h : ∀ x ∈ t :: l, measB x = true) : GE (inE t l) := by
 by_cases hc : ckE (t :: l) = 0
 ·
  rw [(in_ok hc).1]
  have ho := ck_oks hc
  exact po_G (ho t (by simp)) (fun p hp => ho p (by simp [hp]))
 ·
  rw [(in_err hc).1]
  exact ck_G h
theorem in_G {e : Int} {t : List Nd} {l : List (List Nd)} (he : GE e) (h : e = 0 → ∀ x ∈ t :: l, measB x = true) : GE (inQ e t l) := by
 unfold inQ
 split
 · rename_i h0; exact in_E (h h0)
 · exact he
theorem in_chk {t : List Nd} {l : List (List Nd)} (h : inE t l = 0) : chk (inA t l) = 0 := by
 by_cases hc : ckE (t :: l) = 0
 ·
  obtain ⟨h1, h2⟩ := in_ok hc
  rw [h1] at h
  rw [h2]
  unfold poA
  rw [if_pos h]
  by_cases h3 : trEL (puV 0 l) t 0 = 0
  · rw [(po_chk h3).1] at h; exact h
  · rw [(po_err h3).1] at h; exact absurd h h3
 · rw [(in_err hc).1] at h; exact absurd h hc
theorem inL_zero {t : List Nd} {l : List (List Nd)} : inL 0 t l = inA t l := if_pos rfl
theorem in_meas {e : Int} {t : List Nd} {l : List (List Nd)} (h : inQ e t l = 0) : chk (inL e t l) = 0 := by
 obtain ⟨h0, h1⟩ := in_zero h
 rw [h0, inL_zero]
 exact in_chk h1
theorem ag_part {t : List Nd} (hc : chk t = 0) {k : Nat} (hk : k < many (nth t (t.length - 1))) : chk (nthL (agA t) k) = 0 ∧ nthL (agA t) k ∈ agA t := by
 have hb := meas_chk hc
 rw [agA_ok hc]
 have hm := nthL_mem (l := ptL t) (k := k) (by rw [ptL_length hb]; exact hk)
 exact ⟨ptL_chk hc hm, hm⟩
theorem nthL_any {l : List (List Nd)} {Q : List Nd → Prop} (h : ∀ x ∈ l, Q x) (h0 : Q []) (k : Nat) : Q (nthL l k) := by
 by_cases hk : k < l.length
 · exact h _ (nthL_mem hk)
 ·
  have : nthL l k = [] := by unfold nthL; rw [List.getD_eq_getElem?_getD, List.getElem?_eq_none (by omega)]; rfl
  rw [this]; exact h0
theorem sml_nil : sml [] := fun k hk => by simp at hk
theorem ag_sml {t : List Nd} (hs : sml t) : ∀ x ∈ agA t, sml x ∧ x.length ≤ t.length := by
 intro x hx
 by_cases hc : chk t = 0
 ·
  rw [agA_ok hc] at hx
  obtain ⟨_, h2, h3⟩ := ptL_mem (meas_chk hc) hx
  exact ⟨sml_sub hs h3, by omega⟩
 · rw [agA_no hc] at hx; cases hx
end Go.Proofs.YtobgdeffhdefeaaDoor
/- What the rule for a cast comes to, by its cases. -/
namespace Go.Proofs.YtobgdeffhdefeaaDoor
set_option linter.unusedSimpArgs false
set_option linter.unusedVariables false
theorem cr_N {a : List Nd} (hc : chk a = 0) : 0 ≤ (nth a (a.length - 1)).N ∧ (nth a (a.length - 1)).N < 100 := by
 have hr := right_at (meas_chk hc) (show a.length - 1 < a.length by have := chk_pos hc; omega)
 obtain ⟨_, h2, h3, _⟩ := (right_split _).1 hr
 by_cases hn : (shp (nth a (a.length - 1)).K.toNat).n = true
 ·
  have h4 := h3 hn
  unfold most at h4
  (repeat' split at h4) <;> omega
 ·
  have : (nth a (a.length - 1)).N = 0 := by
   unfold fieldsBad at h2
   simp only [Bool.or_eq_false_iff, Bool.and_eq_false_iff, Bool.not_eq_false', decide_eq_false_iff_not, decide_eq_true_eq] at h2
   simp only [Bool.not_eq_true] at hn
   simp [hn] at h2
   exact h2.1
  omega
section
variable {a b t : List Nd}
theorem cr_mark {a : List Nd} (hc : chk a = 0) (hk : (nth a (a.length - 1)).K = 3 ∨ (nth a (a.length - 1)).K = 6) : 0 ≤ (nth a (a.length - 1)).N ∧ (nth a (a.length - 1)).N < 4 := by
 have hr := right_at (meas_chk hc) (show a.length - 1 < a.length by have := chk_pos hc; omega)
 rw [right_pi hk, decide_eq_true_eq] at hr
 omega
theorem crQ_tick (h : (nth t (t.length - 1)).K = 29) : crQ a b t = some (noL 0 ⟨29, 0, 0, ⟨#[]⟩⟩ [], 0) := if_pos h
theorem crQ_base (h : ¬ (nth t (t.length - 1)).K = 29) (hb : nth b (b.length - 1) = nth a (a.length - 1)) (hk : (nth a (a.length - 1)).K = 10 ∨ (nth a (a.length - 1)).K = 2 ∨ (nth a (a.length - 1)).K = 25) : crQ a b t = some (t, 0) := by
 unfold crQ
 rw [if_neg h, if_pos hb, if_pos hk]
theorem crQ_pi (h : ¬ (nth t (t.length - 1)).K = 29) (hb : nth b (b.length - 1) = nth a (a.length - 1)) (hk : (nth a (a.length - 1)).K = 3) (hm : bandI (nth a (a.length - 1)).N 1 = 0) : crQ a b t = some (piL 0 (agA a) (agA b) t (nth a (a.length - 1)).N, piE5 0 (agA a) (agA b) t (nth a (a.length - 1)).N) := by
 unfold crQ
 rw [if_neg h, if_pos hb, if_neg (by omega), if_pos ⟨hk, hm⟩]
theorem crQ_sig (h : ¬ (nth t (t.length - 1)).K = 29) (hb : nth b (b.length - 1) = nth a (a.length - 1)) (hk : (nth a (a.length - 1)).K = 6) (hm : (nth a (a.length - 1)).N < 3) : crQ a b t = some (sgL 0 (agA a) (agA b) b t (nth a (a.length - 1)).N, sgE 0 (agA a) (agA b) t (nth a (a.length - 1)).N) := by
 unfold crQ
 rw [if_neg h, if_pos hb, if_neg (by omega), if_neg (by omega), if_pos ⟨hk, hm⟩]
theorem crQ_quot (h : ¬ (nth t (t.length - 1)).K = 29) (hb : nth b (b.length - 1) = nth a (a.length - 1)) (hk : (nth a (a.length - 1)).K = 22) (hm : (nth t (t.length - 1)).K = 23) : crQ a b t = some (quL 0 a b t, 0) := by
 unfold crQ
 rw [if_neg h, if_pos hb, if_neg (by omega), if_neg (by omega), if_neg (by omega), if_pos ⟨hk, hm⟩]
theorem crQ_none (h : ¬ (nth t (t.length - 1)).K = 29)
  (h1 : ((decide ((nth a (a.length - 1)).K = 10) && decide (nth b (b.length - 1) = nth a (a.length - 1))) && true) = false)
  (h2 : ((decide ((nth a (a.length - 1)).K = 2) && decide (nth b (b.length - 1) = nth a (a.length - 1))) && true) = false)
  (h3 : ((decide ((nth a (a.length - 1)).K = 25) && decide (nth b (b.length - 1) = nth a (a.length - 1))) && true) = false)
  (h4 : ((decide ((nth a (a.length - 1)).K = 3) && decide (nth b (b.length - 1) = nth a (a.length - 1))) && decide (bandI (nth a (a.length - 1)).N 1 = 0)) = false)
  (h5 : ((decide ((nth a (a.length - 1)).K = 6) && decide (nth b (b.length - 1) = nth a (a.length - 1))) && decide ((nth a (a.length - 1)).N < 3)) = false)
  (h6 : ((decide ((nth a (a.length - 1)).K = 22) && decide (nth b (b.length - 1) = nth a (a.length - 1))) && decide ((nth t (t.length - 1)).K = 23)) = false) : crQ a b t = none := by
 unfold crQ
 rw [if_neg h]
 by_cases hb : nth b (b.length - 1) = nth a (a.length - 1)
 ·
  simp only [hb, decide_true, Bool.and_true, decide_eq_false_iff_not, Bool.and_eq_false_iff] at h1 h2 h3 h4 h5 h6
  rw [if_pos hb, if_neg (by omega), if_neg (by omega), if_neg (by omega), if_neg (by omega)]
 · rw [if_neg hb]
theorem cr_erra (h : ¬ chk a = 0) : crE a b t = chk a ∧ crA a b t = [] := by
 have : crC a b t = chk a := by unfold crC; rw [if_pos h]
 unfold crE crA
 rw [this]
 exact ⟨if_pos h, if_pos h⟩
theorem cr_errb (ha : chk a = 0) (h : ¬ chk b = 0) : crE a b t = chk b ∧ crA a b t = [] := by
 have : crC a b t = chk b := by unfold crC; rw [if_neg (by omega), if_pos h]
 unfold crE crA
 rw [this]
 exact ⟨if_pos h, if_pos h⟩
theorem crC_t (ha : chk a = 0) (hb : chk b = 0) : crC a b t = chk t := by unfold crC; rw [if_neg (by omega), if_neg (by omega)]
theorem cr_errt (ha : chk a = 0) (hb : chk b = 0) (h : ¬ chk t = 0) : crE a b t = chk t ∧ crA a b t = [] := by
 unfold crE crA
 rw [crC_t ha hb]
 exact ⟨if_pos h, if_pos h⟩
theorem cr_none (ha : chk a = 0) (hb : chk b = 0) (ht : chk t = 0) (h : crQ a b t = none) : crE a b t = 120 ∧ crA a b t = [] := by
 unfold crE crA
 rw [crC_t ha hb, h]
 exact ⟨if_neg (by omega), if_neg (by omega)⟩
theorem cr_some (ha : chk a = 0) (hb : chk b = 0) (ht : chk t = 0) {x : List Nd} {e : Int} (h : crQ a b t = some (x, e)) : crE a b t = (if e = 0 then chk x else e) ∧ crA a b t = if (if e = 0 then chk x else e) = 0 then x else [] := by
 unfold crE crA
 rw [crC_t ha hb, h]
 exact ⟨if_neg (by omega), if_neg (by omega)⟩
end
section
variable {a b t : List Nd} (hsa : sml a) (hsb : sml b) (hst : sml t) (hla : a.length ≤ 5000) (hlb : b.length ≤ 5000) (hlt : t.length ≤ 5000)
include hsa hsb hst hla hlb hlt
theorem piL_sz {m : Int} {e : Int} : sml (piL e (agA a) (agA b) t m) ∧ (piL e (agA a) (agA b) t m).length ≤ 100000 := by
 have hp : ∀ k, sml (nthL (agA a) k) ∧ (nthL (agA a) k).length ≤ 5000 := nthL_any (Q := fun x => sml x ∧ x.length ≤ 5000) (fun x hx => ⟨(ag_sml hsa x hx).1, Nat.le_trans (ag_sml hsa x hx).2 hla⟩) ⟨sml_nil, by simp⟩
 have hq : ∀ k, sml (nthL (agA b) k) ∧ (nthL (agA b) k).length ≤ 5000 := nthL_any (Q := fun x => sml x ∧ x.length ≤ 5000) (fun x hx => ⟨(ag_sml hsb x hx).1, Nat.le_trans (ag_sml hsb x hx).2 hlb⟩) ⟨sml_nil, by simp⟩
 have hv : ∀ e, sml (noL e ⟨0, 0, 0, ⟨#[]⟩⟩ []) ∧ (noL e ⟨0, 0, 0, ⟨#[]⟩⟩ []).length ≤ 1 := fun e => ⟨noL_sml (by decide) (by intro x hx; cases hx), noL_len⟩
 have u1 : ∀ e t n k, sml t → sml (upL e t n k) := fun _ _ _ _ h => upL_sml h
 have l1 : ∀ e t n k, (upL e t n k).length ≤ t.length := fun _ _ _ _ => upL_len
 have hY : sml (piY e (agA a) (agA b) m) ∧ (piY e (agA a) (agA b) m).length ≤ 10100 := by
  refine ⟨plL_sml (caL_sml (u1 _ _ _ _ (hq 0).1) (u1 _ _ _ _ (hp 0).1) (hv _).1), ?_⟩
  have h1 : (piY e (agA a) (agA b) m).length ≤ _ := plL_len
  have h2 := caL_len (e := piE2 e (agA a) (agA b)) (a := upL e (nthL (agA b) 0) 1 0) (b := upL (piE1 e (agA b)) (nthL (agA a) 0) 1 0) (t := noL (piE2 e (agA a) (agA b)) ⟨0, 0, 0, ⟨#[]⟩⟩ [])
  have h3 := l1 e (nthL (agA b) 0) 1 0
  have h4 := l1 (piE1 e (agA b)) (nthL (agA a) 0) 1 0
  have h5 := (hv (piE2 e (agA a) (agA b))).2
  have h6 := (hp 0).2
  have h7 := (hq 0).2
  omega
 have hG : sml (piG e (agA a) (agA b) t m) ∧ (piG e (agA a) (agA b) t m).length ≤ 16000 := by
  constructor
  ·
   refine noL_sml (by decide) ?_
   intro x hx
   simp only [List.mem_cons, List.not_mem_nil, or_false] at hx
   rcases hx with rfl | rfl
   · exact u1 _ _ _ _ hst
   · exact hY.1
  ·
   have h1 : (piG e (agA a) (agA b) t m).length ≤ _ := noL_len
   simp only [List.flatten_cons, List.flatten_nil, List.length_append, List.length_nil] at h1
   have h3 := l1 (piE2 e (agA a) (agA b)) t 1 0
   have := hY.2
   omega
 have hI : sml (inL (piE4 e (agA a) (agA b) t) (piU e (agA a) (agA b) t) [piY e (agA a) (agA b) m]) ∧ (inL (piE4 e (agA a) (agA b) t) (piU e (agA a) (agA b) t) [piY e (agA a) (agA b) m]).length ≤ 4000 :=
  ⟨inL_sml (u1 _ _ _ _ (hp 1).1) (by intro x hx; simp only [List.mem_cons, List.not_mem_nil, or_false] at hx; rw [hx]; exact hY.1), inL_len⟩
 constructor
 ·
  refine noL_sml (by decide) ?_
  intro x hx
  simp only [List.mem_cons, List.not_mem_nil, or_false] at hx
  rcases hx with rfl | rfl
  · exact (hq 0).1
  · exact caL_sml hI.1 (hq 1).1 hG.1
 ·
  have h1 : (piL e (agA a) (agA b) t m).length ≤ _ := noL_len
  simp only [List.flatten_cons, List.flatten_nil, List.length_append, List.length_nil] at h1
  have h2 := caL_len (e := piE5 e (agA a) (agA b) t m) (a := inL (piE4 e (agA a) (agA b) t) (piU e (agA a) (agA b) t) [piY e (agA a) (agA b) m]) (b := nthL (agA b) 1) (t := piG e (agA a) (agA b) t m)
  have h3 := (hq 0).2
  have h4 := (hq 1).2
  have h5 := hG.2
  have h6 := hI.2
  omega
theorem sgL_sz {m : Int} {e : Int} : sml (sgL e (agA a) (agA b) b t m) ∧ (sgL e (agA a) (agA b) b t m).length ≤ 100000 := by
 have hp : ∀ k, sml (nthL (agA a) k) ∧ (nthL (agA a) k).length ≤ 5000 := nthL_any (Q := fun x => sml x ∧ x.length ≤ 5000) (fun x hx => ⟨(ag_sml hsa x hx).1, Nat.le_trans (ag_sml hsa x hx).2 hla⟩) ⟨sml_nil, by simp⟩
 have hq : ∀ k, sml (nthL (agA b) k) ∧ (nthL (agA b) k).length ≤ 5000 := nthL_any (Q := fun x => sml x ∧ x.length ≤ 5000) (fun x hx => ⟨(ag_sml hsb x hx).1, Nat.le_trans (ag_sml hsb x hx).2 hlb⟩) ⟨sml_nil, by simp⟩
 have one : ∀ e n, n.S.size < 1000000 → sml (noL e n [t]) ∧ (noL e n [t]).length ≤ 5001 := fun e n hn => by
  refine ⟨noL_sml hn (by intro x hx; simp only [List.mem_cons, List.not_mem_nil, or_false] at hx; rw [hx]; exact hst), ?_⟩
  have h1 : (noL e n [t]).length ≤ _ := noL_len
  simp only [List.flatten_cons, List.flatten_nil, List.length_append, List.length_nil] at h1
  omega
 have hF : sml (sgF e t m) ∧ (sgF e t m).length ≤ 5002 := by
  refine ⟨plL_sml (one _ _ (by decide)).1, ?_⟩
  have h1 : (sgF e t m).length ≤ _ := plL_len
  have := (one e ⟨8, 0, 0, ⟨#[]⟩⟩ (by decide)).2
  omega
 have hC : sml (sgC e (agA a) (agA b) t m) ∧ (sgC e (agA a) (agA b) t m).length ≤ 15100 := by
  refine ⟨plL_sml (caL_sml (hp 0).1 (hq 0).1 hF.1), ?_⟩
  have h1 : (sgC e (agA a) (agA b) t m).length ≤ _ := plL_len
  have h2 := caL_len (e := e) (a := nthL (agA a) 0) (b := nthL (agA b) 0) (t := sgF e t m)
  have h3 := (hp 0).2
  have h4 := (hq 0).2
  have h5 := hF.2
  omega
 have hS : sml (sgS e (agA a) (agA b) t m) ∧ (sgS e (agA a) (agA b) t m).length ≤ 14000 := by
  refine ⟨caL_sml (inL_sml (hp 1).1 (by intro x hx; simp only [List.mem_cons, List.not_mem_nil, or_false] at hx; rw [hx]; exact hF.1)) (inL_sml (hq 1).1 (by intro x hx; simp only [List.mem_cons, List.not_mem_nil, or_false] at hx; rw [hx]; exact hC.1)) (one _ _ (by decide)).1, ?_⟩
  have h1 : (sgS e (agA a) (agA b) t m).length ≤ _ := caL_len
  have h2 := inL_len (e := e) (t := nthL (agA a) 1) (l := [sgF e t m])
  have h3 := inL_len (e := sgE1 e (agA a) t m) (t := nthL (agA b) 1) (l := [sgC e (agA a) (agA b) t m])
  have h4 := (one (sgE2 e (agA a) (agA b) t m) ⟨9, 0, 0, ⟨#[]⟩⟩ (by decide)).2
  omega
 have hT : sml (if bandI m 1 = 0 then sgS e (agA a) (agA b) t m else noL e ⟨29, 0, 0, ⟨#[]⟩⟩ []) ∧ (if bandI m 1 = 0 then sgS e (agA a) (agA b) t m else noL e ⟨29, 0, 0, ⟨#[]⟩⟩ []).length ≤ 14000 := by
  split
  · exact hS
  ·
   refine ⟨noL_sml (by decide) (by intro x hx; cases hx), ?_⟩
   have h1 : (noL e ⟨29, 0, 0, ⟨#[]⟩⟩ []).length ≤ _ := noL_len
   simp only [List.flatten_nil, List.length_nil] at h1
   omega
 constructor
 ·
  refine noL_sml (by decide) ?_
  intro x hx
  simp only [List.mem_cons, List.not_mem_nil, or_false] at hx
  rcases hx with rfl | rfl | rfl
  · exact hsb
  · exact hC.1
  · exact hT.1
 ·
  have h1 : (sgL e (agA a) (agA b) b t m).length ≤ _ := noL_len
  simp only [List.flatten_cons, List.flatten_nil, List.length_append, List.length_nil] at h1
  have := hC.2
  have := hT.2
  omega
theorem quL_sz {e : Int} : sml (quL e a b t) ∧ (quL e a b t).length ≤ 100000 := by
 have hp : ∀ k, sml (nthL (agA a) k) ∧ (nthL (agA a) k).length ≤ 5000 := nthL_any (Q := fun x => sml x ∧ x.length ≤ 5000) (fun x hx => ⟨(ag_sml hsa x hx).1, Nat.le_trans (ag_sml hsa x hx).2 hla⟩) ⟨sml_nil, by simp⟩
 have hq : ∀ k, sml (nthL (agA b) k) ∧ (nthL (agA b) k).length ≤ 5000 := nthL_any (Q := fun x => sml x ∧ x.length ≤ 5000) (fun x hx => ⟨(ag_sml hsb x hx).1, Nat.le_trans (ag_sml hsb x hx).2 hlb⟩) ⟨sml_nil, by simp⟩
 have hr : ∀ k, sml (nthL (agA t) k) ∧ (nthL (agA t) k).length ≤ 5000 := nthL_any (Q := fun x => sml x ∧ x.length ≤ 5000) (fun x hx => ⟨(ag_sml hst x hx).1, Nat.le_trans (ag_sml hst x hx).2 hlt⟩) ⟨sml_nil, by simp⟩
 have hn : (nth t (t.length - 1)).S.size < 1000000 := by
  by_cases h : t.length - 1 < t.length
  · exact hst _ h
  ·
   have : t = [] := List.eq_nil_of_length_eq_zero (by omega)
   rw [this]; decide
 constructor
 ·
  refine noL_sml hn ?_
  intro x hx
  simp only [List.mem_cons, List.not_mem_nil, or_false] at hx
  rcases hx with rfl | rfl
  · exact hsb
  · exact caL_sml (hp 0).1 (hq 0).1 (hr 1).1
 ·
  have h1 : (quL e a b t).length ≤ _ := noL_len
  simp only [List.flatten_cons, List.flatten_nil, List.length_append, List.length_nil] at h1
  have h2 := caL_len (e := e) (a := nthL (agA a) 0) (b := nthL (agA b) 0) (t := nthL (agA t) 1)
  have h3 := (hp 0).2
  have h4 := (hq 0).2
  have h5 := (hr 1).2
  omega
end
end Go.Proofs.YtobgdeffhdefeaaDoor
/- Contracts of functions, one theorem each: what the call returns, and that nothing old is changed. Printed by gen.py. -/
namespace Go.Proofs.YtobgdeffhdefeaaDoor
open Go Go.RowKit
set_option linter.unusedSimpArgs false
set_option linter.unusedVariables false
set_option maxRecDepth 100000 in
set_option maxHeartbeats 8000000 in
theorem crule_calls (w0 : World) (Z : Nat → Prop) (hZ : ∀ k, Z k → k < w0.heap.size) (aA : Option Addr) (ac : Nat) (a : List Nd) (bA : Option Addr) (bc : Nat) (b : List Nd) (tA : Option Addr) (tc : Nat) (t : List Nd) (hShp : Shapes w0 Z) (ha : (dRow 4 aA a.length ac (encNs a)).φ w0 Z) (hb : (dRow 4 bA b.length bc (encNs b)).φ w0 Z) (ht : (dRow 4 tA t.length tc (encNs t)).φ w0 Z) (hsa : sml a := by first | assumption | omega | (simp; done) | (simp; omega)) (hsb : sml b := by first | assumption | omega | (simp; done) | (simp; omega)) (hst : sml t := by first | assumption | omega | (simp; done) | (simp; omega)) (hla : a.length ≤ 5000 := by first | assumption | omega | (simp; done) | (simp; omega)) (hlb : b.length ≤ 5000 := by first | assumption | omega | (simp; done) | (simp; omega)) (hlt : t.length ≤ 5000 := by first | assumption | omega | (simp; done) | (simp; omega)) :
    Calls Tryd.prog 36 [.slice aA a.length ac, .slice bA b.length bc, .slice tA t.length tc].toArray w0 (fun e w' => ∃ (rA0 : Option Addr) (rc0 : Nat), e = .returned (.tuple #[.slice rA0 (crA a b t).length rc0, .int .i64 (crE a b t)]) ∧ Fr none_ w0 w' ∧ (dRow 4 rA0 ((crA a b t).length) rc0 (encNs (crA a b t))).φ w' (nxt Z w0 w')) := by
 have b0 := s0 (M := none_) hZ (zc (d := dShapes) hShp (zc ha (zc hb (zc ht zn))))
 refine c_enter Tryd.func36 rfl Tryd.ntmps36 rfl (fun c0 d0 => ?_)
 refine wsc (fun c0 f0 => ?_)
 refine asg d0 (fun c0 h0 => ?_)
 refine asg h0 (fun c0 d0 => ?_)
 refine wpList_nil (x_then_n (f0 _ _ ?_))
 refine wp_seq_k (fun f0 c0 => ?_)
 refine wsc (fun f0 h0 => ?_)
 refine mv d0 (fun f0 i0 => ?_)
 refine mv i0 (fun f0 d0 => ?_)
 refine mv d0 (fun f0 i0 => ?_)
 have f0 := b0.data (dAll [((aA, ac, a) : Sl), ((bA, bc, b) : Sl), ((tA, tc, t) : Sl)]) (all_cons (b0.get (i := 1) rfl) (all_cons (b0.get (i := 2) rfl) (all_cons (b0.get (i := 3) rfl) all_nil)))
 refine mbs [(0, .tmp 14), (1, .tmp 15), (2, .tmp 16)] [.slice aA a.length ac, .slice bA b.length bc, .slice tA t.length tc] sv i0 f0 Tryd.underlying39 zi22 (fun b0 d0 j0 k0 m0 => ?_)
 refine r_len sv k0 rfl rfl rfl rfl Tryd.underlying39 (by decide) (fun j0 d0 => ?_)
 refine mv d0 (fun j0 k0 => ?_)
 refine wpList_nil (x_then_n (h0 _ _ ?_))
 refine wp_block ?_
 refine wp_loop_rounds 4 (r_round ?_)
 refine wsc (fun h0 j0 => ?_)
 have h0 : (0 : Int) < 3 := by decide
 refine r_lss sv k0 rfl rfl rfl rfl (by decide) (fun d0 b0 => ?_)
 refine wpList_nil (x_then_n (j0 _ _ ?_))
 refine wp_seq_k (fun j0 d0 => ?_)
 have j0 := b0.setb (d := 20) (b := true) rfl (decide_eq_true h0)
 refine wp_cond_true (j0.ev rfl) ?_
 refine wp_skip ?_
 refine x_then_n (d0 _ _ ?_)
 refine wp_seq_k (fun d0 b0 => ?_)
 refine wp_block ?_
 refine wsc (fun d0 h0 => ?_)
 refine m_index (i := 0) (j := 0 * 1) sv j0 rfl rfl rfl rfl Tryd.underlying39 sz22 (by omega) (by simp) (own_ss (t := [((aA, ac, a) : Sl), ((bA, bc, b) : Sl), ((tA, tc, t) : Sl)]) (k := 0) (m0.res (i := 0) rfl) (by simp)).some_ rfl (by decide) (fun d0 k0 => ?_)
 refine m_loadE sv k0 rfl rfl rfl 0 (0 * 1) (own_ss (t := [((aA, ac, a) : Sl), ((bA, bc, b) : Sl), ((tA, tc, t) : Sl)]) (k := 0) (m0.res (i := 0) rfl) (by simp)) rfl rfl Tryd.underlying22 rfl (by decide) (fun d0 j0 => ?_)
 refine asg j0 (fun d0 k0 => ?_)
 refine wpList_nil (x_then_n (h0 _ _ ?_))
 refine wsc (fun h0 d0 => ?_)
 refine mv k0 (fun h0 j0 => ?_)
 have h0 := m0.nf
 refine k_call (xs := [.tmp 23]) se j0 rfl rfl rfl (by decide) ok44 (check_calls _ _ h0.il _ _ a (h0.g 0) (h0.g 1)) ?_
 rintro j0 m0 ⟨rfl, k0⟩
 have m0 := h0.below k0.below
 refine ⟨_, rfl, fun k0 h0 => ?_⟩
 refine asg h0 (fun k0 j0 => ?_)
 refine wpList_nil (x_then_n (d0 _ _ ?_))
 refine wsc (fun d0 k0 => ?_)
 refine mv j0 (fun d0 h0 => ?_)
 refine r_neq sv h0 rfl rfl rfl rfl (by decide) (fun d0 j0 => ?_)
 refine wpList_nil (x_then_n (k0 _ _ ?_))
 rcases Decidable.em (((chk a)) = 0) with k0 | k0
 ·
  have hpa := chk_pos k0
  obtain ⟨d0, h0⟩ := cr_N k0
  have h0 := j0.setb (d := 26) (b := false) rfl (by rw [(decide_eq_true k0)]; rfl)
  refine wp_cond_false (h0.ev rfl) ?_
  refine wp_skip ?_
  refine x_block_n ?_
  refine x_then_n (b0 _ _ ?_)
  refine c_region ?_
  refine r_add (z := 1) sv h0 rfl rfl rfl rfl (by decide) (by omega) (by omega) (by omega) (fun b0 d0 => ?_)
  refine mv d0 (fun b0 h0 => ?_)
  refine wpList_nil ?_
  refine x_then_n (r_round ?_)
  refine wsc (fun b0 d0 => ?_)
  have b0 : (1 : Int) < 3 := by decide
  refine r_lss sv h0 rfl rfl rfl rfl (by decide) (fun f0 i0 => ?_)
  refine wpList_nil (x_then_n (d0 _ _ ?_))
  refine wp_seq_k (fun d0 f0 => ?_)
  have d0 := i0.setb (d := 20) (b := true) rfl (decide_eq_true b0)
  refine wp_cond_true (d0.ev rfl) ?_
  refine wp_skip ?_
  refine x_then_n (f0 _ _ ?_)
  refine wp_seq_k (fun f0 i0 => ?_)
  refine wp_block ?_
  refine wsc (fun f0 b0 => ?_)
  refine m_index (i := 1) (j := 1 * 1) sv d0 rfl rfl rfl rfl Tryd.underlying39 sz22 (by omega) (by simp) (own_ss (t := [((aA, ac, a) : Sl), ((bA, bc, b) : Sl), ((tA, tc, t) : Sl)]) (k := 1) (m0.res (i := 0) rfl) (by simp)).some_ rfl (by decide) (fun f0 h0 => ?_)
  refine m_loadE sv h0 rfl rfl rfl 0 (1 * 1) (own_ss (t := [((aA, ac, a) : Sl), ((bA, bc, b) : Sl), ((tA, tc, t) : Sl)]) (k := 1) (m0.res (i := 0) rfl) (by simp)) rfl rfl Tryd.underlying22 rfl (by decide) (fun f0 d0 => ?_)
  refine asg d0 (fun f0 h0 => ?_)
  refine wpList_nil (x_then_n (b0 _ _ ?_))
  refine wsc (fun b0 f0 => ?_)
  refine mv h0 (fun b0 d0 => ?_)
  have b0 := m0.nf
  refine k_call (xs := [.tmp 23]) se d0 rfl rfl rfl (by decide) ok44 (check_calls _ _ b0.il _ _ b (b0.g 0) (b0.g 2)) ?_
  rintro d0 h0 ⟨rfl, n0⟩
  have h0 := b0.below n0.below
  refine ⟨_, rfl, fun n0 b0 => ?_⟩
  refine asg b0 (fun n0 d0 => ?_)
  refine wpList_nil (x_then_n (f0 _ _ ?_))
  refine wsc (fun f0 n0 => ?_)
  refine mv d0 (fun f0 b0 => ?_)
  refine r_neq sv b0 rfl rfl rfl rfl (by decide) (fun f0 d0 => ?_)
  refine wpList_nil (x_then_n (n0 _ _ ?_))
  rcases Decidable.em (((chk b)) = 0) with n0 | n0
  ·
   have hpb := chk_pos n0
   have f0 := d0.setb (d := 26) (b := false) rfl (by rw [(decide_eq_true n0)]; rfl)
   refine wp_cond_false (f0.ev rfl) ?_
   refine wp_skip ?_
   refine x_block_n ?_
   refine x_then_n (i0 _ _ ?_)
   refine c_region ?_
   refine r_add (z := 2) sv f0 rfl rfl rfl rfl (by decide) (by omega) (by omega) (by omega) (fun i0 b0 => ?_)
   refine mv b0 (fun i0 f0 => ?_)
   refine wpList_nil ?_
   refine x_then_n (r_round ?_)
   refine wsc (fun i0 b0 => ?_)
   have i0 : (2 : Int) < 3 := by decide
   refine r_lss sv f0 rfl rfl rfl rfl (by decide) (fun o0 p0 => ?_)
   refine wpList_nil (x_then_n (b0 _ _ ?_))
   refine wp_seq_k (fun b0 o0 => ?_)
   have b0 := p0.setb (d := 20) (b := true) rfl (decide_eq_true i0)
   refine wp_cond_true (b0.ev rfl) ?_
   refine wp_skip ?_
   refine x_then_n (o0 _ _ ?_)
   refine wp_seq_k (fun o0 p0 => ?_)
   refine wp_block ?_
   refine wsc (fun o0 i0 => ?_)
   refine m_index (i := 2) (j := 2 * 1) sv b0 rfl rfl rfl rfl Tryd.underlying39 sz22 (by omega) (by simp) (own_ss (t := [((aA, ac, a) : Sl), ((bA, bc, b) : Sl), ((tA, tc, t) : Sl)]) (k := 2) (h0.res (i := 0) rfl) (by simp)).some_ rfl (by decide) (fun o0 f0 => ?_)
   refine m_loadE sv f0 rfl rfl rfl 0 (2 * 1) (own_ss (t := [((aA, ac, a) : Sl), ((bA, bc, b) : Sl), ((tA, tc, t) : Sl)]) (k := 2) (h0.res (i := 0) rfl) (by simp)) rfl rfl Tryd.underlying22 rfl (by decide) (fun o0 b0 => ?_)
   refine asg b0 (fun o0 f0 => ?_)
   refine wpList_nil (x_then_n (i0 _ _ ?_))
   refine wsc (fun i0 o0 => ?_)
   refine mv f0 (fun i0 b0 => ?_)
   have i0 := h0.nf
   refine k_call (xs := [.tmp 23]) se b0 rfl rfl rfl (by decide) ok44 (check_calls _ _ i0.il _ _ t (i0.g 0) (i0.g 3)) ?_
   rintro b0 f0 ⟨rfl, q0⟩
   have f0 := i0.below q0.below
   refine ⟨_, rfl, fun q0 i0 => ?_⟩
   refine asg i0 (fun q0 b0 => ?_)
   refine wpList_nil (x_then_n (o0 _ _ ?_))
   refine wsc (fun o0 q0 => ?_)
   refine mv b0 (fun o0 i0 => ?_)
   refine r_neq sv i0 rfl rfl rfl rfl (by decide) (fun o0 b0 => ?_)
   refine wpList_nil (x_then_n (q0 _ _ ?_))
   rcases Decidable.em (((chk t)) = 0) with q0 | q0
   ·
    have hpt := chk_pos q0
    have o0 := b0.setb (d := 26) (b := false) rfl (by rw [(decide_eq_true q0)]; rfl)
    refine wp_cond_false (o0.ev rfl) ?_
    refine wp_skip ?_
    refine x_block_n ?_
    refine x_then_n (p0 _ _ ?_)
    refine c_region ?_
    refine r_add (z := 3) sv o0 rfl rfl rfl rfl (by decide) (by omega) (by omega) (by omega) (fun p0 i0 => ?_)
    refine mv i0 (fun p0 o0 => ?_)
    refine wpList_nil ?_
    refine x_then_n (r_round ?_)
    refine wsc (fun p0 i0 => ?_)
    have p0 : ¬ (3 : Int) < 3 := by decide
    refine r_lss sv o0 rfl rfl rfl rfl (by decide) (fun t0 u0 => ?_)
    refine wpList_nil (x_then_n (i0 _ _ ?_))
    refine wp_seq_k (fun i0 t0 => ?_)
    have t0 := u0.setb (d := 20) (b := false) rfl (decide_eq_false p0)
    refine wp_cond_false (t0.ev rfl) ?_
    refine wp_exit ?_
    refine x_then_e ?_
    refine x_then_e ?_
    refine x_block_eq ?_
    refine x_then_n (c0 _ _ ?_)
    refine wsc (fun c0 u0 => ?_)
    refine mv t0 (fun c0 p0 => ?_)
    refine mv p0 (fun c0 t0 => ?_)
    refine mv t0 (fun c0 p0 => ?_)
    refine mv p0 (fun c0 t0 => ?_)
    have c0 := f0.nf
    refine k_call (xs := [.tmp 32]) se t0 rfl rfl rfl (by decide) ok58 (croot_calls _ _ c0.il _ _ _ (c0.g 1)) ?_
    rintro t0 p0 ⟨rfl, i0⟩
    have p0 := c0.below i0.below
    refine ⟨_, rfl, fun i0 c0 => ?_⟩
    refine m_build (ps := [(1, .tmp 29), (2, .tmp 30), (3, .tmp 31), (4, .tmp 33)]) (v := .agg #[.int .i64 0, .slice aA a.length ac, .slice bA b.length bc, .slice tA t.length tc, .int .i64 (((nth a (a.length - 1)).K)), .int .i64 (((nth a (a.length - 1)).N)), .int .i64 (((nth a (a.length - 1)).M)), .string ((nth a (a.length - 1)).S)]) sv c0 rfl rfl rfl (fun _ => by kernel_rfl) (by decide) (fun i0 t0 => ?_)
    refine m_box (cs := [.int .i64 0, .slice aA a.length ac, .slice bA b.length bc, .slice tA t.length tc, .int .i64 (((nth a (a.length - 1)).K)), .int .i64 (((nth a (a.length - 1)).N)), .int .i64 (((nth a (a.length - 1)).M)), .string ((nth a (a.length - 1)).S)]) sv t0 p0 rfl rfl rfl rfl (by decide) (fun i0 c0 o0 v0 x0 => ?_)
    refine asg v0 (fun o0 c0 => ?_)
    refine wpList_nil (x_then_n (u0 _ _ ?_))
    refine wp_seq_k (fun u0 o0 => ?_)
    refine wsc (fun u0 v0 => ?_)
    have u0 := x0.nf
    refine k_call (xs := []) se c0 rfl rfl rfl (by decide) ok59 (crules_calls _ _ u0.il ) ?_
    rintro c0 x0 ⟨i0, t0, p0, y0, z0, b1, c1, f1, h1, i1, j1, k1, rfl, m1, n1, o1, p1, q1, s1, t1, u1, v1, x1, y1, z1, b2⟩
    have x0 := u0.below m1.below
    have m1 := u0.dN x0 n1
    have x0 := u0.dN m1 o1
    have m1 := u0.dN x0 p1
    have x0 := u0.dN m1 q1
    have m1 := u0.dN x0 s1
    have x0 := u0.dN m1 t1
    have m1 := u0.dN x0 u1
    have x0 := u0.dN m1 v1
    have m1 := u0.dN x0 x1
    have x0 := u0.dN m1 y1
    have m1 := u0.dN x0 z1
    have x0 := u0.dN m1 b2
    refine ⟨_, rfl, fun m1 b2 => ?_⟩
    refine mv b2 (fun m1 u0 => ?_)
    refine wpList_nil (x_then_n (v0 _ _ ?_))
    refine wp_block ?_
    refine wp_loop_rounds 8 (r_round ?_)
    refine wsc (fun v0 m1 => ?_)
    have v0 : (0 : Int) < 7 := by decide
    refine r_lss sv u0 rfl rfl rfl rfl (by decide) (fun b2 z1 => ?_)
    refine wpList_nil (x_then_n (m1 _ _ ?_))
    refine wp_seq_k (fun m1 b2 => ?_)
    have m1 := z1.setb (d := 38) (b := true) rfl (decide_eq_true v0)
    refine wp_cond_true (m1.ev rfl) ?_
    refine wp_skip ?_
    refine x_then_n (b2 _ _ ?_)
    refine wp_seq_k (fun b2 z1 => ?_)
    refine wp_block ?_
    refine wsc (fun b2 v0 => ?_)
    refine r_indexV (v := .agg #[.func (.func 80) #[] #[], .func (.func 81) #[] #[]]) sv m1 rfl rfl rfl rfl (fun _ => by kernel_rfl) (by decide) (fun b2 u0 => ?_)
    refine m_alloc (cs := [.nilFunc, .nilFunc]) sv u0 x0 rfl rfl ze78 rfl (by decide) (fun b2 m1 y1 x1 v1 => ?_)
    refine m_store (i := 2) (cs' := [.func (.func 80) #[] #[], .func (.func 81) #[] #[]]) se x1 v1 rfl rfl rfl rfl rfl sz78 rfl rfl rfl (fun y1 m1 b2 u0 => ?_)
    refine wpList_nil (x_then_n (v0 _ _ ?_))
    refine wsc (fun v0 m1 => ?_)
    refine m_field (j' := 0) sv b2 rfl rfl rfl Tryd.underlying78 rfl sz75 rfl rfl (by decide) (fun v0 y1 => ?_)
    refine m_load (i := 2) sv y1 u0 rfl rfl rfl rfl rfl Tryd.underlying75 rfl (by decide) (fun v0 b2 => ?_)
    refine mv b2 (fun v0 y1 => ?_)
    have v0 := u0.nf
    refine k_callV (xs := [.tmp 42]) se y1 rfl rfl rfl rfl (by decide) ok80 (crule1_calls _ _ v0.il _ _ _ _ _ _ _ _ _ _ _ (nth a (a.length - 1)) (v0.z 1) (imm_box (i := 1) rfl) (v0.g 1) (v0.g 2) (v0.g 3)) ?_
    rintro y1 u0 ⟨rfl, b2, v1⟩
    have u0 := v0.callM (i := 1) rfl b2 v1
    refine ⟨_, rfl, fun v1 b2 => ?_⟩
    refine wpList_nil (x_then_n (m1 _ _ ?_))
    rcases Bool.eq_false_or_eq_true (decide ((nth t (t.length - 1)).K = 29)) with m1 | m1
    ·
     have v1 := of_decide_eq_true m1
     have v1 := b2.setb (d := 43) (b := true) rfl m1
     refine wp_cond_true (v1.ev rfl) ?_
     refine wp_seq_k (fun v0 y1 => ?_)
     obtain ⟨v0, x1, x0⟩ := u0.agree
     refine d_reg3 (n := 12) x0 17 (pc 1 1 (pc 1 2 (pc 1 3 (pc 1 4 (pc 1 5 (pc 1 6 (pc 1 7 (pc 2 0 (pc 2 1 pn))))))))) (pan_then (pan_block (pan_then (pan_then (pan_block (pan_then pan_body)))))) (fun x1 v0 u1 t1 s1 q1 => ?_)
     refine dtM 0 v0 v1 q1 (fun t1 x1 => ?_)
     refine dtN 1 v0 x1 q1 (fun t1 v1 => ?_)
     refine dtF 2 0 v0 v1 q1 Tryd.underlying74 sz72 (fun t1 x1 => ?_)
     refine dtF 3 1 v0 x1 q1 Tryd.underlying78 sz76 (fun t1 v1 => ?_)
     refine dtC 4 8 v0 v1 q1 Tryd.underlying76 (fun t1 x1 => ?_)
     refine dtM 5 v0 x1 q1 (fun t1 v1 => ?_)
     refine d1 6 ?_
     have t1 := s1.nf
     refine k_callV (xs := [.tmp 49]) (st_op rfl (want_n rfl)) v1 rfl rfl rfl rfl (by decide) ok81 (cdo1_calls _ _ t1.il _ _ _ _ _ _ _ _ _ _ _ (nth a (a.length - 1)) (t1.z 1) (imm_box (i := 1) rfl) (t1.g 1) (t1.g 2) (t1.g 3)) ?_
     rintro v1 s1 ⟨x1, q1, x0, rfl, p1, o1, n1, c0⟩
     have q1 := t1.callM (i := 1) rfl p1 o1
     have o1 := t1.dM 1 q1 n1
     refine ⟨_, rfl, fun q1 n1 => ?_⟩
     obtain ⟨hzs, hzl⟩ : sml x0 ∧ x0.length ≤ 1 := by rw [c0]; exact ⟨noL_sml (by decide) (by intro x hx; cases hx), noL_len⟩
     have q1 := sWI o1 17 (pc 1 1 (pc 1 2 (pc 1 3 (pc 1 4 (pc 1 5 (pc 1 6 (pc 1 7 (pc 2 0 (pc 2 1 pn)))))))))
     refine ⟨q1, ?_⟩
     refine d1 7 ?_
     have q1 := o1.nf
     refine k_call (xs := [.tmp 46, .tmp 50]) (st_op rfl (want_n rfl)) n1 rfl rfl rfl (by decide) ok60 (done_calls _ _ q1.il _ _ _ _ _ _ _ (q1.g 0) (q1.z 1) (imm_box (i := 1) rfl) (q1.g 18)) ?_
     rintro n1 o1 ⟨t1, p1, rfl, x1, s1, v1⟩
     have o1 := q1.callM (i := 1) rfl x1 s1
     have s1 := q1.dM 1 o1 v1
     refine ⟨_, rfl, fun o1 v1 => ?_⟩
     have o1 := sWI s1 17 (pc 1 1 (pc 1 2 (pc 1 3 (pc 1 4 (pc 1 5 (pc 1 6 (pc 1 7 (pc 2 0 (pc 2 1 pn)))))))))
     refine ⟨o1, ?_⟩
     refine dt 8 rfl v0 v1 (want_n rfl) (fun x hx => r_extract (sy v1) v1 rfl rfl rfl rfl (by decide) gt) o1 (fun q1 x1 => ?_)
     refine dt 9 rfl v0 x1 (want_n rfl) (fun x hx => r_extract (sy x1) x1 rfl rfl rfl rfl (by decide) gt) o1 (fun q1 v1 => ?_)
     refine dtA 10 v0 v1 o1 (fun q1 x1 => ?_)
     refine dtA 11 v0 x1 o1 (fun q1 v1 => ?_)
     refine wpAnyH_done (by kernel_rfl) (u1 _ _ ?_) _
     refine x_then_n (y1 _ _ ?_)
     refine wp_ret ?_
     refine x_block_r ?_
     refine x_then_r ?_
     refine x_then_r ?_
     refine x_block_r ?_
     refine x_then_r ?_
     refine e_ret2 v1 rfl rfl rfl rfl ?_
     have v1 : crA a b t = (if (if ((0)) = 0 then chk x0 else ((0))) = 0 then x0 else []) := (by rw [(cr_some k0 n0 q0 (crQ_tick (by assumption))).2]; first | rfl | (simp only [lsts_nth, c0]; done) | (simp only [lsts_nth, c0]; rfl))
     rw [v1]
     refine ⟨t1, p1, ?_, s1.fr, s1.rx 19⟩
     exact ret_t2 rfl (ret_i (by (rw [(cr_some k0 n0 q0 (crQ_tick (by assumption))).1]; first | rfl | (simp only [lsts_nth, c0]; done) | (simp only [lsts_nth, c0]; rfl))))
    ·
     have c0 := of_decide_eq_false m1
     have c0 := b2.setb (d := 43) (b := false) rfl m1
     refine wp_cond_false (c0.ev rfl) ?_
     refine wp_skip ?_
     refine x_block_n ?_
     refine x_then_n (z1 _ _ ?_)
     refine c_region ?_
     refine r_add (z := 1) sv c0 rfl rfl rfl rfl (by decide) (by omega) (by omega) (by omega) (fun z1 m1 => ?_)
     refine mv m1 (fun z1 c0 => ?_)
     refine wpList_nil ?_
     refine x_then_n (r_round ?_)
     refine wsc (fun z1 m1 => ?_)
     have z1 : (1 : Int) < 7 := by decide
     refine r_lss sv c0 rfl rfl rfl rfl (by decide) (fun b2 s1 => ?_)
     refine wpList_nil (x_then_n (m1 _ _ ?_))
     refine wp_seq_k (fun m1 b2 => ?_)
     have m1 := s1.setb (d := 38) (b := true) rfl (decide_eq_true z1)
     refine wp_cond_true (m1.ev rfl) ?_
     refine wp_skip ?_
     refine x_then_n (b2 _ _ ?_)
     refine wp_seq_k (fun b2 s1 => ?_)
     refine wp_block ?_
     refine wsc (fun b2 z1 => ?_)
     refine r_indexV (v := .agg #[.func (.func 117) #[] #[.pointer (some ⟨i0, 0, none⟩), .pointer (some ⟨t0, 0, none⟩)], .func (.func 85) #[] #[]]) sv m1 rfl rfl rfl rfl (fun _ => by kernel_rfl) (by decide) (fun b2 c0 => ?_)
     refine m_alloc (cs := [.nilFunc, .nilFunc]) sv c0 u0 rfl rfl ze78 rfl (by decide) (fun b2 m1 p1 t1 v1 => ?_)
     refine m_store (i := 3) (cs' := [.func (.func 117) #[] #[.pointer (some ⟨i0, 0, none⟩), .pointer (some ⟨t0, 0, none⟩)], .func (.func 85) #[] #[]]) se t1 v1 rfl rfl rfl rfl rfl sz78 rfl rfl rfl (fun p1 m1 b2 c0 => ?_)
     refine wpList_nil (x_then_n (z1 _ _ ?_))
     refine wsc (fun z1 m1 => ?_)
     refine m_field (j' := 0) sv b2 rfl rfl rfl Tryd.underlying78 rfl sz75 rfl rfl (by decide) (fun z1 p1 => ?_)
     refine m_load (i := 3) sv p1 c0 rfl rfl rfl rfl rfl Tryd.underlying75 rfl (by decide) (fun z1 b2 => ?_)
     refine mv b2 (fun z1 p1 => ?_)
     have z1 := c0.nf
     refine k_callV (xs := [.tmp 42]) se p1 rfl rfl rfl rfl (by decide) ok117 (ckind84_calls _ _ z1.il _ _ _ _ _ _ _ _ _ _ _ (nth a (a.length - 1)) i0 10 t0 (z1.z 1) (imm_box (i := 1) rfl) (z1.g 1) (z1.g 2) (z1.g 3) (z1.g 5) (z1.g 6)) ?_
     rintro p1 t0 ⟨rfl, i0, c0⟩
     have t0 := z1.callM (i := 1) rfl i0 c0
     refine ⟨_, rfl, fun c0 i0 => ?_⟩
     refine wpList_nil (x_then_n (m1 _ _ ?_))
     rcases Bool.eq_false_or_eq_true ((decide ((nth a (a.length - 1)).K = 10) && decide (nth b (b.length - 1) = (nth a (a.length - 1)))) && true) with m1 | m1
     ·
      have c0 := and_tl m1
      have z1 := and_tl c0
      have p1 := of_decide_eq_true z1
      have p1 := and_tr c0
      have c0 := of_decide_eq_true p1
      have c0 := and_tr m1
      have c0 := i0.setb (d := 43) (b := true) rfl m1
      refine wp_cond_true (c0.ev rfl) ?_
      refine wp_seq_k (fun p1 z1 => ?_)
      obtain ⟨p1, b2, v1⟩ := t0.agree
      refine d_reg3 (n := 12) v1 17 (pc 1 1 (pc 1 2 (pc 1 3 (pc 1 4 (pc 1 5 (pc 1 6 (pc 1 7 (pc 3 0 (pc 3 1 pn))))))))) (pan_then (pan_block (pan_then (pan_then (pan_block (pan_then pan_body)))))) (fun b2 p1 t1 u0 x0 y1 => ?_)
      refine dtM 0 p1 c0 y1 (fun u0 b2 => ?_)
      refine dtN 1 p1 b2 y1 (fun u0 c0 => ?_)
      refine dtF 2 0 p1 c0 y1 Tryd.underlying74 sz72 (fun u0 b2 => ?_)
      refine dtF 3 1 p1 b2 y1 Tryd.underlying78 sz76 (fun u0 c0 => ?_)
      refine dtC 4 8 p1 c0 y1 Tryd.underlying76 (fun u0 b2 => ?_)
      refine dtM 5 p1 b2 y1 (fun u0 c0 => ?_)
      refine d1 6 ?_
      have u0 := x0.nf
      refine k_callV (xs := [.tmp 49]) (st_op rfl (want_n rfl)) c0 rfl rfl rfl rfl (by decide) ok85 (citself_calls _ _ u0.il _ _ _ _ _ _ _ _ _ _ _ (nth a (a.length - 1)) (u0.z 1) (imm_box (i := 1) rfl) (u0.g 1) (u0.g 2) (u0.g 3)) ?_
      rintro c0 x0 ⟨b2, y1, rfl, v1, u1, q1⟩
      have y1 := u0.callM (i := 1) rfl v1 u1
      have u1 := u0.dM 1 y1 q1
      refine ⟨_, rfl, fun y1 q1 => ?_⟩
      have y1 := sWI u1 17 (pc 1 1 (pc 1 2 (pc 1 3 (pc 1 4 (pc 1 5 (pc 1 6 (pc 1 7 (pc 3 0 (pc 3 1 pn)))))))))
      refine ⟨y1, ?_⟩
      refine d1 7 ?_
      have y1 := u1.nf
      refine k_call (xs := [.tmp 46, .tmp 50]) (st_op rfl (want_n rfl)) q1 rfl rfl rfl (by decide) ok60 (done_calls _ _ y1.il _ _ _ _ _ _ _ (y1.g 0) (y1.z 1) (imm_box (i := 1) rfl) (y1.g 18)) ?_
      rintro q1 u1 ⟨u0, v1, rfl, b2, x0, c0⟩
      have u1 := y1.callM (i := 1) rfl b2 x0
      have x0 := y1.dM 1 u1 c0
      refine ⟨_, rfl, fun u1 c0 => ?_⟩
      have u1 := sWI x0 17 (pc 1 1 (pc 1 2 (pc 1 3 (pc 1 4 (pc 1 5 (pc 1 6 (pc 1 7 (pc 3 0 (pc 3 1 pn)))))))))
      refine ⟨u1, ?_⟩
      refine dt 8 rfl p1 c0 (want_n rfl) (fun x hx => r_extract (sy c0) c0 rfl rfl rfl rfl (by decide) gt) u1 (fun y1 b2 => ?_)
      refine dt 9 rfl p1 b2 (want_n rfl) (fun x hx => r_extract (sy b2) b2 rfl rfl rfl rfl (by decide) gt) u1 (fun y1 c0 => ?_)
      refine dtA 10 p1 c0 u1 (fun y1 b2 => ?_)
      refine dtA 11 p1 b2 u1 (fun y1 c0 => ?_)
      refine wpAnyH_done (by kernel_rfl) (t1 _ _ ?_) _
      refine x_then_n (z1 _ _ ?_)
      refine wp_ret ?_
      refine x_block_r ?_
      refine x_then_r ?_
      refine x_then_r ?_
      refine x_block_r ?_
      refine x_then_r ?_
      refine e_ret2 c0 rfl rfl rfl rfl ?_
      have c0 : crA a b t = (if (if (((0))) = 0 then chk t else (((0)))) = 0 then t else []) := (by rw [(cr_some k0 n0 q0 (crQ_base (by assumption) (by assumption) (by omega))).2]; first | rfl | (simp only [lsts_nth]; done) | (simp only [lsts_nth]; rfl))
      rw [c0]
      refine ⟨u0, v1, ?_, x0.fr, x0.rx 19⟩
      exact ret_t2 rfl (ret_i (by exact (cr_some k0 n0 q0 (crQ_base (by assumption) (by assumption) (by omega))).1.symm))
     ·
      have x0 := m1
      try simp only [Bool.or_eq_true, Bool.and_eq_true, Bool.not_eq_true', Bool.not_eq_false', decide_eq_true_eq, decide_eq_false_iff_not, Bool.or_eq_false_iff, Bool.and_eq_false_iff] at x0
      have x0 := i0.setb (d := 43) (b := false) rfl m1
      refine wp_cond_false (x0.ev rfl) ?_
      refine wp_skip ?_
      refine x_block_n ?_
      refine x_then_n (s1 _ _ ?_)
      refine c_region ?_
      refine r_add (z := 2) sv x0 rfl rfl rfl rfl (by decide) (by omega) (by omega) (by omega) (fun s1 m1 => ?_)
      refine mv m1 (fun s1 x0 => ?_)
      refine wpList_nil ?_
      refine x_then_n (r_round ?_)
      refine wsc (fun s1 m1 => ?_)
      have s1 : (2 : Int) < 7 := by decide
      refine r_lss sv x0 rfl rfl rfl rfl (by decide) (fun i0 v1 => ?_)
      refine wpList_nil (x_then_n (m1 _ _ ?_))
      refine wp_seq_k (fun m1 i0 => ?_)
      have m1 := v1.setb (d := 38) (b := true) rfl (decide_eq_true s1)
      refine wp_cond_true (m1.ev rfl) ?_
      refine wp_skip ?_
      refine x_then_n (i0 _ _ ?_)
      refine wp_seq_k (fun i0 v1 => ?_)
      refine wp_block ?_
      refine wsc (fun i0 s1 => ?_)
      refine r_indexV (v := .agg #[.func (.func 117) #[] #[.pointer (some ⟨p0, 0, none⟩), .pointer (some ⟨y0, 0, none⟩)], .func (.func 85) #[] #[]]) sv m1 rfl rfl rfl rfl (fun _ => by kernel_rfl) (by decide) (fun i0 x0 => ?_)
      refine m_alloc (cs := [.nilFunc, .nilFunc]) sv x0 t0 rfl rfl ze78 rfl (by decide) (fun i0 m1 u0 c0 z1 => ?_)
      refine m_store (i := 4) (cs' := [.func (.func 117) #[] #[.pointer (some ⟨p0, 0, none⟩), .pointer (some ⟨y0, 0, none⟩)], .func (.func 85) #[] #[]]) se c0 z1 rfl rfl rfl rfl rfl sz78 rfl rfl rfl (fun u0 m1 i0 x0 => ?_)
      refine wpList_nil (x_then_n (s1 _ _ ?_))
      refine wsc (fun s1 m1 => ?_)
      refine m_field (j' := 0) sv i0 rfl rfl rfl Tryd.underlying78 rfl sz75 rfl rfl (by decide) (fun s1 u0 => ?_)
      refine m_load (i := 4) sv u0 x0 rfl rfl rfl rfl rfl Tryd.underlying75 rfl (by decide) (fun s1 i0 => ?_)
      refine mv i0 (fun s1 u0 => ?_)
      have s1 := x0.nf
      refine k_callV (xs := [.tmp 42]) se u0 rfl rfl rfl rfl (by decide) ok117 (ckind84_calls _ _ s1.il _ _ _ _ _ _ _ _ _ _ _ (nth a (a.length - 1)) p0 2 y0 (s1.z 1) (imm_box (i := 1) rfl) (s1.g 1) (s1.g 2) (s1.g 3) (s1.g 7) (s1.g 8)) ?_
      rintro u0 y0 ⟨rfl, p0, x0⟩
      have y0 := s1.callM (i := 1) rfl p0 x0
      refine ⟨_, rfl, fun x0 p0 => ?_⟩
      refine wpList_nil (x_then_n (m1 _ _ ?_))
      rcases Bool.eq_false_or_eq_true ((decide ((nth a (a.length - 1)).K = 2) && decide (nth b (b.length - 1) = (nth a (a.length - 1)))) && true) with m1 | m1
      ·
       have x0 := and_tl m1
       have s1 := and_tl x0
       have u0 := of_decide_eq_true s1
       have u0 := and_tr x0
       have x0 := of_decide_eq_true u0
       have x0 := and_tr m1
       have x0 := p0.setb (d := 43) (b := true) rfl m1
       refine wp_cond_true (x0.ev rfl) ?_
       refine wp_seq_k (fun u0 s1 => ?_)
       obtain ⟨u0, i0, z1⟩ := y0.agree
       refine d_reg3 (n := 12) z1 17 (pc 1 1 (pc 1 2 (pc 1 3 (pc 1 4 (pc 1 5 (pc 1 6 (pc 1 7 (pc 4 0 (pc 4 1 pn))))))))) (pan_then (pan_block (pan_then (pan_then (pan_block (pan_then pan_body)))))) (fun i0 u0 c0 t0 t1 y1 => ?_)
       refine dtM 0 u0 x0 y1 (fun t0 i0 => ?_)
       refine dtN 1 u0 i0 y1 (fun t0 x0 => ?_)
       refine dtF 2 0 u0 x0 y1 Tryd.underlying74 sz72 (fun t0 i0 => ?_)
       refine dtF 3 1 u0 i0 y1 Tryd.underlying78 sz76 (fun t0 x0 => ?_)
       refine dtC 4 8 u0 x0 y1 Tryd.underlying76 (fun t0 i0 => ?_)
       refine dtM 5 u0 i0 y1 (fun t0 x0 => ?_)
       refine d1 6 ?_
       have t0 := t1.nf
       refine k_callV (xs := [.tmp 49]) (st_op rfl (want_n rfl)) x0 rfl rfl rfl rfl (by decide) ok85 (citself_calls _ _ t0.il _ _ _ _ _ _ _ _ _ _ _ (nth a (a.length - 1)) (t0.z 1) (imm_box (i := 1) rfl) (t0.g 1) (t0.g 2) (t0.g 3)) ?_
       rintro x0 t1 ⟨i0, y1, rfl, z1, b2, u1⟩
       have y1 := t0.callM (i := 1) rfl z1 b2
       have b2 := t0.dM 1 y1 u1
       refine ⟨_, rfl, fun y1 u1 => ?_⟩
       have y1 := sWI b2 17 (pc 1 1 (pc 1 2 (pc 1 3 (pc 1 4 (pc 1 5 (pc 1 6 (pc 1 7 (pc 4 0 (pc 4 1 pn)))))))))
       refine ⟨y1, ?_⟩
       refine d1 7 ?_
       have y1 := b2.nf
       refine k_call (xs := [.tmp 46, .tmp 50]) (st_op rfl (want_n rfl)) u1 rfl rfl rfl (by decide) ok60 (done_calls _ _ y1.il _ _ _ _ _ _ _ (y1.g 0) (y1.z 1) (imm_box (i := 1) rfl) (y1.g 18)) ?_
       rintro u1 b2 ⟨t0, z1, rfl, i0, t1, x0⟩
       have b2 := y1.callM (i := 1) rfl i0 t1
       have t1 := y1.dM 1 b2 x0
       refine ⟨_, rfl, fun b2 x0 => ?_⟩
       have b2 := sWI t1 17 (pc 1 1 (pc 1 2 (pc 1 3 (pc 1 4 (pc 1 5 (pc 1 6 (pc 1 7 (pc 4 0 (pc 4 1 pn)))))))))
       refine ⟨b2, ?_⟩
       refine dt 8 rfl u0 x0 (want_n rfl) (fun x hx => r_extract (sy x0) x0 rfl rfl rfl rfl (by decide) gt) b2 (fun y1 i0 => ?_)
       refine dt 9 rfl u0 i0 (want_n rfl) (fun x hx => r_extract (sy i0) i0 rfl rfl rfl rfl (by decide) gt) b2 (fun y1 x0 => ?_)
       refine dtA 10 u0 x0 b2 (fun y1 i0 => ?_)
       refine dtA 11 u0 i0 b2 (fun y1 x0 => ?_)
       refine wpAnyH_done (by kernel_rfl) (c0 _ _ ?_) _
       refine x_then_n (s1 _ _ ?_)
       refine wp_ret ?_
       refine x_block_r ?_
       refine x_then_r ?_
       refine x_then_r ?_
       refine x_block_r ?_
       refine x_then_r ?_
       refine e_ret2 x0 rfl rfl rfl rfl ?_
       have x0 : crA a b t = (if (if ((((0)))) = 0 then chk t else ((((0))))) = 0 then t else []) := (by rw [(cr_some k0 n0 q0 (crQ_base (by assumption) (by assumption) (by omega))).2]; first | rfl | (simp only [lsts_nth]; done) | (simp only [lsts_nth]; rfl))
       rw [x0]
       refine ⟨t0, z1, ?_, t1.fr, t1.rx 19⟩
       exact ret_t2 rfl (ret_i (by exact (cr_some k0 n0 q0 (crQ_base (by assumption) (by assumption) (by omega))).1.symm))
      ·
       have t1 := m1
       try simp only [Bool.or_eq_true, Bool.and_eq_true, Bool.not_eq_true', Bool.not_eq_false', decide_eq_true_eq, decide_eq_false_iff_not, Bool.or_eq_false_iff, Bool.and_eq_false_iff] at t1
       have t1 := p0.setb (d := 43) (b := false) rfl m1
       refine wp_cond_false (t1.ev rfl) ?_
       refine wp_skip ?_
       refine x_block_n ?_
       refine x_then_n (v1 _ _ ?_)
       refine c_region ?_
       refine r_add (z := 3) sv t1 rfl rfl rfl rfl (by decide) (by omega) (by omega) (by omega) (fun v1 m1 => ?_)
       refine mv m1 (fun v1 t1 => ?_)
       refine wpList_nil ?_
       refine x_then_n (r_round ?_)
       refine wsc (fun v1 m1 => ?_)
       have v1 : (3 : Int) < 7 := by decide
       refine r_lss sv t1 rfl rfl rfl rfl (by decide) (fun p0 z1 => ?_)
       refine wpList_nil (x_then_n (m1 _ _ ?_))
       refine wp_seq_k (fun m1 p0 => ?_)
       have m1 := z1.setb (d := 38) (b := true) rfl (decide_eq_true v1)
       refine wp_cond_true (m1.ev rfl) ?_
       refine wp_skip ?_
       refine x_then_n (p0 _ _ ?_)
       refine wp_seq_k (fun p0 z1 => ?_)
       refine wp_block ?_
       refine wsc (fun p0 v1 => ?_)
       refine r_indexV (v := .agg #[.func (.func 117) #[] #[.pointer (some ⟨z0, 0, none⟩), .pointer (some ⟨b1, 0, none⟩)], .func (.func 85) #[] #[]]) sv m1 rfl rfl rfl rfl (fun _ => by kernel_rfl) (by decide) (fun p0 t1 => ?_)
       refine m_alloc (cs := [.nilFunc, .nilFunc]) sv t1 y0 rfl rfl ze78 rfl (by decide) (fun p0 m1 t0 x0 s1 => ?_)
       refine m_store (i := 5) (cs' := [.func (.func 117) #[] #[.pointer (some ⟨z0, 0, none⟩), .pointer (some ⟨b1, 0, none⟩)], .func (.func 85) #[] #[]]) se x0 s1 rfl rfl rfl rfl rfl sz78 rfl rfl rfl (fun t0 m1 p0 t1 => ?_)
       refine wpList_nil (x_then_n (v1 _ _ ?_))
       refine wsc (fun v1 m1 => ?_)
       refine m_field (j' := 0) sv p0 rfl rfl rfl Tryd.underlying78 rfl sz75 rfl rfl (by decide) (fun v1 t0 => ?_)
       refine m_load (i := 5) sv t0 t1 rfl rfl rfl rfl rfl Tryd.underlying75 rfl (by decide) (fun v1 p0 => ?_)
       refine mv p0 (fun v1 t0 => ?_)
       have v1 := t1.nf
       refine k_callV (xs := [.tmp 42]) se t0 rfl rfl rfl rfl (by decide) ok117 (ckind84_calls _ _ v1.il _ _ _ _ _ _ _ _ _ _ _ (nth a (a.length - 1)) z0 25 b1 (v1.z 1) (imm_box (i := 1) rfl) (v1.g 1) (v1.g 2) (v1.g 3) (v1.g 9) (v1.g 10)) ?_
       rintro t0 b1 ⟨rfl, z0, t1⟩
       have b1 := v1.callM (i := 1) rfl z0 t1
       refine ⟨_, rfl, fun t1 z0 => ?_⟩
       refine wpList_nil (x_then_n (m1 _ _ ?_))
       rcases Bool.eq_false_or_eq_true ((decide ((nth a (a.length - 1)).K = 25) && decide (nth b (b.length - 1) = (nth a (a.length - 1)))) && true) with m1 | m1
       ·
        have t1 := and_tl m1
        have v1 := and_tl t1
        have t0 := of_decide_eq_true v1
        have t0 := and_tr t1
        have t1 := of_decide_eq_true t0
        have t1 := and_tr m1
        have t1 := z0.setb (d := 43) (b := true) rfl m1
        refine wp_cond_true (t1.ev rfl) ?_
        refine wp_seq_k (fun t0 v1 => ?_)
        obtain ⟨t0, p0, s1⟩ := b1.agree
        refine d_reg3 (n := 12) s1 17 (pc 1 1 (pc 1 2 (pc 1 3 (pc 1 4 (pc 1 5 (pc 1 6 (pc 1 7 (pc 5 0 (pc 5 1 pn))))))))) (pan_then (pan_block (pan_then (pan_then (pan_block (pan_then pan_body)))))) (fun p0 t0 x0 y0 c0 y1 => ?_)
        refine dtM 0 t0 t1 y1 (fun y0 p0 => ?_)
        refine dtN 1 t0 p0 y1 (fun y0 t1 => ?_)
        refine dtF 2 0 t0 t1 y1 Tryd.underlying74 sz72 (fun y0 p0 => ?_)
        refine dtF 3 1 t0 p0 y1 Tryd.underlying78 sz76 (fun y0 t1 => ?_)
        refine dtC 4 8 t0 t1 y1 Tryd.underlying76 (fun y0 p0 => ?_)
        refine dtM 5 t0 p0 y1 (fun y0 t1 => ?_)
        refine d1 6 ?_
        have y0 := c0.nf
        refine k_callV (xs := [.tmp 49]) (st_op rfl (want_n rfl)) t1 rfl rfl rfl rfl (by decide) ok85 (citself_calls _ _ y0.il _ _ _ _ _ _ _ _ _ _ _ (nth a (a.length - 1)) (y0.z 1) (imm_box (i := 1) rfl) (y0.g 1) (y0.g 2) (y0.g 3)) ?_
        rintro t1 c0 ⟨p0, y1, rfl, s1, i0, b2⟩
        have y1 := y0.callM (i := 1) rfl s1 i0
        have i0 := y0.dM 1 y1 b2
        refine ⟨_, rfl, fun y1 b2 => ?_⟩
        have y1 := sWI i0 17 (pc 1 1 (pc 1 2 (pc 1 3 (pc 1 4 (pc 1 5 (pc 1 6 (pc 1 7 (pc 5 0 (pc 5 1 pn)))))))))
        refine ⟨y1, ?_⟩
        refine d1 7 ?_
        have y1 := i0.nf
        refine k_call (xs := [.tmp 46, .tmp 50]) (st_op rfl (want_n rfl)) b2 rfl rfl rfl (by decide) ok60 (done_calls _ _ y1.il _ _ _ _ _ _ _ (y1.g 0) (y1.z 1) (imm_box (i := 1) rfl) (y1.g 18)) ?_
        rintro b2 i0 ⟨y0, s1, rfl, p0, c0, t1⟩
        have i0 := y1.callM (i := 1) rfl p0 c0
        have c0 := y1.dM 1 i0 t1
        refine ⟨_, rfl, fun i0 t1 => ?_⟩
        have i0 := sWI c0 17 (pc 1 1 (pc 1 2 (pc 1 3 (pc 1 4 (pc 1 5 (pc 1 6 (pc 1 7 (pc 5 0 (pc 5 1 pn)))))))))
        refine ⟨i0, ?_⟩
        refine dt 8 rfl t0 t1 (want_n rfl) (fun x hx => r_extract (sy t1) t1 rfl rfl rfl rfl (by decide) gt) i0 (fun y1 p0 => ?_)
        refine dt 9 rfl t0 p0 (want_n rfl) (fun x hx => r_extract (sy p0) p0 rfl rfl rfl rfl (by decide) gt) i0 (fun y1 t1 => ?_)
        refine dtA 10 t0 t1 i0 (fun y1 p0 => ?_)
        refine dtA 11 t0 p0 i0 (fun y1 t1 => ?_)
        refine wpAnyH_done (by kernel_rfl) (x0 _ _ ?_) _
        refine x_then_n (v1 _ _ ?_)
        refine wp_ret ?_
        refine x_block_r ?_
        refine x_then_r ?_
        refine x_then_r ?_
        refine x_block_r ?_
        refine x_then_r ?_
        refine e_ret2 t1 rfl rfl rfl rfl ?_
        have t1 : crA a b t = (if (if (((((0))))) = 0 then chk t else (((((0)))))) = 0 then t else []) := (by rw [(cr_some k0 n0 q0 (crQ_base (by assumption) (by assumption) (by omega))).2]; first | rfl | (simp only [lsts_nth]; done) | (simp only [lsts_nth]; rfl))
        rw [t1]
        refine ⟨y0, s1, ?_, c0.fr, c0.rx 19⟩
        exact ret_t2 rfl (ret_i (by exact (cr_some k0 n0 q0 (crQ_base (by assumption) (by assumption) (by omega))).1.symm))
       ·
        have c0 := m1
        try simp only [Bool.or_eq_true, Bool.and_eq_true, Bool.not_eq_true', Bool.not_eq_false', decide_eq_true_eq, decide_eq_false_iff_not, Bool.or_eq_false_iff, Bool.and_eq_false_iff] at c0
        have c0 := z0.setb (d := 43) (b := false) rfl m1
        refine wp_cond_false (c0.ev rfl) ?_
        refine wp_skip ?_
        refine x_block_n ?_
        refine x_then_n (z1 _ _ ?_)
        refine c_region ?_
        refine r_add (z := 4) sv c0 rfl rfl rfl rfl (by decide) (by omega) (by omega) (by omega) (fun z1 m1 => ?_)
        refine mv m1 (fun z1 c0 => ?_)
        refine wpList_nil ?_
        refine x_then_n (r_round ?_)
        refine wsc (fun z1 m1 => ?_)
        have z1 : (4 : Int) < 7 := by decide
        refine r_lss sv c0 rfl rfl rfl rfl (by decide) (fun z0 s1 => ?_)
        refine wpList_nil (x_then_n (m1 _ _ ?_))
        refine wp_seq_k (fun m1 z0 => ?_)
        have m1 := s1.setb (d := 38) (b := true) rfl (decide_eq_true z1)
        refine wp_cond_true (m1.ev rfl) ?_
        refine wp_skip ?_
        refine x_then_n (z0 _ _ ?_)
        refine wp_seq_k (fun z0 s1 => ?_)
        refine wp_block ?_
        refine wsc (fun z0 z1 => ?_)
        refine r_indexV (v := .agg #[.func (.func 117) #[] #[.pointer (some ⟨c1, 0, none⟩), .pointer (some ⟨f1, 0, none⟩)], .func (.func 87) #[] #[]]) sv m1 rfl rfl rfl rfl (fun _ => by kernel_rfl) (by decide) (fun z0 c0 => ?_)
        refine m_alloc (cs := [.nilFunc, .nilFunc]) sv c0 b1 rfl rfl ze78 rfl (by decide) (fun z0 m1 y0 t1 v1 => ?_)
        refine m_store (i := 6) (cs' := [.func (.func 117) #[] #[.pointer (some ⟨c1, 0, none⟩), .pointer (some ⟨f1, 0, none⟩)], .func (.func 87) #[] #[]]) se t1 v1 rfl rfl rfl rfl rfl sz78 rfl rfl rfl (fun y0 m1 z0 c0 => ?_)
        refine wpList_nil (x_then_n (z1 _ _ ?_))
        refine wsc (fun z1 m1 => ?_)
        refine m_field (j' := 0) sv z0 rfl rfl rfl Tryd.underlying78 rfl sz75 rfl rfl (by decide) (fun z1 y0 => ?_)
        refine m_load (i := 6) sv y0 c0 rfl rfl rfl rfl rfl Tryd.underlying75 rfl (by decide) (fun z1 z0 => ?_)
        refine mv z0 (fun z1 y0 => ?_)
        have z1 := c0.nf
        refine k_callV (xs := [.tmp 42]) se y0 rfl rfl rfl rfl (by decide) ok117 (ckind86_calls _ _ z1.il _ _ _ _ _ _ _ _ _ _ _ (nth a (a.length - 1)) c1 3 f1 (z1.z 1) (imm_box (i := 1) rfl) (z1.g 1) (z1.g 2) (z1.g 3) (z1.g 11) (z1.g 12)) ?_
        rintro y0 f1 ⟨rfl, c1, c0⟩
        have f1 := z1.callM (i := 1) rfl c1 c0
        refine ⟨_, rfl, fun c0 c1 => ?_⟩
        refine wpList_nil (x_then_n (m1 _ _ ?_))
        rcases Bool.eq_false_or_eq_true ((decide ((nth a (a.length - 1)).K = 3) && decide (nth b (b.length - 1) = (nth a (a.length - 1)))) && decide (bandI (nth a (a.length - 1)).N 1 = 0)) with m1 | m1
        ·
         have c0 := and_tl m1
         have z1 := and_tl c0
         have y0 := of_decide_eq_true z1
         obtain ⟨hm0, hm4⟩ := cr_mark (by assumption : chk a = 0) (by omega)
         have y0 := and_tr c0
         have c0 := of_decide_eq_true y0
         have c0 := and_tr m1
         have y0 := of_decide_eq_true c0
         have c0 := c1.setb (d := 43) (b := true) rfl m1
         refine wp_cond_true (c0.ev rfl) ?_
         refine wp_seq_k (fun z1 z0 => ?_)
         obtain ⟨z1, v1, t1⟩ := f1.agree
         refine d_reg3 (n := 12) t1 17 (pc 1 1 (pc 1 2 (pc 1 3 (pc 1 4 (pc 1 5 (pc 1 6 (pc 1 7 (pc 6 0 (pc 6 1 pn))))))))) (pan_then (pan_block (pan_then (pan_then (pan_block (pan_then pan_body)))))) (fun v1 z1 b1 x0 y1 p0 => ?_)
         refine dtM 0 z1 c0 p0 (fun x0 v1 => ?_)
         refine dtN 1 z1 v1 p0 (fun x0 c0 => ?_)
         refine dtF 2 0 z1 c0 p0 Tryd.underlying74 sz72 (fun x0 v1 => ?_)
         refine dtF 3 1 z1 v1 p0 Tryd.underlying78 sz76 (fun x0 c0 => ?_)
         refine dtC 4 8 z1 c0 p0 Tryd.underlying76 (fun x0 v1 => ?_)
         refine dtM 5 z1 v1 p0 (fun x0 c0 => ?_)
         refine d1 6 ?_
         have x0 := y1.nf
         refine k_callV (xs := [.tmp 49]) (st_op rfl (want_n rfl)) c0 rfl rfl rfl rfl (by decide) ok87 (cpi_calls _ _ x0.il _ _ _ _ _ _ _ _ _ _ _ (nth a (a.length - 1)) (x0.g 0) (x0.z 1) (imm_box (i := 1) rfl) (x0.g 1) (x0.g 2) (x0.g 3)) ?_
         rintro c0 y1 ⟨v1, p0, t1, rfl, i0, t0, b2, u0⟩
         have p0 := x0.callM (i := 1) rfl i0 t0
         have t0 := x0.dM 1 p0 b2
         refine ⟨_, rfl, fun p0 b2 => ?_⟩
         obtain ⟨hzs, hzl⟩ : sml t1 ∧ t1.length ≤ 100000 := by rw [u0]; exact piL_sz hsa hsb hst hla hlb hlt
         have p0 := sWI t0 17 (pc 1 1 (pc 1 2 (pc 1 3 (pc 1 4 (pc 1 5 (pc 1 6 (pc 1 7 (pc 6 0 (pc 6 1 pn)))))))))
         refine ⟨p0, ?_⟩
         refine d1 7 ?_
         have p0 := t0.nf
         refine k_call (xs := [.tmp 46, .tmp 50]) (st_op rfl (want_n rfl)) b2 rfl rfl rfl (by decide) ok60 (done_calls _ _ p0.il _ _ _ _ _ _ _ (p0.g 0) (p0.z 1) (imm_box (i := 1) rfl) (p0.g 18)) ?_
         rintro b2 t0 ⟨x0, i0, rfl, v1, y1, c0⟩
         have t0 := p0.callM (i := 1) rfl v1 y1
         have y1 := p0.dM 1 t0 c0
         refine ⟨_, rfl, fun t0 c0 => ?_⟩
         have t0 := sWI y1 17 (pc 1 1 (pc 1 2 (pc 1 3 (pc 1 4 (pc 1 5 (pc 1 6 (pc 1 7 (pc 6 0 (pc 6 1 pn)))))))))
         refine ⟨t0, ?_⟩
         refine dt 8 rfl z1 c0 (want_n rfl) (fun x hx => r_extract (sy c0) c0 rfl rfl rfl rfl (by decide) gt) t0 (fun p0 v1 => ?_)
         refine dt 9 rfl z1 v1 (want_n rfl) (fun x hx => r_extract (sy v1) v1 rfl rfl rfl rfl (by decide) gt) t0 (fun p0 c0 => ?_)
         refine dtA 10 z1 c0 t0 (fun p0 v1 => ?_)
         refine dtA 11 z1 v1 t0 (fun p0 c0 => ?_)
         refine wpAnyH_done (by kernel_rfl) (b1 _ _ ?_) _
         refine x_then_n (z0 _ _ ?_)
         refine wp_ret ?_
         refine x_block_r ?_
         refine x_then_r ?_
         refine x_then_r ?_
         refine x_block_r ?_
         refine x_then_r ?_
         refine e_ret2 c0 rfl rfl rfl rfl ?_
         have c0 : crA a b t = (if (if ((piE5 (((((0))))) (agA a) (agA b) t (nth a (a.length - 1)).N)) = 0 then chk t1 else ((piE5 (((((0))))) (agA a) (agA b) t (nth a (a.length - 1)).N))) = 0 then t1 else []) := (by rw [(cr_some k0 n0 q0 (crQ_pi (by assumption) (by assumption) (by assumption) (by assumption))).2]; first | rfl | (simp only [lsts_nth, u0, m1, y0]; done) | (simp only [lsts_nth, u0, m1, y0]; rfl))
         rw [c0]
         refine ⟨x0, i0, ?_, y1.fr, y1.rx 19⟩
         exact ret_t2 rfl (ret_i (by (rw [(cr_some k0 n0 q0 (crQ_pi (by assumption) (by assumption) (by assumption) (by assumption))).1]; first | rfl | (simp only [lsts_nth, u0, m1, y0]; done) | (simp only [lsts_nth, u0, m1, y0]; rfl))))
        ·
         have u0 := m1
         try simp only [Bool.or_eq_true, Bool.and_eq_true, Bool.not_eq_true', Bool.not_eq_false', decide_eq_true_eq, decide_eq_false_iff_not, Bool.or_eq_false_iff, Bool.and_eq_false_iff] at u0
         have u0 := c1.setb (d := 43) (b := false) rfl m1
         refine wp_cond_false (u0.ev rfl) ?_
         refine wp_skip ?_
         refine x_block_n ?_
         refine x_then_n (s1 _ _ ?_)
         refine c_region ?_
         refine r_add (z := 5) sv u0 rfl rfl rfl rfl (by decide) (by omega) (by omega) (by omega) (fun s1 c1 => ?_)
         refine mv c1 (fun s1 u0 => ?_)
         refine wpList_nil ?_
         refine x_then_n (r_round ?_)
         refine wsc (fun s1 c1 => ?_)
         have s1 : (5 : Int) < 7 := by decide
         refine r_lss sv u0 rfl rfl rfl rfl (by decide) (fun y0 y1 => ?_)
         refine wpList_nil (x_then_n (c1 _ _ ?_))
         refine wp_seq_k (fun c1 y0 => ?_)
         have c1 := y1.setb (d := 38) (b := true) rfl (decide_eq_true s1)
         refine wp_cond_true (c1.ev rfl) ?_
         refine wp_skip ?_
         refine x_then_n (y0 _ _ ?_)
         refine wp_seq_k (fun y0 y1 => ?_)
         refine wp_block ?_
         refine wsc (fun y0 s1 => ?_)
         refine r_indexV (v := .agg #[.func (.func 117) #[] #[.pointer (some ⟨h1, 0, none⟩), .pointer (some ⟨i1, 0, none⟩)], .func (.func 89) #[] #[]]) sv c1 rfl rfl rfl rfl (fun _ => by kernel_rfl) (by decide) (fun y0 u0 => ?_)
         refine m_alloc (cs := [.nilFunc, .nilFunc]) sv u0 f1 rfl rfl ze78 rfl (by decide) (fun y0 c1 i0 x0 c0 => ?_)
         refine m_store (i := 7) (cs' := [.func (.func 117) #[] #[.pointer (some ⟨h1, 0, none⟩), .pointer (some ⟨i1, 0, none⟩)], .func (.func 89) #[] #[]]) se x0 c0 rfl rfl rfl rfl rfl sz78 rfl rfl rfl (fun i0 c1 y0 u0 => ?_)
         refine wpList_nil (x_then_n (s1 _ _ ?_))
         refine wsc (fun s1 c1 => ?_)
         refine m_field (j' := 0) sv y0 rfl rfl rfl Tryd.underlying78 rfl sz75 rfl rfl (by decide) (fun s1 i0 => ?_)
         refine m_load (i := 7) sv i0 u0 rfl rfl rfl rfl rfl Tryd.underlying75 rfl (by decide) (fun s1 y0 => ?_)
         refine mv y0 (fun s1 i0 => ?_)
         have s1 := u0.nf
         refine k_callV (xs := [.tmp 42]) se i0 rfl rfl rfl rfl (by decide) ok117 (ckind88_calls _ _ s1.il _ _ _ _ _ _ _ _ _ _ _ (nth a (a.length - 1)) h1 6 i1 (s1.z 1) (imm_box (i := 1) rfl) (s1.g 1) (s1.g 2) (s1.g 3) (s1.g 13) (s1.g 14)) ?_
         rintro i0 i1 ⟨rfl, h1, u0⟩
         have i1 := s1.callM (i := 1) rfl h1 u0
         refine ⟨_, rfl, fun u0 h1 => ?_⟩
         refine wpList_nil (x_then_n (c1 _ _ ?_))
         rcases Bool.eq_false_or_eq_true ((decide ((nth a (a.length - 1)).K = 6) && decide (nth b (b.length - 1) = (nth a (a.length - 1)))) && decide ((nth a (a.length - 1)).N < 3)) with c1 | c1
         ·
          have u0 := and_tl c1
          have s1 := and_tl u0
          have i0 := of_decide_eq_true s1
          obtain ⟨hm0, hm4⟩ := cr_mark (by assumption : chk a = 0) (by omega)
          have i0 := and_tr u0
          have u0 := of_decide_eq_true i0
          have u0 := and_tr c1
          have i0 := of_decide_eq_true u0
          have i0 := h1.setb (d := 43) (b := true) rfl c1
          refine wp_cond_true (i0.ev rfl) ?_
          refine wp_seq_k (fun u0 s1 => ?_)
          obtain ⟨u0, y0, c0⟩ := i1.agree
          refine d_reg3 (n := 12) c0 17 (pc 1 1 (pc 1 2 (pc 1 3 (pc 1 4 (pc 1 5 (pc 1 6 (pc 1 7 (pc 7 0 (pc 7 1 pn))))))))) (pan_then (pan_block (pan_then (pan_then (pan_block (pan_then pan_body)))))) (fun y0 u0 x0 f1 t1 z0 => ?_)
          refine dtM 0 u0 i0 z0 (fun f1 y0 => ?_)
          refine dtN 1 u0 y0 z0 (fun f1 i0 => ?_)
          refine dtF 2 0 u0 i0 z0 Tryd.underlying74 sz72 (fun f1 y0 => ?_)
          refine dtF 3 1 u0 y0 z0 Tryd.underlying78 sz76 (fun f1 i0 => ?_)
          refine dtC 4 8 u0 i0 z0 Tryd.underlying76 (fun f1 y0 => ?_)
          refine dtM 5 u0 y0 z0 (fun f1 i0 => ?_)
          refine d1 6 ?_
          have f1 := t1.nf
          refine k_callV (xs := [.tmp 49]) (st_op rfl (want_n rfl)) i0 rfl rfl rfl rfl (by decide) ok89 (csig_calls _ _ f1.il _ _ _ _ _ _ _ _ _ _ _ (nth a (a.length - 1)) (f1.g 0) (f1.z 1) (imm_box (i := 1) rfl) (f1.g 1) (f1.g 2) (f1.g 3)) ?_
          rintro i0 t1 ⟨y0, z0, c0, rfl, b1, p0, v1, t0⟩
          have z0 := f1.callM (i := 1) rfl b1 p0
          have p0 := f1.dM 1 z0 v1
          refine ⟨_, rfl, fun z0 v1 => ?_⟩
          obtain ⟨hzs, hzl⟩ : sml c0 ∧ c0.length ≤ 100000 := by rw [t0]; exact sgL_sz hsa hsb hst hla hlb hlt
          have z0 := sWI p0 17 (pc 1 1 (pc 1 2 (pc 1 3 (pc 1 4 (pc 1 5 (pc 1 6 (pc 1 7 (pc 7 0 (pc 7 1 pn)))))))))
          refine ⟨z0, ?_⟩
          refine d1 7 ?_
          have z0 := p0.nf
          refine k_call (xs := [.tmp 46, .tmp 50]) (st_op rfl (want_n rfl)) v1 rfl rfl rfl (by decide) ok60 (done_calls _ _ z0.il _ _ _ _ _ _ _ (z0.g 0) (z0.z 1) (imm_box (i := 1) rfl) (z0.g 18)) ?_
          rintro v1 p0 ⟨f1, b1, rfl, y0, t1, i0⟩
          have p0 := z0.callM (i := 1) rfl y0 t1
          have t1 := z0.dM 1 p0 i0
          refine ⟨_, rfl, fun p0 i0 => ?_⟩
          have p0 := sWI t1 17 (pc 1 1 (pc 1 2 (pc 1 3 (pc 1 4 (pc 1 5 (pc 1 6 (pc 1 7 (pc 7 0 (pc 7 1 pn)))))))))
          refine ⟨p0, ?_⟩
          refine dt 8 rfl u0 i0 (want_n rfl) (fun x hx => r_extract (sy i0) i0 rfl rfl rfl rfl (by decide) gt) p0 (fun z0 y0 => ?_)
          refine dt 9 rfl u0 y0 (want_n rfl) (fun x hx => r_extract (sy y0) y0 rfl rfl rfl rfl (by decide) gt) p0 (fun z0 i0 => ?_)
          refine dtA 10 u0 i0 p0 (fun z0 y0 => ?_)
          refine dtA 11 u0 y0 p0 (fun z0 i0 => ?_)
          refine wpAnyH_done (by kernel_rfl) (x0 _ _ ?_) _
          refine x_then_n (s1 _ _ ?_)
          refine wp_ret ?_
          refine x_block_r ?_
          refine x_then_r ?_
          refine x_then_r ?_
          refine x_block_r ?_
          refine x_then_r ?_
          refine e_ret2 i0 rfl rfl rfl rfl ?_
          have i0 : crA a b t = (if (if ((sgE ((((((0)))))) (agA a) (agA b) t (nth a (a.length - 1)).N)) = 0 then chk c0 else ((sgE ((((((0)))))) (agA a) (agA b) t (nth a (a.length - 1)).N))) = 0 then c0 else []) := (by rw [(cr_some k0 n0 q0 (crQ_sig (by assumption) (by assumption) (by assumption) (by assumption))).2]; first | rfl | (simp only [lsts_nth, t0, m1]; done) | (simp only [lsts_nth, t0, m1]; rfl))
          rw [i0]
          refine ⟨f1, b1, ?_, t1.fr, t1.rx 19⟩
          exact ret_t2 rfl (ret_i (by (rw [(cr_some k0 n0 q0 (crQ_sig (by assumption) (by assumption) (by assumption) (by assumption))).1]; first | rfl | (simp only [lsts_nth, t0, m1]; done) | (simp only [lsts_nth, t0, m1]; rfl))))
         ·
          have t0 := c1
          try simp only [Bool.or_eq_true, Bool.and_eq_true, Bool.not_eq_true', Bool.not_eq_false', decide_eq_true_eq, decide_eq_false_iff_not, Bool.or_eq_false_iff, Bool.and_eq_false_iff] at t0
          have t0 := h1.setb (d := 43) (b := false) rfl c1
          refine wp_cond_false (t0.ev rfl) ?_
          refine wp_skip ?_
          refine x_block_n ?_
          refine x_then_n (y1 _ _ ?_)
          refine c_region ?_
          refine r_add (z := 6) sv t0 rfl rfl rfl rfl (by decide) (by omega) (by omega) (by omega) (fun y1 c1 => ?_)
          refine mv c1 (fun y1 t0 => ?_)
          refine wpList_nil ?_
          refine x_then_n (r_round ?_)
          refine wsc (fun y1 c1 => ?_)
          have y1 : (6 : Int) < 7 := by decide
          refine r_lss sv t0 rfl rfl rfl rfl (by decide) (fun h1 t1 => ?_)
          refine wpList_nil (x_then_n (c1 _ _ ?_))
          refine wp_seq_k (fun c1 h1 => ?_)
          have c1 := t1.setb (d := 38) (b := true) rfl (decide_eq_true y1)
          refine wp_cond_true (c1.ev rfl) ?_
          refine wp_skip ?_
          refine x_then_n (h1 _ _ ?_)
          refine wp_seq_k (fun h1 t1 => ?_)
          refine wp_block ?_
          refine wsc (fun h1 y1 => ?_)
          refine r_indexV (v := .agg #[.func (.func 117) #[] #[.pointer (some ⟨j1, 0, none⟩), .pointer (some ⟨k1, 0, none⟩)], .func (.func 91) #[] #[]]) sv c1 rfl rfl rfl rfl (fun _ => by kernel_rfl) (by decide) (fun h1 t0 => ?_)
          refine m_alloc (cs := [.nilFunc, .nilFunc]) sv t0 i1 rfl rfl ze78 rfl (by decide) (fun h1 c1 b1 f1 i0 => ?_)
          refine m_store (i := 8) (cs' := [.func (.func 117) #[] #[.pointer (some ⟨j1, 0, none⟩), .pointer (some ⟨k1, 0, none⟩)], .func (.func 91) #[] #[]]) se f1 i0 rfl rfl rfl rfl rfl sz78 rfl rfl rfl (fun b1 c1 h1 t0 => ?_)
          refine wpList_nil (x_then_n (y1 _ _ ?_))
          refine wsc (fun y1 c1 => ?_)
          refine m_field (j' := 0) sv h1 rfl rfl rfl Tryd.underlying78 rfl sz75 rfl rfl (by decide) (fun y1 b1 => ?_)
          refine m_load (i := 8) sv b1 t0 rfl rfl rfl rfl rfl Tryd.underlying75 rfl (by decide) (fun y1 h1 => ?_)
          refine mv h1 (fun y1 b1 => ?_)
          have y1 := t0.nf
          refine k_callV (xs := [.tmp 42]) se b1 rfl rfl rfl rfl (by decide) ok117 (ckind90_calls _ _ y1.il _ _ _ _ _ _ _ _ _ _ _ (nth a (a.length - 1)) j1 22 k1 (y1.z 1) (imm_box (i := 1) rfl) (y1.g 1) (y1.g 2) (y1.g 3) (y1.g 15) (y1.g 16)) ?_
          rintro b1 k1 ⟨rfl, j1, t0⟩
          have k1 := y1.callM (i := 1) rfl j1 t0
          refine ⟨_, rfl, fun t0 j1 => ?_⟩
          refine wpList_nil (x_then_n (c1 _ _ ?_))
          rcases Bool.eq_false_or_eq_true ((decide ((nth a (a.length - 1)).K = 22) && decide (nth b (b.length - 1) = (nth a (a.length - 1)))) && decide ((nth t (t.length - 1)).K = 23)) with c1 | c1
          ·
           have t0 := and_tl c1
           have y1 := and_tl t0
           have b1 := of_decide_eq_true y1
           have b1 := and_tr t0
           have t0 := of_decide_eq_true b1
           have t0 := and_tr c1
           have b1 := of_decide_eq_true t0
           have b1 := j1.setb (d := 43) (b := true) rfl c1
           refine wp_cond_true (b1.ev rfl) ?_
           refine wp_seq_k (fun t0 y1 => ?_)
           obtain ⟨t0, h1, i0⟩ := k1.agree
           refine d_reg3 (n := 12) i0 17 (pc 1 1 (pc 1 2 (pc 1 3 (pc 1 4 (pc 1 5 (pc 1 6 (pc 1 7 (pc 8 0 (pc 8 1 pn))))))))) (pan_then (pan_block (pan_then (pan_then (pan_block (pan_then pan_body)))))) (fun h1 t0 f1 i1 c0 s1 => ?_)
           refine dtM 0 t0 b1 s1 (fun i1 h1 => ?_)
           refine dtN 1 t0 h1 s1 (fun i1 b1 => ?_)
           refine dtF 2 0 t0 b1 s1 Tryd.underlying74 sz72 (fun i1 h1 => ?_)
           refine dtF 3 1 t0 h1 s1 Tryd.underlying78 sz76 (fun i1 b1 => ?_)
           refine dtC 4 8 t0 b1 s1 Tryd.underlying76 (fun i1 h1 => ?_)
           refine dtM 5 t0 h1 s1 (fun i1 b1 => ?_)
           refine d1 6 ?_
           have i1 := c0.nf
           refine k_callV (xs := [.tmp 49]) (st_op rfl (want_n rfl)) b1 rfl rfl rfl rfl (by decide) ok91 (cquot_calls _ _ i1.il _ _ _ _ _ _ _ _ _ _ _ (nth a (a.length - 1)) (i1.g 0) (i1.z 1) (imm_box (i := 1) rfl) (i1.g 1) (i1.g 2) (i1.g 3)) ?_
           rintro b1 c0 ⟨h1, s1, i0, rfl, x0, z0, y0, p0⟩
           have s1 := i1.callM (i := 1) rfl x0 z0
           have z0 := i1.dM 1 s1 y0
           refine ⟨_, rfl, fun s1 y0 => ?_⟩
           obtain ⟨hzs, hzl⟩ : sml i0 ∧ i0.length ≤ 100000 := by rw [p0]; exact quL_sz hsa hsb hst hla hlb hlt
           have s1 := sWI z0 17 (pc 1 1 (pc 1 2 (pc 1 3 (pc 1 4 (pc 1 5 (pc 1 6 (pc 1 7 (pc 8 0 (pc 8 1 pn)))))))))
           refine ⟨s1, ?_⟩
           refine d1 7 ?_
           have s1 := z0.nf
           refine k_call (xs := [.tmp 46, .tmp 50]) (st_op rfl (want_n rfl)) y0 rfl rfl rfl (by decide) ok60 (done_calls _ _ s1.il _ _ _ _ _ _ _ (s1.g 0) (s1.z 1) (imm_box (i := 1) rfl) (s1.g 18)) ?_
           rintro y0 z0 ⟨i1, x0, rfl, h1, c0, b1⟩
           have z0 := s1.callM (i := 1) rfl h1 c0
           have c0 := s1.dM 1 z0 b1
           refine ⟨_, rfl, fun z0 b1 => ?_⟩
           have z0 := sWI c0 17 (pc 1 1 (pc 1 2 (pc 1 3 (pc 1 4 (pc 1 5 (pc 1 6 (pc 1 7 (pc 8 0 (pc 8 1 pn)))))))))
           refine ⟨z0, ?_⟩
           refine dt 8 rfl t0 b1 (want_n rfl) (fun x hx => r_extract (sy b1) b1 rfl rfl rfl rfl (by decide) gt) z0 (fun s1 h1 => ?_)
           refine dt 9 rfl t0 h1 (want_n rfl) (fun x hx => r_extract (sy h1) h1 rfl rfl rfl rfl (by decide) gt) z0 (fun s1 b1 => ?_)
           refine dtA 10 t0 b1 z0 (fun s1 h1 => ?_)
           refine dtA 11 t0 h1 z0 (fun s1 b1 => ?_)
           refine wpAnyH_done (by kernel_rfl) (f1 _ _ ?_) _
           refine x_then_n (y1 _ _ ?_)
           refine wp_ret ?_
           refine x_block_r ?_
           refine x_then_r ?_
           refine x_then_r ?_
           refine x_block_r ?_
           refine x_then_r ?_
           refine e_ret2 b1 rfl rfl rfl rfl ?_
           have b1 : crA a b t = (if (if ((((((((0)))))))) = 0 then chk i0 else ((((((((0))))))))) = 0 then i0 else []) := (by rw [(cr_some k0 n0 q0 (crQ_quot (by assumption) (by assumption) (by assumption) (by assumption))).2]; first | rfl | (simp only [lsts_nth, p0, m1]; done) | (simp only [lsts_nth, p0, m1]; rfl))
           rw [b1]
           refine ⟨i1, x0, ?_, c0.fr, c0.rx 19⟩
           exact ret_t2 rfl (ret_i (by (rw [(cr_some k0 n0 q0 (crQ_quot (by assumption) (by assumption) (by assumption) (by assumption))).1]; first | rfl | (simp only [lsts_nth, p0, m1]; done) | (simp only [lsts_nth, p0, m1]; rfl))))
          ·
           have p0 := c1
           try simp only [Bool.or_eq_true, Bool.and_eq_true, Bool.not_eq_true', Bool.not_eq_false', decide_eq_true_eq, decide_eq_false_iff_not, Bool.or_eq_false_iff, Bool.and_eq_false_iff] at p0
           have p0 := j1.setb (d := 43) (b := false) rfl c1
           refine wp_cond_false (p0.ev rfl) ?_
           refine wp_skip ?_
           refine x_block_n ?_
           refine x_then_n (t1 _ _ ?_)
           refine c_region ?_
           refine r_add (z := 7) sv p0 rfl rfl rfl rfl (by decide) (by omega) (by omega) (by omega) (fun t1 c1 => ?_)
           refine mv c1 (fun t1 p0 => ?_)
           refine wpList_nil ?_
           refine x_then_n (r_round ?_)
           refine wsc (fun t1 c1 => ?_)
           have t1 : ¬ (7 : Int) < 7 := by decide
           refine r_lss sv p0 rfl rfl rfl rfl (by decide) (fun j1 m1 => ?_)
           refine wpList_nil (x_then_n (c1 _ _ ?_))
           refine wp_seq_k (fun c1 j1 => ?_)
           have j1 := m1.setb (d := 38) (b := false) rfl (decide_eq_false t1)
           refine wp_cond_false (j1.ev rfl) ?_
           refine wp_exit ?_
           refine x_then_e ?_
           refine x_then_e ?_
           refine x_block_eq ?_
           refine x_then_n (o0 _ _ ?_)
           refine wsc (fun o0 m1 => ?_)
           refine asg j1 (fun o0 t1 => ?_)
           refine asg t1 (fun o0 j1 => ?_)
           refine wpList_nil (x_then_n (m1 _ _ ?_))
           refine wp_ret ?_
           refine e_ret2 j1 rfl rfl rfl rfl ?_
           have j1 : crA a b t = [] := (cr_none k0 n0 q0 (crQ_none (by assumption) (by assumption) (by assumption) (by assumption) (by assumption) (by assumption) (by assumption))).2
           rw [j1]
           refine ⟨none, 0, ?_, k1.fr, ⟨Nat.le_refl _, RowI.nil _ _ _ _⟩⟩
           exact ret_t2 rfl (ret_i (by exact (cr_none k0 n0 q0 (crQ_none (by assumption) (by assumption) (by assumption) (by assumption) (by assumption) (by assumption) (by assumption))).1.symm))
   ·
    have k1 := b0.setb (d := 26) (b := true) rfl (by rw [(decide_eq_false q0)]; rfl)
    refine wp_cond_true (k1.ev rfl) ?_
    refine wsc (fun b0 j1 => ?_)
    refine mv k1 (fun b0 m1 => ?_)
    refine asg m1 (fun b0 k1 => ?_)
    refine asg k1 (fun b0 m1 => ?_)
    refine wpList_nil (x_then_n (j1 _ _ ?_))
    refine wp_ret ?_
    refine x_block_r ?_
    refine x_then_r ?_
    refine x_then_r ?_
    refine x_block_r ?_
    refine x_then_r ?_
    refine e_ret2 m1 rfl rfl rfl rfl ?_
    have m1 : crA a b t = [] := (cr_errt k0 n0 q0).2
    rw [m1]
    refine ⟨none, 0, ?_, f0.fr, ⟨Nat.le_refl _, RowI.nil _ _ _ _⟩⟩
    exact ret_t2 rfl (ret_i (by exact (cr_errt k0 n0 q0).1.symm))
  ·
   have q0 := d0.setb (d := 26) (b := true) rfl (by rw [(decide_eq_false n0)]; rfl)
   refine wp_cond_true (q0.ev rfl) ?_
   refine wsc (fun d0 f0 => ?_)
   refine mv q0 (fun d0 m1 => ?_)
   refine asg m1 (fun d0 q0 => ?_)
   refine asg q0 (fun d0 m1 => ?_)
   refine wpList_nil (x_then_n (f0 _ _ ?_))
   refine wp_ret ?_
   refine x_block_r ?_
   refine x_then_r ?_
   refine x_then_r ?_
   refine x_block_r ?_
   refine x_then_r ?_
   refine e_ret2 m1 rfl rfl rfl rfl ?_
   have m1 : crA a b t = [] := (cr_errb k0 n0).2
   rw [m1]
   refine ⟨none, 0, ?_, h0.fr, ⟨Nat.le_refl _, RowI.nil _ _ _ _⟩⟩
   exact ret_t2 rfl (ret_i (by exact (cr_errb k0 n0).1.symm))
 ·
  have n0 := j0.setb (d := 26) (b := true) rfl (by rw [(decide_eq_false k0)]; rfl)
  refine wp_cond_true (n0.ev rfl) ?_
  refine wsc (fun j0 h0 => ?_)
  refine mv n0 (fun j0 m1 => ?_)
  refine asg m1 (fun j0 n0 => ?_)
  refine asg n0 (fun j0 m1 => ?_)
  refine wpList_nil (x_then_n (h0 _ _ ?_))
  refine wp_ret ?_
  refine x_block_r ?_
  refine x_then_r ?_
  refine x_then_r ?_
  refine x_block_r ?_
  refine x_then_r ?_
  refine e_ret2 m1 rfl rfl rfl rfl ?_
  have m1 : crA a b t = [] := (cr_erra k0).2
  rw [m1]
  refine ⟨none, 0, ?_, m0.fr, ⟨Nat.le_refl _, RowI.nil _ _ _ _⟩⟩
  exact ret_t2 rfl (ret_i (by exact (cr_erra k0).1.symm))
end Go.Proofs.YtobgdeffhdefeaaDoor
/- What a cast comes to: its errors, and its parts. -/
namespace Go.Proofs.YtobgdeffhdefeaaDoor
set_option linter.unusedSimpArgs false
set_option linter.unusedVariables false
theorem all1 {Q : List Nd → Prop} {a : List Nd} (h : Q a) : ∀ x ∈ [a], Q x := by
 intro x hx; simp only [List.mem_cons, List.not_mem_nil, or_false] at hx; rw [hx]; exact h
theorem all2 {Q : List Nd → Prop} {a b : List Nd} (h : Q a) (h2 : Q b) : ∀ x ∈ [a, b], Q x := by
 intro x hx; simp only [List.mem_cons, List.not_mem_nil, or_false] at hx; rcases hx with rfl | rfl; exact h; exact h2
theorem all3 {Q : List Nd → Prop} {a b c : List Nd} (h : Q a) (h2 : Q b) (h3 : Q c) : ∀ x ∈ [a, b, c], Q x := by
 intro x hx; simp only [List.mem_cons, List.not_mem_nil, or_false] at hx; rcases hx with rfl | rfl | rfl; exact h; exact h2; exact h3
section
variable {a b t : List Nd} (ha : chk a = 0) (hb : chk b = 0) (ht : chk t = 0)
include ha hb ht
theorem cr_inv (h0 : crE a b t = 0) : ∃ x, crQ a b t = some (x, 0) ∧ chk x = 0 ∧ crA a b t = x := by
 cases hq : crQ a b t with
 | none => rw [(cr_none ha hb ht hq).1] at h0; cases h0
 | some y =>
  obtain ⟨x, e⟩ := y
  obtain ⟨h1, h2⟩ := cr_some ha hb ht hq
  rw [h1] at h0
  by_cases he : e = 0
  ·
   rw [if_pos he] at h0
   refine ⟨x, by rw [he], h0, ?_⟩
   rw [h2, if_pos he, if_pos h0]
  · rw [if_neg he] at h0; exact absurd h0 he
theorem pi_facts {m : Int} (hk : (nth a (a.length - 1)).K = 3) (hk' : (nth b (b.length - 1)).K = 3) :
  GE (piE5 0 (agA a) (agA b) t m) ∧ (piE5 0 (agA a) (agA b) t m = 0 → measB (piL 0 (agA a) (agA b) t m) = true ∧
   (∃ z, ptL (piL 0 (agA a) (agA b) t m) = [nthL (agA b) 0, z]) ∧ nth (piL 0 (agA a) (agA b) t m) ((piL 0 (agA a) (agA b) t m).length - 1) = ⟨4, 0, 0, ⟨#[]⟩⟩) := by
 have hma := many_3 hk
 have hmb := many_3 hk'
 have p0 := (ag_part ha (k := 0) (by omega)).1
 have p1 := (ag_part ha (k := 1) (by omega)).1
 have q0 := (ag_part hb (k := 0) (by omega)).1
 have q1 := (ag_part hb (k := 1) (by omega)).1
 have g1 : GE (piE1 0 (agA b)) := up_G GE.zero (fun _ => q0) (by decide)
 have g2 : GE (piE2 0 (agA a) (agA b)) := up_G g1 (fun _ => p0) (by decide)
 have g3 : GE (piE3 0 (agA a) (agA b) t) := up_G g2 (fun _ => ht) (by decide)
 have g4 : GE (piE4 0 (agA a) (agA b) t) := up_G g3 (fun _ => p1) (by decide)
 have z4 : piE4 0 (agA a) (agA b) t = 0 → piE3 0 (agA a) (agA b) t = 0 ∧ measB (piU 0 (agA a) (agA b) t) = true := fun h => ⟨(up_zero h).1, meas_chk (up_meas h)⟩
 have z3 : piE3 0 (agA a) (agA b) t = 0 → piE2 0 (agA a) (agA b) = 0 ∧ measB (upL (piE2 0 (agA a) (agA b)) t 1 0) = true := fun h => ⟨(up_zero h).1, meas_chk (up_meas h)⟩
 have z2 : piE2 0 (agA a) (agA b) = 0 → measB (piY 0 (agA a) (agA b) m) = true := fun h => by
  obtain ⟨h1, h2⟩ := up_zero h
  unfold piY
  rw [h]
  exact plL_ok (caL_ok (meas_chk (up_meas h1)) (meas_chk (up_meas h)) meas_v0).1
 refine ⟨in_G g4 fun h => ?_, fun h => ?_⟩
 ·
  obtain ⟨h3, h4⟩ := z4 h
  exact all2 h4 (z2 (z3 h3).1)
 ·
  obtain ⟨h4, h5⟩ := in_zero h
  obtain ⟨h3, h6⟩ := z4 h4
  obtain ⟨h2, h7⟩ := z3 h3
  have hY := z2 h2
  have hi := meas_chk (in_meas h)
  have hG : measB (piG 0 (agA a) (agA b) t m) = true := by
   unfold piG
   rw [h3]
   exact (noL_ok (right_lit (k := 5) (by decide)).1 (right_lit (k := 5) (by decide)).2 (all2 h7 hY)).1
  have hL : piL 0 (agA a) (agA b) t m = noL 0 ⟨4, 0, 0, ⟨#[]⟩⟩ [nthL (agA b) 0, caL 0 (inL (piE4 0 (agA a) (agA b) t) (piU 0 (agA a) (agA b) t) [piY 0 (agA a) (agA b) m]) (nthL (agA b) 1) (piG 0 (agA a) (agA b) t m)] := by
   unfold piL
   rw [h]
  obtain ⟨r1, r2, r3⟩ := noL_ok (n := ⟨4, 0, 0, ⟨#[]⟩⟩) (right_lit (k := 4) (by decide)).1 (right_lit (k := 4) (by decide)).2 (all2 (meas_chk q0) (caL_ok hi (meas_chk q1) hG).1)
  rw [hL]
  exact ⟨r1, ⟨_, r2⟩, r3⟩
theorem sg_facts {m : Int} (hk : (nth a (a.length - 1)).K = 6) (hk' : (nth b (b.length - 1)).K = 6) :
  GE (sgE 0 (agA a) (agA b) t m) ∧ (sgE 0 (agA a) (agA b) t m = 0 → measB (sgL 0 (agA a) (agA b) b t m) = true ∧
   ptL (sgL 0 (agA a) (agA b) b t m) = [b, sgC 0 (agA a) (agA b) t m, if bandI m 1 = 0 then sgS 0 (agA a) (agA b) t m else [⟨29, 0, 0, ⟨#[]⟩⟩]] ∧
   nth (sgL 0 (agA a) (agA b) b t m) ((sgL 0 (agA a) (agA b) b t m).length - 1) = ⟨7, 0, 0, ⟨#[]⟩⟩ ∧ (bandI m 1 = 0 → nth (sgS 0 (agA a) (agA b) t m) ((sgS 0 (agA a) (agA b) t m).length - 1) = ⟨20, 0, 0, ⟨#[]⟩⟩)) := by
 have hma := many_6 hk
 have hmb := many_6 hk'
 have p0 := (ag_part ha (k := 0) (by omega)).1
 have p1 := (ag_part ha (k := 1) (by omega)).1
 have q0 := (ag_part hb (k := 0) (by omega)).1
 have q1 := (ag_part hb (k := 1) (by omega)).1
 have one : ∀ k : Nat, k = 8 ∨ k = 9 → measB (noL 0 ⟨(k : Int), 0, 0, ⟨#[]⟩⟩ [t]) = true := fun k hk => by
  have hr := right_lit (k := k) (by omega)
  refine (noL_ok hr.1 ?_ (all1 (meas_chk ht))).1
  rw [hr.2]
  rcases hk with rfl | rfl <;> rfl
 have hF : measB (sgF 0 t m) = true := plL_ok (one 8 (.inl rfl))
 have hC : measB (sgC 0 (agA a) (agA b) t m) = true := plL_ok (caL_ok (meas_chk p0) (meas_chk q0) hF).1
 have g1 : GE (sgE1 0 (agA a) t m) := in_G GE.zero (fun _ => all2 (meas_chk p1) hF)
 have g2 : GE (sgE2 0 (agA a) (agA b) t m) := in_G g1 (fun _ => all2 (meas_chk q1) hC)
 refine ⟨?_, fun h => ?_⟩
 ·
  unfold sgE
  split
  · exact g2
  · exact GE.zero
 ·
  have hT : measB (if bandI m 1 = 0 then sgS 0 (agA a) (agA b) t m else [⟨29, 0, 0, ⟨#[]⟩⟩]) = true ∧ (bandI m 1 = 0 → nth (sgS 0 (agA a) (agA b) t m) ((sgS 0 (agA a) (agA b) t m).length - 1) = ⟨20, 0, 0, ⟨#[]⟩⟩) := by
   unfold sgE at h
   by_cases hm : bandI m 1 = 0
   ·
    rw [if_pos hm] at h ⊢
    have h1 := (in_zero h).1
    have m1 := meas_chk (in_meas h1)
    have m2 := meas_chk (in_meas h)
    obtain ⟨c1, _, c3⟩ := caL_ok m1 m2 (one 9 (.inr rfl))
    have e : sgS 0 (agA a) (agA b) t m = caL 0 (inL 0 (nthL (agA a) 1) [sgF 0 t m]) (inL (sgE1 0 (agA a) t m) (nthL (agA b) 1) [sgC 0 (agA a) (agA b) t m]) (noL 0 ⟨9, 0, 0, ⟨#[]⟩⟩ [t]) := by
     unfold sgS
     rw [h]
    rw [e]
    exact ⟨c1, fun _ => c3⟩
   ·
    rw [if_neg hm]
    exact ⟨meas_tick, fun q => absurd q hm⟩
  have hL : sgL 0 (agA a) (agA b) b t m = noL 0 ⟨7, 0, 0, ⟨#[]⟩⟩ [b, sgC 0 (agA a) (agA b) t m, if bandI m 1 = 0 then sgS 0 (agA a) (agA b) t m else [⟨29, 0, 0, ⟨#[]⟩⟩]] := by
   unfold sgL
   rw [h]
   rfl
  obtain ⟨r1, r2, r3⟩ := noL_ok (n := ⟨7, 0, 0, ⟨#[]⟩⟩) (right_lit (k := 7) (by decide)).1 (right_lit (k := 7) (by decide)).2 (all3 (meas_chk hb) hC hT.1)
  rw [hL]
  exact ⟨r1, r2, r3, hT.2⟩
theorem qu_facts (hk : (nth a (a.length - 1)).K = 22) (hk' : (nth b (b.length - 1)).K = 22) (h3 : (nth t (t.length - 1)).K = 23) :
  measB (quL 0 a b t) = true ∧ (∃ z, ptL (quL 0 a b t) = [b, z]) ∧ nth (quL 0 a b t) ((quL 0 a b t).length - 1) = nth t (t.length - 1) := by
 have hma := many_22 hk
 have hmb := many_22 hk'
 have hmt := many_23 h3
 have p0 := (ag_part ha (k := 0) (by omega)).1
 have q0 := (ag_part hb (k := 0) (by omega)).1
 have t1 := (ag_part ht (k := 1) (by omega)).1
 have hr := right_at (meas_chk ht) (show t.length - 1 < t.length by have := chk_pos ht; omega)
 obtain ⟨r1, r2, r3⟩ := noL_ok (n := nth t (t.length - 1)) (p := [b, caL 0 (nthL (agA a) 0) (nthL (agA b) 0) (nthL (agA t) 1)]) hr hmt (all2 (meas_chk hb) (caL_ok (meas_chk p0) (meas_chk q0) (meas_chk t1)).1)
 exact ⟨r1, ⟨_, r2⟩, r3⟩
def chNo (a b t : List Nd) : Prop := ¬ nth a (a.length - 1) = nth b (b.length - 1) ∨ ((nth a (a.length - 1)).K = 3 ∧ (nth a (a.length - 1)).N.tmod 2 = 1) ∨ ((nth a (a.length - 1)).K = 6 ∧ (nth a (a.length - 1)).N = 3) ∨
 ¬ ((nth a (a.length - 1)).K = 10 ∨ (nth a (a.length - 1)).K = 2 ∨ (nth a (a.length - 1)).K = 25 ∨ (nth a (a.length - 1)).K = 3 ∨ (nth a (a.length - 1)).K = 6 ∨ ((nth a (a.length - 1)).K = 22 ∧ (nth t (t.length - 1)).K = 23))
omit ha hb ht in
theorem band_odd : ∀ m : Int, 0 ≤ m → m < 4 → (bandI m 1 = 0 ↔ ¬ m.tmod 2 = 1) := by
 intro m h0 h4
 have : m = 0 ∨ m = 1 ∨ m = 2 ∨ m = 3 := by omega
 rcases this with rfl | rfl | rfl | rfl <;> decide
theorem ch_rule (h29 : ¬ (nth t (t.length - 1)).K = 29) (h : ¬ chNo a b t) : nth b (b.length - 1) = nth a (a.length - 1) ∧ ∃ x e, crQ a b t = some (x, e) ∧ GE e ∧ (e = 0 → measB x = true) := by
 have h4 : (nth a (a.length - 1)).K = 10 ∨ (nth a (a.length - 1)).K = 2 ∨ (nth a (a.length - 1)).K = 25 ∨ (nth a (a.length - 1)).K = 3 ∨ (nth a (a.length - 1)).K = 6 ∨ ((nth a (a.length - 1)).K = 22 ∧ (nth t (t.length - 1)).K = 23) := Classical.byContradiction fun q => h (.inr (.inr (.inr q)))
 simp only [chNo, not_or, Classical.not_not, not_and] at h
 obtain ⟨h1, h2, h3, _⟩ := h
 refine ⟨h1.symm, ?_⟩
 rcases h4 with h | h | h | h | h | ⟨h, h'⟩
 · exact ⟨_, _, crQ_base h29 h1.symm (.inl h), GE.zero, fun _ => meas_chk ht⟩
 · exact ⟨_, _, crQ_base h29 h1.symm (.inr (.inl h)), GE.zero, fun _ => meas_chk ht⟩
 · exact ⟨_, _, crQ_base h29 h1.symm (.inr (.inr h)), GE.zero, fun _ => meas_chk ht⟩
 ·
  obtain ⟨z0, z4⟩ := cr_mark ha (.inl h)
  have hp := pi_facts ha hb ht (m := (nth a (a.length - 1)).N) h (by rw [← h1]; exact h)
  exact ⟨_, _, crQ_pi h29 h1.symm h ((band_odd _ z0 z4).2 (h2 h)), hp.1, fun q => (hp.2 q).1⟩
 ·
  obtain ⟨z0, z4⟩ := cr_mark ha (.inr h)
  have hp := sg_facts ha hb ht (m := (nth a (a.length - 1)).N) h (by rw [← h1]; exact h)
  have := h3 h
  exact ⟨_, _, crQ_sig h29 h1.symm h (by omega), hp.1, fun q => (hp.2 q).1⟩
 · exact ⟨_, _, crQ_quot h29 h1.symm h h', GE.zero, fun _ => (qu_facts ha hb ht h (by rw [← h1]; exact h) h').1⟩
theorem ch_great (h29 : ¬ (nth t (t.length - 1)).K = 29) (h : ¬ chNo a b t) : GE (crE a b t) := by
 obtain ⟨_, x, e, hq, he, hm⟩ := ch_rule ha hb ht h29 h
 rw [(cr_some ha hb ht hq).1]
 split
 · rename_i h0; exact GE.meas (hm h0)
 · exact he
end
theorem cr_nat : crE [⟨10, 0, 0, ⟨#[]⟩⟩] [⟨10, 0, 0, ⟨#[]⟩⟩] [⟨0, 3, 0, ⟨#[]⟩⟩] = 0 ∧ crA [⟨10, 0, 0, ⟨#[]⟩⟩] [⟨10, 0, 0, ⟨#[]⟩⟩] [⟨0, 3, 0, ⟨#[]⟩⟩] = [⟨0, 3, 0, ⟨#[]⟩⟩] := by
 have h := cr_some (a := [⟨10, 0, 0, ⟨#[]⟩⟩]) (b := [⟨10, 0, 0, ⟨#[]⟩⟩]) (t := [⟨0, 3, 0, ⟨#[]⟩⟩]) chk_nat chk_nat chk_v3 (crQ_base (by decide) rfl (.inl rfl))
 rw [if_pos rfl, chk_v3] at h
 exact h
def grB (e : Int) : Bool := (decide (e = 2) || decide (e = 21)) || decide (e = 22)
theorem gr_of {e : Int} (h : GE e) (h0 : ¬ e = 0) : grB e = true := by
 rcases h with h | h | h | h
 · exact absurd h h0
 · rw [h]; rfl
 · rw [h]; rfl
 · rw [h]; rfl
theorem crA_chk {a b t : List Nd} (h0 : crE a b t = 0) : chk (crA a b t) = 0 := by
 have hc : crC a b t = 0 := by
  by_cases hc : crC a b t = 0
  · exact hc
  · unfold crE at h0; rw [if_pos hc] at h0; exact absurd h0 hc
 have ha : chk a = 0 := by
  by_cases h : chk a = 0
  · exact h
  · unfold crC at hc; rw [if_pos h] at hc; exact absurd hc h
 have hb : chk b = 0 := by
  by_cases h : chk b = 0
  · exact h
  · unfold crC at hc; rw [if_neg (by omega), if_pos h] at hc; exact absurd hc h
 have ht : chk t = 0 := by rw [crC_t ha hb] at hc; exact hc
 obtain ⟨x, _, h2, h3⟩ := cr_inv ha hb ht h0
 rw [h3]; exact h2
theorem crA_sz {a b t : List Nd} (hsa : sml a) (hsb : sml b) (hst : sml t) (hla : a.length ≤ 5000) (hlb : b.length ≤ 5000) (hlt : t.length ≤ 5000) : sml (crA a b t) ∧ (crA a b t).length ≤ 4000 := by
 by_cases h0 : crE a b t = 0
 ·
  refine ⟨?_, chk_le (crA_chk h0)⟩
  unfold crA
  split
  · exact sml_nil
  ·
   split
   · exact sml_nil
   ·
    rename_i x e hq
    have hif : ∀ {p : Prop} [Decidable p] {y : List Nd}, sml y → sml (if p then y else []) := fun h => by split; exact h; exact sml_nil
    ·
     refine hif ?_
     unfold crQ at hq
     split at hq
     · injection hq with hq; injection hq with hq _; rw [← hq]; exact noL_sml (by decide) (by intro x hx; cases hx)
     ·
      split at hq
      ·
       split at hq
       · injection hq with hq; injection hq with hq _; rw [← hq]; exact hst
       ·
        split at hq
        · injection hq with hq; injection hq with hq _; rw [← hq]; exact (piL_sz hsa hsb hst hla hlb hlt).1
        ·
         split at hq
         · injection hq with hq; injection hq with hq _; rw [← hq]; exact (sgL_sz hsa hsb hst hla hlb hlt).1
         ·
          split at hq
          · injection hq with hq; injection hq with hq _; rw [← hq]; exact (quL_sz hsa hsb hst hla hlb hlt).1
          · cases hq
      · cases hq
 ·
  have : crA a b t = [] := by
   unfold crE at h0
   unfold crA
   split
   · rfl
   ·
    rename_i hc
    rw [if_neg hc] at h0
    split
    · rfl
    ·
     rename_i x e hq
     rw [hq] at h0
     exact if_neg h0
  rw [this]
  exact ⟨sml_nil, by simp⟩
end Go.Proofs.YtobgdeffhdefeaaDoor
/- Contracts of functions, one theorem each: what the call returns, and that nothing old is changed. Printed by gen.py. -/
namespace Go.Proofs.YtobgdeffhdefeaaDoor
open Go Go.RowKit
set_option linter.unusedSimpArgs false
set_option linter.unusedVariables false
set_option maxRecDepth 100000 in
set_option maxHeartbeats 1000000 in
theorem rlevel_calls (w0 : World) (Z : Nat → Prop) (hZ : ∀ k, Z k → k < w0.heap.size) (n : Int)  :
    Calls Tryd.prog 116 [.int .i64 n].toArray w0 (fun e w' => e = .returned (.bool (decide (0 ≤ n) && decide (n ≤ 9))) ∧ Fr none_ w0 w') := by
 have b0 := s0 (M := none_) hZ zn
 refine c_enter Tryd.func116 rfl Tryd.ntmps116 rfl (fun c0 d0 => ?_)
 refine wsc (fun c0 f0 => ?_)
 refine asg d0 (fun c0 h0 => ?_)
 refine wpList_nil (x_then_n (f0 _ _ ?_))
 refine wsc (fun f0 c0 => ?_)
 refine mv h0 (fun f0 d0 => ?_)
 refine r_geq sv d0 rfl rfl rfl rfl (by decide) (fun f0 h0 => ?_)
 refine mv h0 (fun f0 d0 => ?_)
 refine l_join (fun ga gw => Reg ga 9 [(2, .bool false), (8, .bool ((decide (0 ≤ (n))) && (decide ((n) ≤ 9)))), (1000000, .bool false)] ∧ St w0 Z none_ gw [] []) 3 ?_ ?_
 ·
  rcases Decidable.em (0 ≤ (n)) with f0 | f0
  ·
   have h0 := d0.setb (d := 5) (b := true) rfl (decide_eq_true f0)
   refine r_move (st_listV_w (wt h0)) h0 rfl rfl rfl (by decide) (fun i0 j0 => ?_)
   refine r_leq (st_listV_w (wt j0)) j0 rfl rfl rfl rfl (by decide) (fun i0 h0 => ?_)
   refine r_pick_t sv h0 rfl rfl rfl rfl (by decide) (fun i0 j0 => ?_)
   refine wpList_nil ?_
   exact x_then_n ⟨(j0.sub (rc rfl (rc (rb rfl (by (simp only [decide_eq_true f0, if_pos f0, bl]; done))) (rc rfl rnl)))), b0⟩
  ·
   have j0 := d0.setb (d := 5) (b := false) rfl (decide_eq_false f0)
   refine sps j0 (wff j0) (fun d0 i0 => ?_)
   refine sps i0 (wff i0) (fun d0 j0 => ?_)
   refine r_pick_f sv j0 rfl rfl rfl rfl (by decide) (fun d0 i0 => ?_)
   refine wpList_nil ?_
   exact x_then_n ⟨(i0.sub (rc rfl (rc (rb rfl (by (simp only [decide_eq_false f0, if_neg f0, bl]; done))) (rc rfl rnl)))), b0⟩
 rintro i0 f0 ⟨b0, d0⟩
 refine asg b0 (fun f0 i0 => ?_)
 refine wpList_nil (x_then_n (c0 _ _ ?_))
 refine wp_ret ?_
 refine e_ret1 i0 rfl rfl rfl ?_
 refine ⟨?_, d0.fr⟩
 exact congrArg Ending.returned (ret_b (by rfl))
set_option maxRecDepth 100000 in
set_option maxHeartbeats 1000000 in
theorem rlvCheck_calls (w0 : World) (Z : Nat → Prop) (hZ : ∀ k, Z k → k < w0.heap.size) (n : Int)  :
    Calls Tryd.prog 78 [.int .i64 n].toArray w0 (fun e w' => e = .returned (.int .i64 (lvChk n)) ∧ Fr none_ w0 w') := by
 have b0 := s0 (M := none_) hZ zn
 refine c_enter Tryd.func78 rfl Tryd.ntmps78 rfl (fun c0 d0 => ?_)
 refine wsc (fun c0 f0 => ?_)
 refine asg d0 (fun c0 h0 => ?_)
 refine wpList_nil (x_then_n (f0 _ _ ?_))
 refine wp_seq_k (fun f0 c0 => ?_)
 refine wsc (fun f0 d0 => ?_)
 refine mv h0 (fun f0 i0 => ?_)
 have f0 := b0.nf
 refine k_call (xs := [.tmp 3]) se i0 rfl rfl rfl (by decide) ok116 (rlevel_calls _ _ f0.il (n)) ?_
 rintro i0 b0 ⟨rfl, h0⟩
 have b0 := f0.below h0.below
 refine ⟨_, rfl, fun h0 f0 => ?_⟩
 refine r_not sv f0 rfl rfl rfl (by decide) (fun h0 i0 => ?_)
 refine wpList_nil (x_then_n (d0 _ _ ?_))
 rcases Bool.eq_false_or_eq_true (decide (0 ≤ (n)) && decide ((n) ≤ 9)) with d0 | d0
 ·
  have h0 := and_tl d0
  have f0 := of_decide_eq_true h0
  have h0 := and_tr d0
  have j0 := of_decide_eq_true h0
  have h0 := i0.setb (d := 5) (b := false) rfl (by rw [d0]; rfl)
  refine wp_cond_false (h0.ev rfl) ?_
  refine wp_skip ?_
  refine x_then_n (c0 _ _ ?_)
  refine wsc (fun c0 k0 => ?_)
  refine asg h0 (fun c0 m0 => ?_)
  refine wpList_nil (x_then_n (k0 _ _ ?_))
  refine wp_ret ?_
  refine e_ret1 m0 rfl rfl rfl ?_
  refine ⟨?_, b0.fr⟩
  exact congrArg Ending.returned (ret_i (by have m0 := d0; (try simp at m0); have k0 := f0; (try simp at k0); have c0 := j0; (try simp at c0);  unfold lvChk; (try split) <;> first | rfl | omega))
 ·
  have c0 := d0
  try simp only [Bool.or_eq_true, Bool.and_eq_true, Bool.not_eq_true', Bool.not_eq_false', decide_eq_true_eq, decide_eq_false_iff_not, Bool.or_eq_false_iff, Bool.and_eq_false_iff] at c0
  have c0 := i0.setb (d := 5) (b := true) rfl (by rw [d0]; rfl)
  refine wp_cond_true (c0.ev rfl) ?_
  refine wsc (fun i0 k0 => ?_)
  refine asg c0 (fun i0 j0 => ?_)
  refine wpList_nil (x_then_n (k0 _ _ ?_))
  refine wp_ret ?_
  refine x_then_r ?_
  refine e_ret1 j0 rfl rfl rfl ?_
  refine ⟨?_, b0.fr⟩
  exact congrArg Ending.returned (ret_i (by have m0 := d0; (try simp at m0);  unfold lvChk; (try split) <;> first | rfl | omega))
set_option maxRecDepth 100000 in
set_option maxHeartbeats 1000000 in
theorem rletter_calls (w0 : World) (Z : Nat → Prop) (hZ : ∀ k, Z k → k < w0.heap.size) (c : Nat)  :
    Calls Tryd.prog 115 [.int .u8 ((c : Nat) : Int)].toArray w0 (fun e w' => e = .returned (.bool (letN c)) ∧ Fr none_ w0 w') := by
 have b0 := s0 (M := none_) hZ zn
 refine c_enter Tryd.func115 rfl Tryd.ntmps115 rfl (fun c0 d0 => ?_)
 refine wsc (fun c0 f0 => ?_)
 refine asg d0 (fun c0 h0 => ?_)
 refine wpList_nil (x_then_n (f0 _ _ ?_))
 refine wsc (fun f0 c0 => ?_)
 refine mv h0 (fun f0 d0 => ?_)
 refine r_geq sv d0 rfl rfl rfl rfl (by decide) (fun f0 h0 => ?_)
 refine mv h0 (fun f0 d0 => ?_)
 refine l_join (fun ga gw => Reg ga 21 [(0, .int .u8 ((c : Nat) : Int)), (2, .bool false), (8, .bool ((decide (97 ≤ ((c : Nat) : Int))) && (decide (((c : Nat) : Int) ≤ 122)))), (1000000, .bool false)] ∧ St w0 Z none_ gw [] []) 3 ?_ ?_
 ·
  rcases Decidable.em (97 ≤ ((c : Nat) : Int)) with f0 | f0
  ·
   have h0 := d0.setb (d := 5) (b := true) rfl (decide_eq_true f0)
   refine r_move (st_listV_w (wt h0)) h0 rfl rfl rfl (by decide) (fun i0 j0 => ?_)
   refine r_leq (st_listV_w (wt j0)) j0 rfl rfl rfl rfl (by decide) (fun i0 h0 => ?_)
   refine r_pick_t sv h0 rfl rfl rfl rfl (by decide) (fun i0 j0 => ?_)
   refine wpList_nil ?_
   exact x_then_n ⟨(j0.sub (rc rfl (rc rfl (rc (rb rfl (by (simp only [decide_eq_true f0, if_pos f0, bl]; done))) (rc rfl rnl))))), b0⟩
  ·
   have j0 := d0.setb (d := 5) (b := false) rfl (decide_eq_false f0)
   refine sps j0 (wff j0) (fun d0 i0 => ?_)
   refine sps i0 (wff i0) (fun d0 j0 => ?_)
   refine r_pick_f sv j0 rfl rfl rfl rfl (by decide) (fun d0 i0 => ?_)
   refine wpList_nil ?_
   exact x_then_n ⟨(i0.sub (rc rfl (rc rfl (rc (rb rfl (by (simp only [decide_eq_false f0, if_neg f0, bl]; done))) (rc rfl rnl))))), b0⟩
 rintro i0 f0 ⟨b0, d0⟩
 refine mv b0 (fun f0 i0 => ?_)
 refine l_join (fun ga gw => Reg ga 21 [(0, .int .u8 ((c : Nat) : Int)), (2, .bool false), (16, .bool (((decide (97 ≤ ((c : Nat) : Int))) && (decide (((c : Nat) : Int) ≤ 122))) || ((decide (65 ≤ ((c : Nat) : Int))) && (decide (((c : Nat) : Int) ≤ 90))))), (1000000, .bool false)] ∧ St w0 Z none_ gw [] []) 7 ?_ ?_
 ·
  rcases Bool.eq_false_or_eq_true (((decide (97 ≤ ((c : Nat) : Int))) && (decide (((c : Nat) : Int) ≤ 122)))) with f0 | f0
  ·
   have b0 := and_tl f0
   have j0 := of_decide_eq_true b0
   have j0 := and_tr f0
   have b0 := of_decide_eq_true j0
   have b0 := i0.setb (d := 9) (b := true) rfl f0
   refine sps b0 (wff b0) (fun j0 h0 => ?_)
   refine sps h0 (wff h0) (fun j0 b0 => ?_)
   refine sps b0 (wff b0) (fun j0 h0 => ?_)
   refine sps h0 (wu h0) (fun j0 b0 => ?_)
   refine sps b0 (wu b0) (fun j0 h0 => ?_)
   refine sps h0 (wff h0) (fun j0 b0 => ?_)
   refine r_pick_t sv b0 rfl rfl rfl rfl (by decide) (fun j0 h0 => ?_)
   refine wpList_nil ?_
   exact x_then_n ⟨(h0.sub (rc rfl (rc rfl (rc (rb rfl (by (simp only [f0, bl]; done))) (rc rfl rnl))))), d0⟩
  ·
   have h0 := f0
   try simp only [Bool.or_eq_true, Bool.and_eq_true, Bool.not_eq_true', Bool.not_eq_false', decide_eq_true_eq, decide_eq_false_iff_not, Bool.or_eq_false_iff, Bool.and_eq_false_iff] at h0
   have h0 := i0.setb (d := 9) (b := false) rfl f0
   refine r_move (st_listV_w (wt h0)) h0 rfl rfl rfl (by decide) (fun i0 j0 => ?_)
   refine r_geq (st_listV_w (wt j0)) j0 rfl rfl rfl rfl (by decide) (fun i0 h0 => ?_)
   refine r_move (st_listV_w (wt h0)) h0 rfl rfl rfl (by decide) (fun i0 j0 => ?_)
   rcases Decidable.em (65 ≤ ((c : Nat) : Int)) with i0 | i0
   ·
    have h0 := j0.setb (d := 12) (b := true) rfl (decide_eq_true i0)
    refine r_move (st_listV_w (wt h0)) h0 rfl rfl rfl (by decide) (fun b0 k0 => ?_)
    refine r_leq (st_listV_w (wt k0)) k0 rfl rfl rfl rfl (by decide) (fun b0 h0 => ?_)
    refine r_pick_t (st_listV_w (wt h0)) h0 rfl rfl rfl rfl (by decide) (fun b0 k0 => ?_)
    refine r_pick_f sv k0 rfl rfl rfl rfl (by decide) (fun b0 h0 => ?_)
    refine wpList_nil ?_
    exact x_then_n ⟨(h0.sub (rc rfl (rc rfl (rc (rb rfl (by (simp only [f0, decide_eq_true i0, if_pos i0, bl]; done))) (rc rfl rnl))))), d0⟩
   ·
    have h0 := j0.setb (d := 12) (b := false) rfl (decide_eq_false i0)
    refine sps h0 (wff h0) (fun j0 b0 => ?_)
    refine sps b0 (wff b0) (fun j0 h0 => ?_)
    refine r_pick_f (st_listV_w (wt h0)) h0 rfl rfl rfl rfl (by decide) (fun j0 b0 => ?_)
    refine r_pick_f sv b0 rfl rfl rfl rfl (by decide) (fun j0 h0 => ?_)
    refine wpList_nil ?_
    exact x_then_n ⟨(h0.sub (rc rfl (rc rfl (rc (rb rfl (by (simp only [f0, decide_eq_false i0, if_neg i0, bl]; done))) (rc rfl rnl))))), d0⟩
 rintro h0 i0 ⟨f0, d0⟩
 refine mv f0 (fun i0 h0 => ?_)
 refine l_join (fun ga gw => Reg ga 21 [(2, .bool false), (20, .bool ((((decide (97 ≤ ((c : Nat) : Int))) && (decide (((c : Nat) : Int) ≤ 122))) || ((decide (65 ≤ ((c : Nat) : Int))) && (decide (((c : Nat) : Int) ≤ 90)))) || (decide (((c : Nat) : Int) = 95)))), (1000000, .bool false)] ∧ St w0 Z none_ gw [] []) 3 ?_ ?_
 ·
  rcases Bool.eq_false_or_eq_true ((((decide (97 ≤ ((c : Nat) : Int))) && (decide (((c : Nat) : Int) ≤ 122))) || ((decide (65 ≤ ((c : Nat) : Int))) && (decide (((c : Nat) : Int) ≤ 90))))) with i0 | i0
  ·
   have f0 := i0
   try simp only [Bool.or_eq_true, Bool.and_eq_true, Bool.not_eq_true', Bool.not_eq_false', decide_eq_true_eq, decide_eq_false_iff_not, Bool.or_eq_false_iff, Bool.and_eq_false_iff] at f0
   have f0 := h0.setb (d := 17) (b := true) rfl i0
   refine sps f0 (wff f0) (fun j0 b0 => ?_)
   refine sps b0 (wff b0) (fun j0 f0 => ?_)
   refine r_pick_t sv f0 rfl rfl rfl rfl (by decide) (fun j0 b0 => ?_)
   refine wpList_nil ?_
   exact x_then_n ⟨(b0.sub (rc rfl (rc (rb rfl (by (simp only [i0, bl]; done))) (rc rfl rnl)))), d0⟩
  ·
   have b0 := or_fl i0
   have j0 := b0
   try simp only [Bool.or_eq_true, Bool.and_eq_true, Bool.not_eq_true', Bool.not_eq_false', decide_eq_true_eq, decide_eq_false_iff_not, Bool.or_eq_false_iff, Bool.and_eq_false_iff] at j0
   have j0 := or_fr i0
   have b0 := j0
   try simp only [Bool.or_eq_true, Bool.and_eq_true, Bool.not_eq_true', Bool.not_eq_false', decide_eq_true_eq, decide_eq_false_iff_not, Bool.or_eq_false_iff, Bool.and_eq_false_iff] at b0
   have b0 := h0.setb (d := 17) (b := false) rfl i0
   refine r_move (st_listV_w (wt b0)) b0 rfl rfl rfl (by decide) (fun h0 j0 => ?_)
   refine r_eql (st_listV_w (wt j0)) j0 rfl rfl rfl rfl (by decide) (fun h0 b0 => ?_)
   refine r_pick_f sv b0 rfl rfl rfl rfl (by decide) (fun h0 j0 => ?_)
   refine wpList_nil ?_
   exact x_then_n ⟨(j0.sub (rc rfl (rc (rb rfl (by (simp only [i0, bl]; done))) (rc rfl rnl)))), d0⟩
 rintro j0 i0 ⟨d0, h0⟩
 refine asg d0 (fun i0 j0 => ?_)
 refine wpList_nil (x_then_n (c0 _ _ ?_))
 refine wp_ret ?_
 refine e_ret1 j0 rfl rfl rfl ?_
 refine ⟨?_, h0.fr⟩
 exact congrArg Ending.returned (ret_b (by rfl))
set_option maxRecDepth 100000 in
set_option maxHeartbeats 1000000 in
theorem rname_calls (w0 : World) (Z : Nat → Prop) (hZ : ∀ k, Z k → k < w0.heap.size) (s : ByteArray) (hs : s.size < 1000000 := by first | assumption | omega | (simp; done) | (simp; omega)) :
    Calls Tryd.prog 77 [.string s].toArray w0 (fun e w' => e = .returned (.bool (nameOk s)) ∧ Fr none_ w0 w') := by
 have b0 := s0 (M := none_) hZ zn
 refine c_enter Tryd.func77 rfl Tryd.ntmps77 rfl (fun c0 d0 => ?_)
 refine wsc (fun c0 f0 => ?_)
 refine asg d0 (fun c0 h0 => ?_)
 refine wpList_nil (x_then_n (f0 _ _ ?_))
 refine wp_seq_k (fun f0 c0 => ?_)
 refine wsc (fun f0 d0 => ?_)
 refine mv h0 (fun f0 i0 => ?_)
 refine r_lenS sv i0 rfl rfl rfl rfl Tryd.underlying9 (by decide) (fun f0 h0 => ?_)
 refine r_lss sv h0 rfl rfl rfl rfl (by decide) (fun f0 i0 => ?_)
 refine mv i0 (fun f0 h0 => ?_)
 refine l_join (fun ga gw => Reg ga 41 [(0, .string s), (2, .bool false), (11, .bool ((decide (((s.size : Nat) : Int) < 1)) || (decide (16 < ((s.size : Nat) : Int))))), (1000000, .bool false)] ∧ St w0 Z none_ gw [] []) 4 ?_ ?_
 ·
  rcases Decidable.em (((s.size : Nat) : Int) < 1) with f0 | f0
  ·
   have i0 := h0.setb (d := 7) (b := true) rfl (decide_eq_true f0)
   refine sps i0 (wff i0) (fun j0 k0 => ?_)
   refine sps k0 (wff k0) (fun j0 i0 => ?_)
   refine sps i0 (wff i0) (fun j0 k0 => ?_)
   refine r_pick_t sv k0 rfl rfl rfl rfl (by decide) (fun j0 i0 => ?_)
   refine wpList_nil ?_
   exact x_then_n ⟨(i0.sub (rc rfl (rc rfl (rc (rb rfl (by (simp only [decide_eq_true f0, if_pos f0, bl]; done))) (rc rfl rnl))))), b0⟩
  ·
   have i0 := h0.setb (d := 7) (b := false) rfl (decide_eq_false f0)
   refine r_move (st_listV_w (wt i0)) i0 rfl rfl rfl (by decide) (fun h0 j0 => ?_)
   refine r_lenS (st_listV_w (wt j0)) j0 rfl rfl rfl rfl Tryd.underlying9 (by decide) (fun h0 i0 => ?_)
   refine r_gtr (st_listV_w (wt i0)) i0 rfl rfl rfl rfl (by decide) (fun h0 j0 => ?_)
   refine r_pick_f sv j0 rfl rfl rfl rfl (by decide) (fun h0 i0 => ?_)
   refine wpList_nil ?_
   exact x_then_n ⟨(i0.sub (rc rfl (rc rfl (rc (rb rfl (by (simp only [decide_eq_false f0, if_neg f0, bl]; done))) (rc rfl rnl))))), b0⟩
 rintro i0 f0 ⟨b0, h0⟩
 refine mv b0 (fun f0 i0 => ?_)
 refine l_join (fun ga gw => Reg ga 41 [(0, .string s), (2, .bool false), (17, .bool (((decide (((s.size : Nat) : Int) < 1)) || (decide (16 < ((s.size : Nat) : Int)))) || (!(letN (byteAt s 0))))), (1000000, .bool false)] ∧ St w0 Z none_ gw [] []) 5 ?_ ?_
 ·
  rcases Bool.eq_false_or_eq_true (((decide (((s.size : Nat) : Int) < 1)) || (decide (16 < ((s.size : Nat) : Int))))) with f0 | f0
  ·
   have b0 := f0
   try simp only [Bool.or_eq_true, Bool.and_eq_true, Bool.not_eq_true', Bool.not_eq_false', decide_eq_true_eq, decide_eq_false_iff_not, Bool.or_eq_false_iff, Bool.and_eq_false_iff] at b0
   have b0 := i0.setb (d := 12) (b := true) rfl f0
   refine sps b0 (wff b0) (fun j0 k0 => ?_)
   refine sps k0 (wff k0) (fun j0 b0 => ?_)
   refine sps b0 (wff b0) (fun j0 k0 => ?_)
   refine sps k0 (wff k0) (fun j0 b0 => ?_)
   refine r_pick_t sv b0 rfl rfl rfl rfl (by decide) (fun j0 k0 => ?_)
   refine wpList_nil ?_
   exact x_then_n ⟨(k0.sub (rc rfl (rc rfl (rc (rb rfl (by (simp only [f0, bl]; done))) (rc rfl rnl))))), h0⟩
  ·
   have k0 := or_fl f0
   have j0 := of_decide_eq_false k0
   have j0 := or_fr f0
   have k0 := of_decide_eq_false j0
   have k0 := i0.setb (d := 12) (b := false) rfl f0
   refine r_move (st_listV_w (wt k0)) k0 rfl rfl rfl (by decide) (fun i0 j0 => ?_)
   refine r_byte (i := 0) (st_listV_w (wt j0)) j0 rfl rfl rfl rfl Tryd.underlying9 (by omega) (by omega) (by decide) (fun i0 k0 => ?_)
   have i0 := h0.nf
   refine k_call (xs := [.tmp 14]) (st_list_w (wt k0)) k0 rfl rfl rfl (by decide) ok115 (rletter_calls _ _ i0.il (byteAt s 0)) ?_
   rintro k0 h0 ⟨rfl, j0⟩
   have h0 := i0.below j0.below
   refine ⟨_, rfl, fun j0 i0 => ?_⟩
   refine r_not (st_listV_w (wt i0)) i0 rfl rfl rfl (by decide) (fun j0 k0 => ?_)
   refine r_pick_f sv k0 rfl rfl rfl rfl (by decide) (fun j0 i0 => ?_)
   refine wpList_nil ?_
   exact x_then_n ⟨(i0.sub (rc rfl (rc rfl (rc (rb rfl (by (simp only [f0, bl]; done))) (rc rfl rnl))))), h0⟩
 rintro i0 h0 ⟨f0, j0⟩
 refine wpList_nil (x_then_n (d0 _ _ ?_))
 rcases Bool.eq_false_or_eq_true ((((decide (((s.size : Nat) : Int) < 1)) || (decide (16 < ((s.size : Nat) : Int)))) || (!(letN (byteAt s 0))))) with d0 | d0
 ·
  have h0 := d0
  try simp only [Bool.or_eq_true, Bool.and_eq_true, Bool.not_eq_true', Bool.not_eq_false', decide_eq_true_eq, decide_eq_false_iff_not, Bool.or_eq_false_iff, Bool.and_eq_false_iff] at h0
  have i0 := f0.setb (d := 17) (b := true) rfl d0
  refine wp_cond_true (i0.ev rfl) ?_
  refine wsc (fun k0 b0 => ?_)
  refine asg i0 (fun k0 m0 => ?_)
  refine wpList_nil (x_then_n (b0 _ _ ?_))
  refine wp_ret ?_
  refine x_then_r ?_
  refine e_ret1 m0 rfl rfl rfl ?_
  refine ⟨?_, j0.fr⟩
  exact congrArg Ending.returned (ret_b (by exact (rname_bad0 (by rcases h0 with h | h; exact .inl (by omega); exact .inr h)).symm))
 ·
  have h0 := or_fl d0
  have m0 := or_fl h0
  have b0 := of_decide_eq_false m0
  have b0 := or_fr h0
  have h0 := of_decide_eq_false b0
  have h0 := or_fr d0
  have b0 := not_f h0
  have b0 := f0.setb (d := 17) (b := false) rfl d0
  refine wp_cond_false (b0.ev rfl) ?_
  refine wp_skip ?_
  refine x_then_n (c0 _ _ ?_)
  refine wp_seq_k (fun c0 d0 => ?_)
  refine wsc (fun c0 f0 => ?_)
  refine asg b0 (fun c0 h0 => ?_)
  refine wpList_nil (x_then_n (f0 _ _ ?_))
  refine wp_block ?_
  refine wp_loop_ghost (fun gn ga gw => ∃ k : Nat, (Reg ga 41 [(0, .string s), (1000000, .bool false), (3, .int .i64 ((k : Nat) : Int))]) ∧ (St w0 Z none_ gw [] []) ∧ (k ≤ s.size) ∧ (nameTo s k) ∧ (s.size - k) = gn) _ ⟨0, (h0.sub (rc rfl (rc rfl (rc rfl rnl)))), j0, by omega, nameTo_zero s, rfl⟩ ?_
  rintro h0 j0 f0 ⟨k, c0, b0, hk, hi, m0⟩
  refine wp_seq_k (fun m0 f0 => ?_)
  refine wsc (fun m0 j0 => ?_)
  refine mv c0 (fun m0 h0 => ?_)
  refine mv h0 (fun m0 c0 => ?_)
  refine r_lenS sv c0 rfl rfl rfl rfl Tryd.underlying9 (by decide) (fun m0 h0 => ?_)
  refine r_lss sv h0 rfl rfl rfl rfl (by decide) (fun m0 c0 => ?_)
  refine wpList_nil (x_then_n (j0 _ _ ?_))
  rcases Decidable.em (((k : Nat) : Int) < ((s.size : Nat) : Int)) with j0 | j0
  ·
   have m0 := c0.setb (d := 21) (b := true) rfl (decide_eq_true j0)
   refine wp_cond_true (m0.ev rfl) ?_
   refine wp_skip ?_
   refine x_then_n (f0 _ _ ?_)
   refine wp_seq_k (fun f0 h0 => ?_)
   refine wp_block ?_
   refine wsc (fun f0 k0 => ?_)
   refine mv m0 (fun f0 i0 => ?_)
   refine mv i0 (fun f0 m0 => ?_)
   refine r_byte (i := k) sv m0 rfl rfl rfl rfl Tryd.underlying9 (by omega) (by omega) (by decide) (fun f0 i0 => ?_)
   have f0 := b0.nf
   refine k_call (xs := [.tmp 26]) se i0 rfl rfl rfl (by decide) ok115 (rletter_calls _ _ f0.il (byteAt s k)) ?_
   rintro i0 m0 ⟨rfl, n0⟩
   have m0 := f0.below n0.below
   refine ⟨_, rfl, fun n0 f0 => ?_⟩
   refine r_not sv f0 rfl rfl rfl (by decide) (fun n0 i0 => ?_)
   refine mv i0 (fun n0 f0 => ?_)
   refine l_join (fun ga gw => Reg ga 41 [(0, .string s), (3, .int .i64 ((k : Nat) : Int)), (40, .bool ((!(letN (byteAt s k))) && ((decide (((byteAt s k : Nat) : Int) < 48)) || (decide (57 < ((byteAt s k : Nat) : Int)))))), (1000000, .bool false)] ∧ St w0 Z none_ gw [] []) 11 ?_ ?_
   ·
    rcases Bool.eq_false_or_eq_true (letN (byteAt s k)) with n0 | n0
    ·
     have i0 := f0.setb (d := 29) (b := false) rfl (by rw [n0]; rfl)
     refine sps i0 (wff i0) (fun o0 p0 => ?_)
     refine sps p0 (wff p0) (fun o0 i0 => ?_)
     refine sps i0 (wff i0) (fun o0 p0 => ?_)
     refine sps p0 (wff p0) (fun o0 i0 => ?_)
     refine sps i0 (wff i0) (fun o0 p0 => ?_)
     refine sps p0 (wu p0) (fun o0 i0 => ?_)
     refine sps i0 (wu i0) (fun o0 p0 => ?_)
     refine sps p0 (wu p0) (fun o0 i0 => ?_)
     refine sps i0 (wu i0) (fun o0 p0 => ?_)
     refine sps p0 (wff p0) (fun o0 i0 => ?_)
     refine r_pick_f sv i0 rfl rfl rfl rfl (by decide) (fun o0 p0 => ?_)
     refine wpList_nil ?_
     exact x_then_n ⟨(p0.sub (rc rfl (rc rfl (rc (rb rfl (by (simp only [n0, bl]; done))) (rc rfl rnl))))), m0⟩
    ·
     have p0 := f0.setb (d := 29) (b := true) rfl (by rw [n0]; rfl)
     refine r_move (st_listV_w (wt p0)) p0 rfl rfl rfl (by decide) (fun f0 o0 => ?_)
     refine r_move (st_listV_w (wt o0)) o0 rfl rfl rfl (by decide) (fun f0 p0 => ?_)
     refine r_byte (i := k) (st_listV_w (wt p0)) p0 rfl rfl rfl rfl Tryd.underlying9 (by omega) (by omega) (by decide) (fun f0 o0 => ?_)
     refine r_lss (st_listV_w (wt o0)) o0 rfl rfl rfl rfl (by decide) (fun f0 p0 => ?_)
     refine r_move (st_listV_w (wt p0)) p0 rfl rfl rfl (by decide) (fun f0 o0 => ?_)
     rcases Decidable.em (((byteAt s k : Nat) : Int) < 48) with f0 | f0
     ·
      have p0 := o0.setb (d := 34) (b := true) rfl (decide_eq_true f0)
      refine sps p0 (wff p0) (fun i0 q0 => ?_)
      refine sps q0 (wff q0) (fun i0 p0 => ?_)
      refine sps p0 (wff p0) (fun i0 q0 => ?_)
      refine sps q0 (wff q0) (fun i0 p0 => ?_)
      refine r_pick_t (st_listV_w (wt p0)) p0 rfl rfl rfl rfl (by decide) (fun i0 q0 => ?_)
      refine r_pick_t sv q0 rfl rfl rfl rfl (by decide) (fun i0 p0 => ?_)
      refine wpList_nil ?_
      exact x_then_n ⟨(p0.sub (rc rfl (rc rfl (rc (rb rfl (by (simp only [n0, decide_eq_true f0, if_pos f0, bl]; done))) (rc rfl rnl))))), m0⟩
     ·
      have p0 := o0.setb (d := 34) (b := false) rfl (decide_eq_false f0)
      refine r_move (st_listV_w (wt p0)) p0 rfl rfl rfl (by decide) (fun o0 i0 => ?_)
      refine r_move (st_listV_w (wt i0)) i0 rfl rfl rfl (by decide) (fun o0 p0 => ?_)
      refine r_byte (i := k) (st_listV_w (wt p0)) p0 rfl rfl rfl rfl Tryd.underlying9 (by omega) (by omega) (by decide) (fun o0 i0 => ?_)
      refine r_gtr (st_listV_w (wt i0)) i0 rfl rfl rfl rfl (by decide) (fun o0 p0 => ?_)
      refine r_pick_f (st_listV_w (wt p0)) p0 rfl rfl rfl rfl (by decide) (fun o0 i0 => ?_)
      refine r_pick_t sv i0 rfl rfl rfl rfl (by decide) (fun o0 p0 => ?_)
      refine wpList_nil ?_
      exact x_then_n ⟨(p0.sub (rc rfl (rc rfl (rc (rb rfl (by (simp only [n0, decide_eq_false f0, if_neg f0, bl]; done))) (rc rfl rnl))))), m0⟩
   rintro p0 f0 ⟨n0, m0⟩
   refine wpList_nil (x_then_n (k0 _ _ ?_))
   rcases Bool.eq_false_or_eq_true (((!(letN (byteAt s k))) && ((decide (((byteAt s k : Nat) : Int) < 48)) || (decide (57 < ((byteAt s k : Nat) : Int)))))) with k0 | k0
   ·
    have f0 := and_tl k0
    have p0 := not_t f0
    have p0 := and_tr k0
    have f0 := p0
    try simp only [Bool.or_eq_true, Bool.and_eq_true, Bool.not_eq_true', Bool.not_eq_false', decide_eq_true_eq, decide_eq_false_iff_not, Bool.or_eq_false_iff, Bool.and_eq_false_iff] at f0
    have f0 := n0.setb (d := 40) (b := true) rfl k0
    refine wp_cond_true (f0.ev rfl) ?_
    refine wsc (fun p0 o0 => ?_)
    refine asg f0 (fun p0 i0 => ?_)
    refine wpList_nil (x_then_n (o0 _ _ ?_))
    refine wp_ret ?_
    refine x_block_r ?_
    refine x_then_r ?_
    refine x_then_r ?_
    refine x_block_r ?_
    refine x_then_r ?_
    refine e_ret1 i0 rfl rfl rfl ?_
    refine ⟨?_, m0.fr⟩
    exact congrArg Ending.returned (ret_b (by exact (rname_bad (k := k) (by omega) (by assumption) (by omega)).symm))
   ·
    have i0 := k0
    try simp only [Bool.or_eq_true, Bool.and_eq_true, Bool.not_eq_true', Bool.not_eq_false', decide_eq_true_eq, decide_eq_false_iff_not, Bool.or_eq_false_iff, Bool.and_eq_false_iff] at i0
    have o0 := n0.setb (d := 40) (b := false) rfl k0
    refine wp_cond_false (o0.ev rfl) ?_
    refine wp_skip ?_
    refine x_block_n ?_
    refine x_then_n (h0 _ _ ?_)
    refine c_region ?_
    refine mv o0 (fun h0 k0 => ?_)
    refine r_add (z := ((k + 1 : Nat) : Int)) sv k0 rfl rfl rfl rfl (by decide) (by omega) (by omega) (by omega) (fun h0 o0 => ?_)
    refine asg o0 (fun h0 k0 => ?_)
    refine wpList_nil ?_
    exact ⟨_, by omega, k + 1, (k0.sub (rc rfl (rc rfl (rc rfl rnl)))), m0, by omega, nameTo_step hi (rname_step (by assumption) (by rcases i0 with h | h; exact .inl h; exact .inr (by omega))), rfl⟩
  ·
   have k0 := c0.setb (d := 21) (b := false) rfl (decide_eq_false j0)
   refine wp_cond_false (k0.ev rfl) ?_
   refine wp_exit ?_
   refine x_then_e ?_
   refine x_then_e ?_
   refine x_block_eq ?_
   refine x_then_n (d0 _ _ ?_)
   refine wsc (fun d0 j0 => ?_)
   refine asg k0 (fun d0 c0 => ?_)
   refine wpList_nil (x_then_n (j0 _ _ ?_))
   refine wp_ret ?_
   refine e_ret1 c0 rfl rfl rfl ?_
   refine ⟨?_, b0.fr⟩
   exact congrArg Ending.returned (ret_b (by exact (rname_end hi (by omega) (by omega) (by omega)).symm))
set_option maxRecDepth 100000 in
set_option maxHeartbeats 1000000 in
theorem rplain_calls (w0 : World) (Z : Nat → Prop) (hZ : ∀ k, Z k → k < w0.heap.size) (n : Nd)  :
    Calls Tryd.prog 79 [.agg #[.int .i64 (n.K), .int .i64 (n.N), .int .i64 (n.M), .string n.S]].toArray w0 (fun e w' => e = .returned (.bool (plainB n)) ∧ Fr none_ w0 w') := by
 have b0 := s0 (M := none_) hZ zn
 refine c_enter Tryd.func79 rfl Tryd.ntmps79 rfl (fun c0 d0 => ?_)
 refine wsc (fun c0 f0 => ?_)
 refine m_box (cs := [.int .i64 (n.K), .int .i64 (n.N), .int .i64 (n.M), .string n.S]) sv d0 b0 rfl rfl rfl rfl (by decide) (fun c0 h0 i0 j0 k0 => ?_)
 refine asg j0 (fun h0 c0 => ?_)
 refine wpList_nil (x_then_n (f0 _ _ ?_))
 refine wsc (fun f0 h0 => ?_)
 refine m_field (j' := 1) sv c0 rfl rfl rfl Tryd.underlying32 rfl sz3 rfl rfl (by decide) (fun f0 j0 => ?_)
 refine m_load (i := 0) sv j0 k0 rfl rfl rfl rfl rfl Tryd.underlying3 rfl (by decide) (fun f0 c0 => ?_)
 refine r_eql sv c0 rfl rfl rfl rfl (by decide) (fun f0 j0 => ?_)
 refine mv j0 (fun f0 c0 => ?_)
 refine l_join (fun ga gw => Reg ga 16 [(1, .pointer (some ⟨i0, 0, none⟩)), (2, .bool false), (10, .bool ((decide ((n.N) = 0)) && (decide ((n.M) = 0)))), (1000000, .bool false)] ∧ St w0 Z none_ gw [.box i0 32 [.int .i64 (n.K), .int .i64 (n.N), .int .i64 (n.M), .string n.S]] []) 4 ?_ ?_
 ·
  rcases Decidable.em ((n.N) = 0) with f0 | f0
  ·
   have j0 := c0.setb (d := 6) (b := true) rfl (decide_eq_true f0)
   refine m_field (j' := 2) (st_listV_w (wt j0)) j0 rfl rfl rfl Tryd.underlying32 rfl sz3 rfl rfl (by decide) (fun d0 b0 => ?_)
   refine m_load (i := 0) (st_listV_w (wt b0)) b0 k0 rfl rfl rfl rfl rfl Tryd.underlying3 rfl (by decide) (fun d0 j0 => ?_)
   refine r_eql (st_listV_w (wt j0)) j0 rfl rfl rfl rfl (by decide) (fun d0 b0 => ?_)
   refine r_pick_t sv b0 rfl rfl rfl rfl (by decide) (fun d0 j0 => ?_)
   refine wpList_nil ?_
   exact x_then_n ⟨(j0.sub (rc rfl (rc rfl (rc (rb rfl (by (simp only [decide_eq_true f0, if_pos f0, bl]; done))) (rc rfl rnl))))), k0⟩
  ·
   have j0 := c0.setb (d := 6) (b := false) rfl (decide_eq_false f0)
   refine sps j0 (wff j0) (fun c0 d0 => ?_)
   refine sps d0 (wff d0) (fun c0 j0 => ?_)
   refine sps j0 (wff j0) (fun c0 d0 => ?_)
   refine r_pick_f sv d0 rfl rfl rfl rfl (by decide) (fun c0 j0 => ?_)
   refine wpList_nil ?_
   exact x_then_n ⟨(j0.sub (rc rfl (rc rfl (rc (rb rfl (by (simp only [decide_eq_false f0, if_neg f0, bl]; done))) (rc rfl rnl))))), k0⟩
 rintro j0 f0 ⟨k0, c0⟩
 refine mv k0 (fun f0 j0 => ?_)
 refine l_join (fun ga gw => Reg ga 16 [(2, .bool false), (15, .bool (((decide ((n.N) = 0)) && (decide ((n.M) = 0))) && (decide (n.S = (⟨#[]⟩ : ByteArray))))), (1000000, .bool false)] ∧ St w0 Z none_ gw [.box i0 32 [.int .i64 (n.K), .int .i64 (n.N), .int .i64 (n.M), .string n.S]] []) 4 ?_ ?_
 ·
  rcases Bool.eq_false_or_eq_true (((decide ((n.N) = 0)) && (decide ((n.M) = 0)))) with i0 | i0
  ·
   have f0 := and_tl i0
   have k0 := of_decide_eq_true f0
   have k0 := and_tr i0
   have f0 := of_decide_eq_true k0
   have f0 := j0.setb (d := 11) (b := true) rfl i0
   refine m_field (j' := 3) (st_listV_w (wt f0)) f0 rfl rfl rfl Tryd.underlying32 rfl sz9 rfl rfl (by decide) (fun k0 d0 => ?_)
   refine m_load (i := 0) (st_listV_w (wt d0)) d0 c0 rfl rfl rfl rfl rfl Tryd.underlying9 rfl (by decide) (fun k0 f0 => ?_)
   refine r_eqlS (st_listV_w (wt f0)) f0 rfl rfl rfl rfl (by decide) (fun k0 d0 => ?_)
   refine r_pick_t sv d0 rfl rfl rfl rfl (by decide) (fun k0 f0 => ?_)
   refine wpList_nil ?_
   exact x_then_n ⟨(f0.sub (rc rfl (rc (rb rfl (by (simp only [i0, bl]; done))) (rc rfl rnl)))), c0⟩
  ·
   have f0 := i0
   try simp only [Bool.or_eq_true, Bool.and_eq_true, Bool.not_eq_true', Bool.not_eq_false', decide_eq_true_eq, decide_eq_false_iff_not, Bool.or_eq_false_iff, Bool.and_eq_false_iff] at f0
   have f0 := j0.setb (d := 11) (b := false) rfl i0
   refine sps f0 (wff f0) (fun j0 k0 => ?_)
   refine sps k0 (wff k0) (fun j0 f0 => ?_)
   refine sps f0 (wff f0) (fun j0 k0 => ?_)
   refine r_pick_f sv k0 rfl rfl rfl rfl (by decide) (fun j0 f0 => ?_)
   refine wpList_nil ?_
   exact x_then_n ⟨(f0.sub (rc rfl (rc (rb rfl (by (simp only [i0, bl]; done))) (rc rfl rnl)))), c0⟩
 rintro f0 i0 ⟨c0, j0⟩
 refine asg c0 (fun i0 f0 => ?_)
 refine wpList_nil (x_then_n (h0 _ _ ?_))
 refine wp_ret ?_
 refine e_ret1 f0 rfl rfl rfl ?_
 refine ⟨?_, j0.fr⟩
 exact congrArg Ending.returned (ret_b (by rfl))
end Go.Proofs.YtobgdeffhdefeaaDoor
