import Derived.Test.YtpfmnpaifchleaaDoorYmc
namespace Go.Proofs.YtpfmnpaifchleaaDoor
set_option linter.unusedSimpArgs false
set_option linter.unusedVariables false
section
/- Hypotheses of an eliminator: what they are. -/
open Go Go.RowKit
def unE (e : Int) (p : List (List Nd)) : Nat → Int
 | 0 => e
 | k + 1 => upE (unE e p k) (nthL p k) 1 (if k = 0 then 1 else 0)
def unP (e : Int) (p : List (List Nd)) : Nat → List (List Nd)
 | 0 => []
 | k + 1 => unP e p k ++ [upL (unE e p k) (nthL p k) 1 (if k = 0 then 1 else 0)]
def unA (e : Int) (p : List (List Nd)) (a : List Nd) : Int := upE (unE e p (p.length - 1)) a 1 0
def unT (e : Int) (p : List (List Nd)) (t a : List Nd) : List Nd := noL (unA e p a) ⟨5, 0, 0, ⟨#[]⟩⟩ [upL (unE e p (p.length - 1)) a 1 0, plL (unA e p a) (nth t (t.length - 1)).N (noL (unA e p a) ⟨0, 0, 0, ⟨#[]⟩⟩ [])]
def unL (e : Int) (n : Nd) (p : List (List Nd)) (t a : List Nd) : List Nd := noL (unA e p a) ⟨4, 0, 0, ⟨#[]⟩⟩ [nthL (agA t) 0, noL (unA e p a) n (unP e p (p.length - 1) ++ [unT e p t a])]
theorem unP_len (e : Int) (p : List (List Nd)) : ∀ k, (unP e p k).length = k
 | 0 => rfl
 | k + 1 => by simp only [unP, List.length_append, unP_len e p k, List.length_singleton]
theorem unP_bd {e : Int} {p : List (List Nd)} (hp : ∀ x ∈ p, sml x ∧ x.length ≤ 4000) : ∀ k, ∀ x ∈ unP e p k, sml x ∧ x.length ≤ 4000
 | 0 => fun x hx => by cases hx
 | k + 1 => fun x hx => by
  simp only [unP, List.mem_append, List.mem_singleton] at hx
  rcases hx with hx | rfl
  · exact unP_bd hp k x hx
  ·
   have h1 : sml (nthL p k) ∧ (nthL p k).length ≤ 4000 := nthL_any (Q := fun x => sml x ∧ x.length ≤ 4000) hp ⟨sml_nil, by simp⟩ k
   exact ⟨upL_sml h1.1, Nat.le_trans upL_len h1.2⟩
theorem un_Ys {Ys : List Sl} {e : Int} {p : List (List Nd)} {k : Nat} (hp : ∀ x ∈ p, sml x ∧ x.length ≤ 4000) (hY : lsts Ys = unP e p k) : ∀ s ∈ Ys, s.2.2.length ≤ 4000 := fun s hs => by
 have h : s.2.2 ∈ lsts Ys := List.mem_map_of_mem hs
 rw [hY] at h
 exact (unP_bd hp k _ h).2
theorem un_b1 {Ys : List Sl} {z : Sl} (h : ∀ s ∈ Ys, s.2.2.length ≤ 4000) (hz : z.2.2.length ≤ 5000) : ∀ s ∈ Ys ++ [z], s.2.2.length ≤ 100000 := fun s hs => by
 rcases List.mem_append.1 hs with hs | hs
 · exact Nat.le_trans (h s hs) (by decide)
 · rw [List.mem_singleton] at hs; subst hs; omega
theorem un_b2 {A B : Option Addr} {c d : Nat} {x y : List Nd} (hx : x.length ≤ 100000) (hy : y.length ≤ 100000) : ∀ s ∈ [((A, c, x) : Sl), ((B, d, y) : Sl)], s.2.2.length ≤ 100000 := fun s hs => by
 simp only [List.mem_cons, List.not_mem_nil, or_false] at hs
 rcases hs with rfl | rfl
 · exact hx
 · exact hy
theorem un_told {e : Int} {n : Nd} {A B : Option Addr} {c d : Nat} {x y : List Nd} : (noL e n (lsts [((A, c, x) : Sl), ((B, d, y) : Sl)])).length ≤ x.length + y.length + 1 := by
 refine Nat.le_trans noL_len ?_
 simp [lsts]
theorem un_flat {Ys : List Sl} {z : Sl} (h : ∀ s ∈ Ys, s.2.2.length ≤ 4000) (hz : z.2.2.length ≤ 5000) (hk : Ys.length ≤ 9) : (lsts (Ys ++ [z])).flatten.length ≤ 50000 := by
 have h1 : (lsts Ys).flatten.length ≤ Ys.length * 4000 := by
  clear hk
  induction Ys with
  | nil => simp [lsts]
  | cons a t ih =>
   have h2 := h a (by simp)
   have h3 := ih (fun s hs => h s (by simp [hs]))
   rw [lsts_cons1, List.flatten_cons, List.length_append, List.length_cons, Nat.add_mul]
   omega
 rw [lsts_app, List.flatten_append, List.length_append]
 have h4 : (lsts [z]).flatten.length = z.2.2.length := by simp [lsts]
 have h5 : Ys.length * 4000 ≤ 9 * 4000 := Nat.mul_le_mul_right _ hk
 omega
def hyK (n : Nd) (p : List (List Nd)) (t a : List Nd) (e : Int) : Option (List Nd × Int) :=
 if kdA n.S t = 0 then none else if kdA n.S t = 1 then some (noL e n (p.set (p.length - 1) a), e) else some (unL e n p t a, unA e p a)
def hyR (n : Nd) (p T Q : List (List Nd)) (e : Int) : Nat → Int × List (List Nd × Int)
 | 0 => (e, [])
 | k + 1 => match hyK n p (nthL T k) (nthL Q k) (hyR n p T Q e k).1 with
  | none => hyR n p T Q e k
  | some x => (x.2, (hyR n p T Q e k).2 ++ [x])
def hyE (n : Nd) (p T Q : List (List Nd)) (e : Int) (k : Nat) : Int := (hyR n p T Q e k).1
def hyP (n : Nd) (p T Q : List (List Nd)) (e : Int) (k : Nat) : List (List Nd) := (hyR n p T Q e k).2.map (·.1)
def hyAt (n : Nd) (p T Q : List (List Nd)) (e : Int) (j : Nat) : Int := ((hyR n p T Q e Q.length).2.getD j ([], 0)).2
section
variable {n : Nd} {p T Q : List (List Nd)} {e : Int}
theorem hy_none {k : Nat} (h : kdA n.S (nthL T k) = 0) : hyE n p T Q e (k + 1) = hyE n p T Q e k ∧ hyP n p T Q e (k + 1) = hyP n p T Q e k := by
 have hK : hyK n p (nthL T k) (nthL Q k) (hyR n p T Q e k).1 = none := if_pos h
 have hR : hyR n p T Q e (k + 1) = hyR n p T Q e k := by rw [hyR, hK]
 unfold hyE hyP
 rw [hR]
 exact ⟨rfl, rfl⟩
theorem hy_pre {k : Nat} : ∀ d, (hyR n p T Q e k).2 <+: (hyR n p T Q e (k + d)).2
 | 0 => List.prefix_rfl
 | d + 1 => by
  refine (hy_pre d).trans ?_
  rw [show k + (d + 1) = (k + d) + 1 from rfl, hyR]
  split
  · exact List.prefix_rfl
  · exact List.prefix_append _ _
theorem hy_some {k : Nat} {x : List Nd} {e' : Int} (hk : k < Q.length) (h : hyK n p (nthL T k) (nthL Q k) (hyE n p T Q e k) = some (x, e')) :
  hyP n p T Q e k ++ [x] = hyP n p T Q e (k + 1) ∧ e' = hyE n p T Q e (k + 1) ∧ e' = hyAt n p T Q e (hyP n p T Q e k).length ∧ hyP n p T Q e k ++ [x] <+: hyP n p T Q e Q.length := by
 have hR : hyR n p T Q e (k + 1) = (e', (hyR n p T Q e k).2 ++ [(x, e')]) := by
  rw [hyR]
  unfold hyE at h
  rw [h]
 have h1 : hyP n p T Q e k ++ [x] = hyP n p T Q e (k + 1) := by
  unfold hyP
  rw [hR, List.map_append]
  rfl
 have h2 := hy_pre (n := n) (p := p) (T := T) (Q := Q) (e := e) (k := k + 1) (Q.length - (k + 1))
 rw [show k + 1 + (Q.length - (k + 1)) = Q.length by omega, hR] at h2
 refine ⟨h1, ?_, ?_, ?_⟩
 ·
  unfold hyE
  rw [hR]
 ·
  unfold hyAt hyP
  obtain ⟨r, hr⟩ := h2
  rw [← hr, List.length_map, List.append_assoc]
  simp [List.getD_eq_getElem?_getD]
 ·
  rw [h1]
  unfold hyP
  rw [hR]
  obtain ⟨r, hr⟩ := h2
  rw [← hr]
  exact ⟨r.map (·.1), by simp⟩
theorem hyK_one {t a : List Nd} (h : kdA n.S t = 1) : hyK n p t a e = some (noL e n (p.set (p.length - 1) a), e) := by
 unfold hyK
 rw [if_neg (by omega), if_pos h]
theorem hyK_two {t a : List Nd} (h0 : ¬ kdA n.S t = 0) (h : ¬ kdA n.S t = 1) : hyK n p t a e = some (unL e n p t a, unA e p a) := by
 unfold hyK
 rw [if_neg h0, if_neg h]
theorem kd_two {s : ByteArray} {t : List Nd} (h0 : ¬ kdA s t = 0) (h1 : ¬ kdA s t = 1) : kdA s t = 2 ∧ chk t = 0 ∧ (nth t (t.length - 1)).K = 3 := by
 unfold kdA at h0 h1 ⊢
 split at h0
 · exact absurd rfl h0
 ·
  rename_i hc
  rw [if_neg hc] at h1 ⊢
  split at h1
  · exact absurd rfl h1
  ·
   rename_i ho
   rw [if_neg ho] at h0 ⊢
   split at h0
   ·
    rename_i h3
    rw [if_pos h3]
    exact ⟨rfl, Classical.not_not.1 hc, h3.1⟩
   · exact absurd rfl h0
end
theorem cons_at {rk : List Tl} {N k : Nat} {P : List Nd → Prop} (h : ∀ l ∈ lstsT rk, ∀ y ∈ l, P y) (hN : N < rk.length) (hk : k < (nthT rk N).2.2.length) : P (nthS (nthT rk N).2.2 k).2.2 :=
 h _ (List.mem_map_of_mem (nthT_mem hN)) _ (nthS_in hk)
def hyOut (n : Nd) (p T Q : List (List Nd)) (e : Int) (o : List Nd) (j : Nat) : List Nd := ((hyR n p T Q e Q.length).2.take j).foldl (fun o y => noL y.2 ⟨5, 0, 0, ⟨#[]⟩⟩ [o, y.1]) o
section
variable {n : Nd} {p T Q : List (List Nd)} {e : Int} {o : List Nd} {pre : List (List Nd)} {x : List Nd}
theorem hy_at (h : pre ++ [x] <+: hyP n p T Q e Q.length) : pre.length < (hyR n p T Q e Q.length).2.length ∧ (hyR n p T Q e Q.length).2[pre.length]? = some (x, hyAt n p T Q e pre.length) := by
 obtain ⟨r, hr⟩ := h
 unfold hyP at hr
 have hl := congrArg List.length hr
 simp only [List.length_append, List.length_map, List.length_singleton] at hl
 have h1 : ((hyR n p T Q e Q.length).2.map (·.1))[pre.length]? = some x := by rw [← hr]; simp
 rw [List.getElem?_map] at h1
 refine ⟨by omega, ?_⟩
 cases hq : (hyR n p T Q e Q.length).2[pre.length]? with
 | none => rw [hq] at h1; cases h1
 | some y =>
  rw [hq] at h1
  have hy : y.1 = x := Option.some.inj h1
  have ha : hyAt n p T Q e pre.length = y.2 := by unfold hyAt; rw [List.getD_eq_getElem?_getD, hq]; rfl
  rw [ha, ← hy]
theorem hyOut_step (h : pre ++ [x] <+: hyP n p T Q e Q.length) : hyOut n p T Q e o (pre ++ [x]).length = noL (hyAt n p T Q e pre.length) ⟨5, 0, 0, ⟨#[]⟩⟩ [hyOut n p T Q e o pre.length, x] := by
 obtain ⟨h1, h2⟩ := hy_at h
 unfold hyOut
 rw [List.length_append, List.length_singleton, List.take_add_one, h2, List.foldl_append]
 rfl
theorem hyR_le : ∀ k, (hyR n p T Q e k).2.length ≤ k
 | 0 => Nat.le_refl _
 | k + 1 => by
  have := hyR_le k
  rw [hyR]
  split
  · omega
  · simp only [List.length_append, List.length_singleton]; omega
theorem unL_sz {t a : List Nd} (hn : n.S.size < 1000000) (hp : ∀ x ∈ p, sml x ∧ x.length ≤ 4000) (hp9 : p.length ≤ 9) (ht : sml t) (ha : sml a) (hla : a.length ≤ 4000) (hlt : t.length ≤ 4000) : sml (unL e n p t a) ∧ (unL e n p t a).length ≤ 60000 := by
 have h0 : sml ([] : List Nd) ∧ ([] : List Nd).length ≤ 4000 := ⟨sml_nil, by simp⟩
 have hag : sml (nthL (agA t) 0) ∧ (nthL (agA t) 0).length ≤ 4000 := nthL_any (Q := fun x => sml x ∧ x.length ≤ 4000) (fun x hx => by
  obtain ⟨q1, q2⟩ := ag_sml ht x hx
  exact ⟨q1, by omega⟩) h0 0
 have hT : sml (unT e p t a) ∧ (unT e p t a).length ≤ 5000 := by
  have z1 : sml (upL (unE e p (p.length - 1)) a 1 0) ∧ (upL (unE e p (p.length - 1)) a 1 0).length ≤ 4000 := ⟨upL_sml ha, Nat.le_trans upL_len hla⟩
  have z2 : sml (plL (unA e p a) (nth t (t.length - 1)).N (noL (unA e p a) ⟨0, 0, 0, ⟨#[]⟩⟩ [])) ∧ (plL (unA e p a) (nth t (t.length - 1)).N (noL (unA e p a) ⟨0, 0, 0, ⟨#[]⟩⟩ [])).length ≤ 2 := by
   refine ⟨plL_sml (noL_sml (by decide) (by intro x hx; cases hx)), Nat.le_trans plL_len ?_⟩
   have := noL_len (e := unA e p a) (n := ⟨0, 0, 0, ⟨#[]⟩⟩) (p := [])
   simpa using this
  refine ⟨noL_sml (by decide) (by
   intro x hx
   simp only [List.mem_cons, List.not_mem_nil, or_false] at hx
   rcases hx with rfl | rfl
   · exact z1.1
   · exact z2.1), Nat.le_trans noL_len ?_⟩
  have := z1.2
  have := z2.2
  simp
  omega
 have hU := unP_bd (e := e) hp (p.length - 1)
 have hin : sml (noL (unA e p a) n (unP e p (p.length - 1) ++ [unT e p t a])) ∧ (noL (unA e p a) n (unP e p (p.length - 1) ++ [unT e p t a])).length ≤ 50000 := by
  refine ⟨noL_sml hn (fun x hx => ?_), Nat.le_trans noL_len ?_⟩
  ·
   rcases List.mem_append.1 hx with hx | hx
   · exact (hU x hx).1
   · rw [List.mem_singleton] at hx; subst hx; exact hT.1
  ·
   have h1 : ∀ (l : List (List Nd)), (∀ x ∈ l, x.length ≤ 4000) → l.flatten.length ≤ l.length * 4000 := fun l => by
    induction l with
    | nil => simp
    | cons a t ih =>
     intro h
     have q1 := h a (by simp)
     have q2 := ih (fun x hx => h x (by simp [hx]))
     rw [List.flatten_cons, List.length_append, List.length_cons, Nat.add_mul]
     omega
   have h2 := h1 _ (fun x hx => (hU x hx).2)
   rw [unP_len] at h2
   have h3 : (p.length - 1) * 4000 ≤ 8 * 4000 := Nat.mul_le_mul_right _ (by omega)
   have h4 := hT.2
   rw [List.flatten_append, List.length_append]
   simp only [List.flatten_cons, List.flatten_nil, List.append_nil]
   omega
 refine ⟨noL_sml (by decide) (by
  intro x hx
  simp only [List.mem_cons, List.not_mem_nil, or_false] at hx
  rcases hx with rfl | rfl
  · exact hag.1
  · exact hin.1), Nat.le_trans noL_len ?_⟩
 have := hag.2
 have := hin.2
 simp
 omega
theorem hyR_sz (hn : n.S.size < 1000000) (hp : ∀ x ∈ p, sml x ∧ x.length ≤ 4000) (hp9 : p.length ≤ 9) (hT : ∀ x ∈ T, sml x ∧ x.length ≤ 4000) (hQ : ∀ x ∈ Q, sml x ∧ x.length ≤ 4000) : ∀ k, ∀ y ∈ (hyR n p T Q e k).2, sml y.1 ∧ y.1.length ≤ 60000
 | 0 => fun y hy => by cases hy
 | k + 1 => fun y hy => by
  have h0 : sml ([] : List Nd) ∧ ([] : List Nd).length ≤ 4000 := ⟨sml_nil, by simp⟩
  have hT' := nthL_any (Q := fun x => sml x ∧ x.length ≤ 4000) hT h0 k
  have hQ' := nthL_any (Q := fun x => sml x ∧ x.length ≤ 4000) hQ h0 k
  rw [hyR] at hy
  split at hy
  · exact hyR_sz hn hp hp9 hT hQ k y hy
  ·
   rename_i z hz
   rcases List.mem_append.1 hy with hy | hy
   · exact hyR_sz hn hp hp9 hT hQ k y hy
   ·
    rw [List.mem_singleton] at hy
    subst hy
    unfold hyK at hz
    split at hz
    · cases hz
    ·
     split at hz
     ·
      cases hz
      refine ⟨noL_sml hn (fun x hx => ?_), Nat.le_trans noL_len ?_⟩
      ·
       rcases List.mem_or_eq_of_mem_set hx with hx | rfl
       · exact (hp x hx).1
       · exact hQ'.1
      ·
       have h1 : ∀ (l : List (List Nd)), (∀ x ∈ l, x.length ≤ 4000) → l.flatten.length ≤ l.length * 4000 := fun l => by
        induction l with
        | nil => simp
        | cons a t ih =>
         intro h
         have q1 := h a (by simp)
         have q2 := ih (fun x hx => h x (by simp [hx]))
         rw [List.flatten_cons, List.length_append, List.length_cons, Nat.add_mul]
         omega
       have h2 := h1 (p.set (p.length - 1) (nthL Q k)) (fun x hx => by
        rcases List.mem_or_eq_of_mem_set hx with hx | rfl
        · exact (hp x hx).2
        · exact hQ'.2)
       rw [List.length_set] at h2
       have h3 : p.length * 4000 ≤ 9 * 4000 := Nat.mul_le_mul_right _ hp9
       omega
     ·
      cases hz
      exact unL_sz hn hp hp9 hT'.1 hQ'.1 hQ'.2 hT'.2
theorem hyOut_len (hb : ∀ y ∈ (hyR n p T Q e Q.length).2, sml y.1 ∧ y.1.length ≤ 60000) : ∀ j, (hyOut n p T Q e o j).length ≤ o.length + min j Q.length * 60001
 | 0 => by simp [hyOut]
 | j + 1 => by
  have ih := hyOut_len hb j
  unfold hyOut at ih ⊢
  have hl := hyR_le (n := n) (p := p) (T := T) (Q := Q) (e := e) Q.length
  rw [List.take_add_one, List.foldl_append]
  cases hq : (hyR n p T Q e Q.length).2[j]? with
  | none =>
   refine Nat.le_trans ih ?_
   have : min j Q.length ≤ min (j + 1) Q.length := by omega
   have := Nat.mul_le_mul_right 60001 this
   omega
  | some y =>
   have hj : j < (hyR n p T Q e Q.length).2.length := (List.getElem?_eq_some_iff.1 hq).1
   have hy := hb y (List.mem_of_getElem? hq)
   simp only [Option.toList_some, List.foldl_cons, List.foldl_nil]
   refine Nat.le_trans noL_len ?_
   simp only [List.flatten_cons, List.flatten_nil, List.append_nil, List.length_append]
   have e1 : min (j + 1) Q.length = min j Q.length + 1 := by omega
   rw [e1, Nat.add_mul]
   omega
theorem hyOut_sml (hb : ∀ y ∈ (hyR n p T Q e Q.length).2, sml y.1 ∧ y.1.length ≤ 60000) (ho : sml o) (j : Nat) : sml (hyOut n p T Q e o j) := by
 unfold hyOut
 have : ∀ (l : List (List Nd × Int)) (o : List Nd), sml o → (∀ y ∈ l, sml y.1) → sml (l.foldl (fun o y => noL y.2 ⟨5, 0, 0, ⟨#[]⟩⟩ [o, y.1]) o) := fun l => by
  induction l with
  | nil => intro o ho _; exact ho
  | cons y l ih =>
   intro o ho hl
   refine ih _ (noL_sml (by decide) (by
    intro x hx
    simp only [List.mem_cons, List.not_mem_nil, or_false] at hx
    rcases hx with rfl | rfl
    · exact ho
    · exact hl y (by simp))) (fun z hz => hl z (by simp [hz]))
 exact this _ _ ho fun y hy => (hb y (List.mem_of_mem_take hy)).1
end
def elG (n x : Nd) (p q : List (List Nd)) (c : List (List (List Nd))) : List Nd × Int :=
 if x.S = n.S ∧ n.M = (c.length : Int) ∧ x.N < (c.length : Int) ∧ ((nthLL c x.N.toNat).length : Int) = x.M then
  (hyOut n p (nthLL c x.N.toNat) q 0 (apK (nthL p (x.N + 1).toNat) q q.length) q.length, hyE n p (nthLL c x.N.toNat) q 0 q.length) else ([], 120)
theorem hyOut_all {n : Nd} {p T Q : List (List Nd)} {e : Int} {o : List Nd} : hyOut n p T Q e o (hyP n p T Q e Q.length).length = hyOut n p T Q e o Q.length := by
 have hl := hyR_le (n := n) (p := p) (T := T) (Q := Q) (e := e) Q.length
 unfold hyOut hyP
 rw [List.length_map, List.take_length, List.take_of_length_le hl]
theorem hyOut_none {n : Nd} {p T Q : List (List Nd)} {e : Int} {o : List Nd} (h : hyP n p T Q e Q.length = []) : hyOut n p T Q e o Q.length = o := by
 rw [← hyOut_all, h]
 simp [hyOut]
theorem hyX_bd {n : Nd} {p T Q : List (List Nd)} {e : Int} {pre : List (List Nd)} {x : List Nd} (hb : ∀ y ∈ (hyR n p T Q e Q.length).2, sml y.1 ∧ y.1.length ≤ 60000) (h : pre ++ [x] <+: hyP n p T Q e Q.length) : sml x ∧ x.length ≤ 60000 := by
 obtain ⟨_, h2⟩ := hy_at h
 exact hb _ (List.mem_of_getElem? h2)
theorem hyOut_none' {n : Nd} {p T : List (List Nd)} {rq : List Sl} {e : Int} {o : List Nd} (h : hyP n p T (lsts rq) e rq.length = []) : hyOut n p T (lsts rq) e o rq.length = o := by
 have := hyOut_none (o := o) (n := n) (p := p) (T := T) (Q := lsts rq) (e := e) (by rw [lsts_len]; exact h)
 rwa [lsts_len] at this
theorem hyOut_all' {n : Nd} {p T : List (List Nd)} {rq : List Sl} {e : Int} {o : List Nd} : hyOut n p T (lsts rq) e o (hyP n p T (lsts rq) e rq.length).length = hyOut n p T (lsts rq) e o rq.length := by
 have := hyOut_all (o := o) (n := n) (p := p) (T := T) (Q := lsts rq) (e := e)
 rwa [lsts_len] at this
theorem up10 {p : List Sl} (h : ∀ s ∈ p, s.2.2.length ≤ 100000) : ∀ s ∈ p, s.2.2.length ≤ 1000000 := fun s hs => Nat.le_trans (h s hs) (by decide)
def urG (n x : Nd) (p q : List (List Nd)) (c : List (List (List Nd))) : List Nd × Int := if n.K = 27 ∧ x.K = 26 then elG n x p q c else urR n x p q
def ugR (t : List Nd) (c : List (List (List Nd))) : List Nd × Int := urG (nth t (t.length - 1)) (nth (tgL t) ((tgL t).length - 1)) (agA t) (agA (tgL t)) c
def ugE (t : List Nd) (c : List (List (List Nd))) : Int := if ¬ chk t = 0 then chk t else if tgK (nth t (t.length - 1)) < 0 then 120 else if (ugR t c).2 = 0 then chk (ugR t c).1 else (ugR t c).2
def ugA (t : List Nd) (c : List (List (List Nd))) : List Nd := if ¬ chk t = 0 then [] else if tgK (nth t (t.length - 1)) < 0 then [] else if (if (ugR t c).2 = 0 then chk (ugR t c).1 else (ugR t c).2) = 0 then (ugR t c).1 else []
theorem ug_err {t : List Nd} {c : List (List (List Nd))} (h : ¬ chk t = 0) : ugE t c = chk t ∧ ugA t c = [] := ⟨if_pos h, if_pos h⟩
theorem ug_neg {t : List Nd} {c : List (List (List Nd))} (h : chk t = 0) (h1 : tgK (nth t (t.length - 1)) < 0) : ugE t c = 120 ∧ ugA t c = [] := by
 unfold ugE ugA
 exact ⟨(if_neg (by omega)).trans (if_pos h1), (if_neg (by omega)).trans (if_pos h1)⟩
theorem ug_of {t : List Nd} {c : List (List (List Nd))} (h : chk t = 0) (h1 : ¬ tgK (nth t (t.length - 1)) < 0) {R : List Nd × Int} (hR : R = urG (nth t (t.length - 1)) (nth (tgL t) ((tgL t).length - 1)) (agA t) (agA (tgL t)) c) :
  ugE t c = (if R.2 = 0 then chk R.1 else R.2) ∧ ugA t c = if (if R.2 = 0 then chk R.1 else R.2) = 0 then R.1 else [] := by
 subst hR
 unfold ugE ugA
 exact ⟨(if_neg (by omega)).trans (if_neg h1), (if_neg (by omega)).trans (if_neg h1)⟩
theorem elG_sz {n x : Nd} {p q : List (List Nd)} {c : List (List (List Nd))} (hn : n.S.size < 1000000) (hp : ∀ x ∈ p, sml x ∧ x.length ≤ 4000) (hp9 : p.length ≤ 9) (hq : ∀ x ∈ q, sml x ∧ x.length ≤ 4000) (hl : q.length ≤ 9) (hc : ∀ l ∈ c, ∀ y ∈ l, sml y ∧ y.length ≤ 4000) : sml (elG n x p q c).1 ∧ (elG n x p q c).1.length ≤ 1000000 := by
 have hp' : ∀ k, sml (nthL p k) ∧ (nthL p k).length ≤ 4000 := nthL_any (Q := fun x => sml x ∧ x.length ≤ 4000) hp ⟨sml_nil, by simp⟩
 unfold elG
 split
 ·
  have h1 := apK_len (o := nthL p (x.N + 1).toNat) (q := q) (hp' _).2 (fun y hy => (hq y hy).2) q.length (Nat.le_refl _)
  have hT : ∀ y ∈ nthLL c x.N.toNat, sml y ∧ y.length ≤ 4000 := by
   unfold nthLL
   by_cases h : x.N.toNat < c.length
   ·
    intro y hy
    have e : c.getD x.N.toNat [] = c[x.N.toNat] := by simp [h]
    rw [e] at hy
    exact hc _ (List.getElem_mem h) y hy
   ·
    intro y hy
    simp [List.getD_eq_getElem?_getD, List.getElem?_eq_none (by omega : c.length ≤ x.N.toNat)] at hy
  have hb := hyR_sz (n := n) (p := p) (T := nthLL c x.N.toNat) (Q := q) (e := 0) hn hp hp9 hT hq q.length
  refine ⟨hyOut_sml hb (apK_sml (hp' _).1 (fun y hy => (hq y hy).1) _ (Nat.le_refl _)) _, ?_⟩
  have h2 := hyOut_len (o := apK (nthL p (x.N + 1).toNat) q q.length) hb q.length
  rw [Nat.min_self] at h2
  have h3 : q.length * 60001 ≤ 9 * 60001 := Nat.mul_le_mul_right _ hl
  show (hyOut _ _ _ _ _ _ _).length ≤ _
  omega
 · exact ⟨sml_nil, by simp⟩
theorem urG_sz {n x : Nd} {p q : List (List Nd)} {c : List (List (List Nd))} (hn : n.S.size < 1000000) (hp : ∀ x ∈ p, sml x ∧ x.length ≤ 4000) (hp9 : p.length ≤ 9) (hq : ∀ x ∈ q, sml x ∧ x.length ≤ 4000) (hl : q.length ≤ 9) (hc : ∀ l ∈ c, ∀ y ∈ l, sml y ∧ y.length ≤ 4000) : sml (urG n x p q c).1 ∧ (urG n x p q c).1.length ≤ 1000000 := by
 unfold urG
 split
 · exact elG_sz hn hp hp9 hq hl hc
 ·
  obtain ⟨h1, h2⟩ := urR_sz (n := n) (x := x) (p := p) (q := q) hn hp hq
  exact ⟨h1, Nat.le_trans h2 (by decide)⟩
end
section
/- The document's rules, of terms that may have an error. -/
open Go Go.RowKit
theorem own_no {z : ByteArray} {t : List Nd} (h : ¬ ((t.length : Nat) : Int) = 1) : false = decide (t = ownL z) := by
 rw [decide_eq_false]
 intro q
 apply h
 rw [q]
 rfl
theorem own_eq {z : ByteArray} {t : List Nd} (h : ((t.length : Nat) : Int) = 1) : t = [nth t 0] := by
 match t, h with
 | [x], _ => rfl
 | [], h => simp at h
 | _ :: _ :: _, h => simp at h; omega
theorem own_is {z : ByteArray} {t : List Nd} (h : ((t.length : Nat) : Int) = 1) : decide (nth t 0 = (⟨25, 0, 0, z⟩ : Nd)) = decide (t = ownL z) := by
 have e := own_eq (z := z) h
 by_cases q : nth t 0 = (⟨25, 0, 0, z⟩ : Nd)
 ·
  rw [decide_eq_true q, decide_eq_true]
  rw [e, q]
  rfl
 ·
  rw [decide_eq_false q, decide_eq_false]
  intro q2
  apply q
  rw [q2]
  rfl
theorem lsts_snoc {p : List Sl} {k : Nat} (h : k < p.length) : (lsts p).take (k + 1) = (lsts p).take k ++ [(nthS p k).2.2] := by
 have e : (lsts p)[k]? = some (nthS p k).2.2 := by
  unfold lsts nthS
  simp [h]
 rw [List.take_add_one, e]
 rfl
def upB (p : List Bd) : Nat → List Bd
 | 0 => []
 | k + 1 => upB p k ++ [bUp (nthD p k) 1 (if k = 0 then 1 else 0)]
def bX (t : List Nd) : Bd := if (nth t (t.length - 1)).N.tdiv 2 = 1 then ([⟨29, 0, 0, ⟨#[]⟩⟩], 0) else ([⟨0, 0, 0, ⟨#[]⟩⟩], 0)
def bHy (n : Nd) (p : List Bd) (t : List Nd) (a : Bd) (kd : Int) : Bd :=
 if kd = 1 then bOf n (p.take (p.length - 1) ++ [a]) else bOf ⟨4, 0, 0, ⟨#[]⟩⟩ [(nthL (ptL t) 0, 0), bOf n (upB p (p.length - 1) ++ [bOf ⟨5, 0, 0, ⟨#[]⟩⟩ [bUp a 1 0, bX t]])]
theorem upB_len (p : List Bd) : ∀ k, (upB p k).length = k
 | 0 => rfl
 | k + 1 => by simp only [upB, List.length_append, upB_len p k, List.length_singleton]
theorem run_quo2 {P : Program} {w : World} {t : TypeId} {n : Int} (h0 : 0 ≤ n) (hn : n < 4) : (Go.binOp .quo t (.int .i64 n) (.int .i64 2)).run P w = .ok (.int .i64 (n.tdiv 2)) w := by
 have : n = 0 ∨ n = 1 ∨ n = 2 ∨ n = 3 := by omega
 rcases this with rfl | rfl | rfl | rfl <;> rfl
theorem bUp_sz {a : Bd} {n k : Int} (hs : sml a.1) (hl : a.1.length ≤ 4000) : sml (bUp a n k).1 ∧ (bUp a n k).1.length ≤ 4000 := by
 unfold bUp
 split
 ·
  have h := upL_sml (e := 0) (n := n) (k := k) hs
  have h2 := upL_len (e := 0) (t := a.1) (n := n) (k := k)
  unfold upL at h h2
  rw [if_pos rfl] at h h2
  exact ⟨h, Nat.le_trans h2 hl⟩
 · exact ⟨hs, hl⟩
theorem nthD_any {p : List Bd} {Q : List Nd → Prop} (h : ∀ x ∈ p, Q x.1) (h0 : Q []) (k : Nat) : Q (nthD p k).1 := by
 unfold nthD
 by_cases hk : k < p.length
 ·
  have e : p.getD k ([], 0) = p[k] := by simp [hk]
  rw [e]
  exact h _ (List.getElem_mem hk)
 · simp [List.getD_eq_getElem?_getD, List.getElem?_eq_none (by omega : p.length ≤ k), h0]
theorem upB_sz {p : List Bd} (hp : ∀ x ∈ p, sml x.1 ∧ x.1.length ≤ 4000) : ∀ k, ∀ x ∈ upB p k, sml x.1 ∧ x.1.length ≤ 4000
 | 0 => fun x hx => by cases hx
 | k + 1 => fun x hx => by
  simp only [upB, List.mem_append, List.mem_singleton] at hx
  rcases hx with hx | rfl
  · exact upB_sz hp k x hx
  ·
   have h1 : sml (nthD p k).1 ∧ (nthD p k).1.length ≤ 4000 := nthD_any (Q := fun x => sml x ∧ x.length ≤ 4000) hp ⟨sml_nil, by simp⟩ k
   exact bUp_sz h1.1 h1.2
theorem bOf_len {n : Nd} {l : List Bd} : (bOf n l).1.length ≤ (l.map (·.1)).flatten.length + 1 := by
 unfold bOf
 split
 · simp
 · simp
theorem flatD_bd {l : List Bd} {b : Nat} (h : ∀ x ∈ l, x.1.length ≤ b) : (l.map (·.1)).flatten.length ≤ l.length * b := by
 induction l with
 | nil => simp
 | cons a t ih =>
  have q1 := h a (by simp)
  have q2 := ih (fun x hx => h x (by simp [hx]))
  rw [List.map_cons, List.flatten_cons, List.length_append, List.length_cons, Nat.add_mul]
  omega
theorem bOf_sml {n : Nd} {l : List Bd} (hn : n.S.size < 1000000) (h : ∀ x ∈ l, sml x.1) : sml (bOf n l).1 := by
 have h1 := noL_sml (e := 0) hn (p := l.map (·.1)) (fun x hx => by
  obtain ⟨y, hy, rfl⟩ := List.mem_map.1 hx
  exact h y hy)
 unfold noL at h1
 rw [if_pos rfl] at h1
 unfold bOf
 split
 · exact h1
 · exact sml_nil
theorem bh_b2 {Zs : List Bu} {p : List Bd} {k : Nat} {A : Option Addr} {c : Nat} {z : List Nd} {e : Int} (hp : ∀ x ∈ p, sml x.1 ∧ x.1.length ≤ 4000) (hZ : blts Zs = upB p k) (hz : z.length ≤ 9000) : ∀ x ∈ blts (Zs ++ [(((A, c, z) : Sl), e)]), x.1.length ≤ 9000 := fun x hx => by
 rw [blts_app, hZ] at hx
 rcases List.mem_append.1 hx with hx | hx
 · exact Nat.le_trans (upB_sz hp k x hx).2 (by decide)
 ·
  simp only [blts_cons, blts_nil, List.mem_singleton] at hx
  subst hx
  exact hz
theorem bh_b1 {p : List Bu} {k : Nat} {A : Option Addr} {c : Nat} {z : List Nd} {e : Int} (hp : ∀ x ∈ blts p, sml x.1 ∧ x.1.length ≤ 4000) (hz : z.length ≤ 9000) : ∀ x ∈ blts (([] ++ p.take k) ++ [(((A, c, z) : Sl), e)]), x.1.length ≤ 9000 := fun x hx => by
 rw [blts_app, List.nil_append, blts_take] at hx
 rcases List.mem_append.1 hx with hx | hx
 · exact Nat.le_trans (hp x (List.mem_of_mem_take hx)).2 (by decide)
 ·
  simp only [blts_cons, blts_nil, List.mem_singleton] at hx
  subst hx
  exact hz
theorem bl_up {l : List Bd} (h : ∀ x ∈ l, x.1.length ≤ 9000) : ∀ x ∈ l, x.1.length ≤ 1000000 := fun x hx => Nat.le_trans (h x hx) (by decide)
theorem bOf_bd {n : Nd} {l : List Bu} (h : ∀ x ∈ blts l, x.1.length ≤ 9000) (hl : l.length ≤ 10) : (bOf n (blts l)).1.length ≤ 100000 := by
 refine Nat.le_trans bOf_len ?_
 have h1 := flatD_bd h
 rw [blts_len] at h1
 have := Nat.mul_le_mul_right 9000 hl
 omega
def bP (t : List Nd) : List Bd := (ptL t).map fun x => (x, (0 : Int))
def bF1 (o : Bd) (q : List Bd) : Nat → Bd
 | 0 => o
 | k + 1 => bOf ⟨5, 0, 0, ⟨#[]⟩⟩ [bF1 o q k, nthD q k]
def bG (n : Nd) (p : List Bd) (T : List (List Nd)) (q : List Bd) (o : Bd) : Nat → Bd
 | 0 => o
 | k + 1 => if 0 < kdA n.S (nthL T k) then bOf ⟨5, 0, 0, ⟨#[]⟩⟩ [bG n p T q o k, bHy n p (nthL T k) (nthD q k) (kdA n.S (nthL T k))] else bG n p T q o k
def elD (n : Nd) (t : List Nd) : List Nd := nthL (ptL t) (n.M + 1).toNat
def bEl (n : Nd) (t : List Nd) (c : List (List (List Nd))) : Bd :=
 if (nth (elD n t) ((elD n t).length - 1)).K = 26 ∧ (nth (elD n t) ((elD n t).length - 1)).S = n.S ∧ n.M = (c.length : Int) ∧ (nth (elD n t) ((elD n t).length - 1)).N < (c.length : Int) ∧ ((nthLL c (nth (elD n t) ((elD n t).length - 1)).N.toNat).length : Int) = (nth (elD n t) ((elD n t).length - 1)).M then
  bG n (bP t) (nthLL c (nth (elD n t) ((elD n t).length - 1)).N.toNat) (bP (elD n t)) (bF1 (nthD (bP t) ((nth (elD n t) ((elD n t).length - 1)).N + 1).toNat) (bP (elD n t)) (bP (elD n t)).length) (bP (elD n t)).length else ([], 120)
section
variable {n : Nd} {p : List Bd} {t : List Nd} {a : Bd} {kd : Int}
theorem bHy_sz (hn : n.S.size < 1000000) (hp : ∀ x ∈ p, sml x.1 ∧ x.1.length ≤ 4000) (hp9 : p.length ≤ 9) (ht : ∀ x ∈ ptL t, sml x ∧ x.length ≤ 4000) (ha : sml a.1 ∧ a.1.length ≤ 4000) : sml (bHy n p t a kd).1 ∧ (bHy n p t a kd).1.length ≤ 120000 := by
 have h0 : sml ([] : List Nd) ∧ ([] : List Nd).length ≤ 4000 := ⟨sml_nil, by simp⟩
 have hu : ∀ l : List Bd, (∀ x ∈ l, x.1.length ≤ 9000) → l.length ≤ 10 → (bOf n l).1.length ≤ 100000 := fun l h hl => by
  refine Nat.le_trans bOf_len ?_
  have h1 := flatD_bd h
  have := Nat.mul_le_mul_right 9000 hl
  omega
 unfold bHy
 split
 ·
  have h1 : ∀ x ∈ p.take (p.length - 1) ++ [a], sml x.1 ∧ x.1.length ≤ 4000 := fun x hx => by
   rcases List.mem_append.1 hx with hx | hx
   · exact hp x (List.mem_of_mem_take hx)
   · rw [List.mem_singleton] at hx; subst hx; exact ha
  refine ⟨bOf_sml hn (fun x hx => (h1 x hx).1), Nat.le_trans (hu _ (fun x hx => Nat.le_trans (h1 x hx).2 (by decide)) ?_) (by decide)⟩
  simp; omega
 ·
  have hx : sml (bX t).1 ∧ (bX t).1.length ≤ 1 := by
   unfold bX
   have z : ∀ n : Nd, n.S = ⟨#[]⟩ → sml [n] := fun n hn k hk => by
    have e : k = 0 := by simpa using hk
    subst e
    show n.S.size < 1000000
    rw [hn]
    decide
   split <;> exact ⟨z _ rfl, by simp⟩
  have hua := bUp_sz (a := a) (n := 1) (k := 0) ha.1 ha.2
  have h5 : sml (bOf ⟨5, 0, 0, ⟨#[]⟩⟩ [bUp a 1 0, bX t]).1 ∧ (bOf ⟨5, 0, 0, ⟨#[]⟩⟩ [bUp a 1 0, bX t]).1.length ≤ 9000 := by
   refine ⟨bOf_sml (by decide) (fun x hx' => ?_), Nat.le_trans bOf_len ?_⟩
   ·
    simp only [List.mem_cons, List.not_mem_nil, or_false] at hx'
    rcases hx' with rfl | rfl
    · exact hua.1
    · exact hx.1
   ·
    have := hua.2
    have := hx.2
    simp
    omega
  have h2 : ∀ x ∈ upB p (p.length - 1) ++ [bOf ⟨5, 0, 0, ⟨#[]⟩⟩ [bUp a 1 0, bX t]], sml x.1 ∧ x.1.length ≤ 9000 := fun x hx => by
   rcases List.mem_append.1 hx with hx | hx
   ·
    have := upB_sz hp _ x hx
    exact ⟨this.1, Nat.le_trans this.2 (by decide)⟩
   · rw [List.mem_singleton] at hx; subst hx; exact h5
  have hin : sml (bOf n (upB p (p.length - 1) ++ [bOf ⟨5, 0, 0, ⟨#[]⟩⟩ [bUp a 1 0, bX t]])).1 ∧ (bOf n (upB p (p.length - 1) ++ [bOf ⟨5, 0, 0, ⟨#[]⟩⟩ [bUp a 1 0, bX t]])).1.length ≤ 100000 :=
   ⟨bOf_sml hn (fun x hx => (h2 x hx).1), hu _ (fun x hx => (h2 x hx).2) (by rw [List.length_append, upB_len]; simp; omega)⟩
  have hag : sml (nthL (ptL t) 0) ∧ (nthL (ptL t) 0).length ≤ 4000 := nthL_any (Q := fun x => sml x ∧ x.length ≤ 4000) ht h0 0
  refine ⟨bOf_sml (by decide) (fun x hx' => ?_), Nat.le_trans bOf_len ?_⟩
  ·
   simp only [List.mem_cons, List.not_mem_nil, or_false] at hx'
   rcases hx' with rfl | rfl
   · exact hag.1
   · exact hin.1
  ·
   have := hag.2
   have := hin.2
   simp
   omega
set_option maxRecDepth 200000 in
theorem bF1_sz {o : Bd} {q : List Bd} (ho : sml o.1 ∧ o.1.length ≤ 4000) (hq : ∀ x ∈ q, sml x.1 ∧ x.1.length ≤ 4000) : ∀ k, sml (bF1 o q k).1 ∧ (bF1 o q k).1.length ≤ 4000 + k * 4001
 | 0 => ⟨ho.1, by show o.1.length ≤ _; omega⟩
 | k + 1 => by
  obtain ⟨h1, h2⟩ := bF1_sz ho hq k
  have h3 : sml (nthD q k).1 ∧ (nthD q k).1.length ≤ 4000 := nthD_any (Q := fun x => sml x ∧ x.length ≤ 4000) hq ⟨sml_nil, by simp⟩ k
  refine ⟨bOf_sml (by decide) (fun x hx => ?_), Nat.le_trans bOf_len ?_⟩
  ·
   simp only [List.mem_cons, List.not_mem_nil, or_false] at hx
   rcases hx with rfl | rfl
   · exact h1
   · exact h3.1
  ·
   have := h3.2
   simp only [List.map_cons, List.map_nil, List.flatten_cons, List.flatten_nil, List.append_nil, List.length_append]
   omega
set_option maxRecDepth 200000 in
theorem bG_sz {T : List (List Nd)} {o : Bd} {q : List Bd} {B : Nat} (hn : n.S.size < 1000000) (hp : ∀ x ∈ p, sml x.1 ∧ x.1.length ≤ 4000) (hp9 : p.length ≤ 9) (hT : ∀ y ∈ T, sml y ∧ y.length ≤ 4000) (ho : sml o.1 ∧ o.1.length ≤ B) (hq : ∀ x ∈ q, sml x.1 ∧ x.1.length ≤ 4000) : ∀ k, sml (bG n p T q o k).1 ∧ (bG n p T q o k).1.length ≤ B + k * 120001
 | 0 => ⟨ho.1, by show o.1.length ≤ _; omega⟩
 | k + 1 => by
  obtain ⟨h1, h2⟩ := bG_sz (T := T) hn hp hp9 hT ho hq k
  have h3 : sml (nthD q k).1 ∧ (nthD q k).1.length ≤ 4000 := nthD_any (Q := fun x => sml x ∧ x.length ≤ 4000) hq ⟨sml_nil, by simp⟩ k
  have h0 : sml ([] : List Nd) ∧ ([] : List Nd).length ≤ 4000 := ⟨sml_nil, by simp⟩
  have hTk : sml (nthL T k) ∧ (nthL T k).length ≤ 4000 := nthL_any (Q := fun x => sml x ∧ x.length ≤ 4000) hT h0 k
  have e1 : (k + 1) * 120001 = k * 120001 + 120001 := by omega
  rw [bG, e1]
  split
  ·
   rename_i hkd
   have hpt : ∀ x ∈ ptL (nthL T k), sml x ∧ x.length ≤ 4000 := by
    have hc : chk (nthL T k) = 0 := by
     unfold kdA at hkd
     split at hkd
     · omega
     · exact Classical.not_not.1 (by assumption)
    intro x hx
    rw [← agA_ok hc] at hx
    obtain ⟨q1, q2⟩ := ag_sml hTk.1 x hx
    exact ⟨q1, by omega⟩
   have h4 := bHy_sz (n := n) (p := p) (t := nthL T k) (a := nthD q k) (kd := kdA n.S (nthL T k)) hn hp hp9 hpt h3
   refine ⟨bOf_sml (by decide) (fun x hx => ?_), Nat.le_trans bOf_len ?_⟩
   ·
    simp only [List.mem_cons, List.not_mem_nil, or_false] at hx
    rcases hx with rfl | rfl
    · exact h1
    · exact h4.1
   ·
    have := h4.2
    simp only [List.map_cons, List.map_nil, List.flatten_cons, List.flatten_nil, List.append_nil, List.length_append]
    omega
  · exact ⟨h1, Nat.le_trans h2 (Nat.add_le_add_left (Nat.le_add_right _ _) _)⟩
end
theorem bP_all {t : List Nd} (hc : chk t = 0) (hs : sml t) : ∀ x ∈ bP t, sml x.1 ∧ x.1.length ≤ 4000 := fun x hx => by
 obtain ⟨y, hy, rfl⟩ := List.mem_map.1 hx
 rw [← agA_ok hc] at hy
 obtain ⟨q1, q2⟩ := ag_sml hs y hy
 exact ⟨q1, Nat.le_trans q2 (chk_le hc)⟩
theorem bP_len {t : List Nd} (hc : chk t = 0) : (bP t).length = many (nth t (t.length - 1)) := by
 unfold bP
 rw [List.length_map, ptL_length (meas_chk hc)]
theorem nthLL_all {c : List (List (List Nd))} {P : List Nd → Prop} (h : ∀ l ∈ c, ∀ y ∈ l, P y) (k : Nat) : ∀ y ∈ nthLL c k, P y := by
 unfold nthLL
 by_cases hk : k < c.length
 ·
  intro y hy
  have e : c.getD k [] = c[k] := by simp [hk]
  rw [e] at hy
  exact h _ (List.getElem_mem hk) y hy
 ·
  intro y hy
  simp [List.getD_eq_getElem?_getD, List.getElem?_eq_none (by omega : c.length ≤ k)] at hy
theorem kd_chk {s : ByteArray} {t : List Nd} (h : ¬ kdA s t = 0) : chk t = 0 := by
 unfold kdA at h
 split at h
 · exact absurd rfl h
 · exact Classical.not_not.1 (by assumption)
end
section
/- The document's rule of unfold, over built terms. -/
open Go Go.RowKit
def bRx (n x : Nd) (p q : List Bd) : Bd :=
 if n.K = 5 ∧ x.K = 4 then bAt (nthD q 1) [nthD p 1]
 else if n.K = 8 ∧ x.K = 7 then nthD q 1
 else if n.K = 9 ∧ x.K = 7 then nthD q 2
 else if n.K = 13 ∧ x.K = 11 then nthD p 1
 else if n.K = 13 ∧ x.K = 12 then bAt (nthD p 2) [bOf n [nthD p 0, nthD p 1, nthD p 2, nthD q 0], nthD q 0]
 else if n.K = 24 ∧ x.K = 23 then bAt (nthD p 1) [nthD q 1]
 else ([], 120)
def bRu (t : List Nd) (c : List (List (List Nd))) : Bd :=
 if tgK (nth t (t.length - 1)) < 0 then ([], 120) else if (nth t (t.length - 1)).K = 27 then bEl (nth t (t.length - 1)) t c
 else bRx (nth t (t.length - 1)) (nth (tgL t) ((tgL t).length - 1)) (bP t) (bP (tgL t))
def bRq (t : List Nd) (c : List (List (List Nd))) : Bd := if chk t = 0 then bDone (bRu t c) else ([], chk t)
section
variable {n x : Nd} {p q : List Bd}
theorem bRx_5 (h : n.K = 5) (h2 : x.K = 4) : bRx n x p q = bAt (nthD q 1) [nthD p 1] := if_pos ⟨h, h2⟩
theorem bRx_8 (h : n.K = 8) (h2 : x.K = 7) : bRx n x p q = nthD q 1 := by simp [bRx, h, h2]
theorem bRx_9 (h : n.K = 9) (h2 : x.K = 7) : bRx n x p q = nthD q 2 := by simp [bRx, h, h2]
theorem bRx_z (h : n.K = 13) (h2 : x.K = 11) : bRx n x p q = nthD p 1 := by simp [bRx, h, h2]
theorem bRx_s (h : n.K = 13) (h2 : x.K = 12) : bRx n x p q = bAt (nthD p 2) [bOf n [nthD p 0, nthD p 1, nthD p 2, nthD q 0], nthD q 0] := by simp [bRx, h, h2]
theorem bRx_q (h : n.K = 24) (h2 : x.K = 23) : bRx n x p q = bAt (nthD p 1) [nthD q 1] := by simp [bRx, h, h2]
end
theorem br_of {n : Nd} {a b c d : Bd} (hn : n.S.size < 1000000) (ha : sml a.1 ∧ a.1.length ≤ 4000) (hb : sml b.1 ∧ b.1.length ≤ 4000) (hc : sml c.1 ∧ c.1.length ≤ 4000) (hd : sml d.1 ∧ d.1.length ≤ 4000) : sml (bOf n [a, b, c, d]).1 ∧ (bOf n [a, b, c, d]).1.length ≤ 100000 := by
 refine ⟨bOf_sml hn ?_, Nat.le_trans bOf_len ?_⟩
 ·
  intro x hx
  simp only [List.mem_cons, List.not_mem_nil, or_false] at hx
  rcases hx with rfl | rfl | rfl | rfl
  · exact ha.1
  · exact hb.1
  · exact hc.1
  · exact hd.1
 ·
  simp only [List.map_cons, List.map_nil, List.flatten_cons, List.flatten_nil, List.length_append, List.length_nil]
  omega
theorem bAt_sz {a : Bd} {l : List Bd} (ha : sml a.1 ∧ a.1.length ≤ 4000) (hl : ∀ x ∈ l, sml x.1 ∧ x.1.length ≤ 100000) : sml (bAt a l).1 ∧ (bAt a l).1.length ≤ 100000 := by
 have hf : ∀ l : List Bd, (∀ x ∈ l, sml x.1 ∧ x.1.length ≤ 100000) → sml (fsE l).1 ∧ (fsE l).1.length ≤ 100000 := fun l => by
  induction l with
  | nil => exact fun _ => ⟨sml_nil, by simp [fsE]⟩
  | cons y m ih =>
   intro h
   unfold fsE
   split
   · exact ih fun x hx => h x (List.mem_cons_of_mem _ hx)
   · exact h y (by simp)
 unfold bAt
 split
 · exact ⟨ha.1, by omega⟩
 ·
  split
  · exact hf l hl
  ·
   refine ⟨inA_sml ha.1 ?_, Nat.le_trans (inA_len _ _) (by decide)⟩
   intro x hx
   obtain ⟨y, hy, rfl⟩ := List.mem_map.1 hx
   exact (hl y hy).1
theorem bRx_sz {n x : Nd} {p q : List Bd} (hn : n.S.size < 1000000) (hp : ∀ x ∈ p, sml x.1 ∧ x.1.length ≤ 4000) (hq : ∀ x ∈ q, sml x.1 ∧ x.1.length ≤ 4000) : sml (bRx n x p q).1 ∧ (bRx n x p q).1.length ≤ 100000 := by
 have hp' : ∀ k, sml (nthD p k).1 ∧ (nthD p k).1.length ≤ 4000 := nthD_any (Q := fun x => sml x ∧ x.length ≤ 4000) hp ⟨sml_nil, by simp⟩
 have hq' : ∀ k, sml (nthD q k).1 ∧ (nthD q k).1.length ≤ 4000 := nthD_any (Q := fun x => sml x ∧ x.length ≤ 4000) hq ⟨sml_nil, by simp⟩
 have up : ∀ y : Bd, sml y.1 ∧ y.1.length ≤ 4000 → sml y.1 ∧ y.1.length ≤ 100000 := fun y h => ⟨h.1, by omega⟩
 have one : ∀ a : Bd, sml a.1 ∧ a.1.length ≤ 100000 → ∀ x ∈ [a], sml x.1 ∧ x.1.length ≤ 100000 := fun a h x hx => by simp only [List.mem_cons, List.not_mem_nil, or_false] at hx; rw [hx]; exact h
 unfold bRx
 (repeat' split)
 · exact bAt_sz (hq' 1) (one _ (up _ (hp' 1)))
 · exact up _ (hq' 1)
 · exact up _ (hq' 2)
 · exact up _ (hp' 1)
 ·
  refine bAt_sz (hp' 2) fun x hx => ?_
  simp only [List.mem_cons, List.not_mem_nil, or_false] at hx
  rcases hx with rfl | rfl
  · exact br_of hn (hp' 0) (hp' 1) (hp' 2) (hq' 0)
  · exact up _ (hq' 0)
 · exact bAt_sz (hp' 1) (one _ (up _ (hq' 1)))
 · exact ⟨sml_nil, by simp⟩
theorem bEl_sz {t : List Nd} {c : List (List (List Nd))} (hc : chk t = 0) (hs : sml t) (h27 : (nth t (t.length - 1)).K = 27) (hcs : ∀ l ∈ c, ∀ y ∈ l, sml y ∧ y.length ≤ 4000) : sml (bEl (nth t (t.length - 1)) t c).1 ∧ (bEl (nth t (t.length - 1)) t c).1.length ≤ 1000000 := by
 have hpt := chk_pos hc
 have hr := right_at (meas_chk hc) (show t.length - 1 < t.length by omega)
 have hm := many_27 h27
 have hM9 := right_M hr
 have hd : chk (elD (nth t (t.length - 1)) t) = 0 ∧ sml (elD (nth t (t.length - 1)) t) := by
  obtain ⟨h1, h2⟩ := ag_part (k := ((nth t (t.length - 1)).M + 1).toNat) hc (by omega)
  rw [agA_ok hc] at h1 h2
  exact ⟨h1, (ag_sml hs _ (by rw [agA_ok hc]; exact h2)).1⟩
 have hpall := bP_all hc hs
 have hqall := bP_all hd.1 hd.2
 have h0 : sml ([] : List Nd) ∧ ([] : List Nd).length ≤ 4000 := ⟨sml_nil, by simp⟩
 have hq8 : (bP (elD (nth t (t.length - 1)) t)).length ≤ 8 := by
  rw [bP_len hd.1]
  exact many_le (right_at (meas_chk hd.1) (by have := chk_pos hd.1; omega))
 have hp8 := many_le hr
 unfold bEl
 split
 ·
  have hT : ∀ y ∈ nthLL c (nth (elD (nth t (t.length - 1)) t) ((elD (nth t (t.length - 1)) t).length - 1)).N.toNat, sml y ∧ y.length ≤ 4000 := nthLL_all hcs _
  obtain ⟨f1, f2⟩ := bF1_sz (o := nthD (bP t) ((nth (elD (nth t (t.length - 1)) t) ((elD (nth t (t.length - 1)) t).length - 1)).N + 1).toNat) (nthD_any (Q := fun x => sml x ∧ x.length ≤ 4000) hpall h0 _) hqall (bP (elD (nth t (t.length - 1)) t)).length
  have hy := Nat.mul_le_mul_right 4001 hq8
  obtain ⟨g1, g2⟩ := bG_sz (n := nth t (t.length - 1)) (hs _ (by omega)) hpall (by rw [bP_len hc]; omega) hT (B := 36008) ⟨f1, by omega⟩ hqall (bP (elD (nth t (t.length - 1)) t)).length
  have hz := Nat.mul_le_mul_right 120001 hq8
  exact ⟨g1, by omega⟩
 · exact ⟨sml_nil, by simp⟩
theorem bRu_sz {t : List Nd} {c : List (List (List Nd))} (hc : chk t = 0) (hs : sml t) (hcs : ∀ l ∈ c, ∀ y ∈ l, sml y ∧ y.length ≤ 4000) : sml (bRu t c).1 ∧ (bRu t c).1.length ≤ 1000000 := by
 unfold bRu
 split
 · exact ⟨sml_nil, by simp⟩
 ·
  rename_i htn
  split
  ·
   rename_i h27
   exact bEl_sz hc hs h27 hcs
  ·
   have hpt := chk_pos hc
   obtain ⟨h1, h2⟩ := ag_part hc (tg_many hc htn)
   have h3 := (ag_sml hs _ h2).1
   obtain ⟨q1, q2⟩ := bRx_sz (n := nth t (t.length - 1)) (x := nth (tgL t) ((tgL t).length - 1)) (hs _ (by omega)) (bP_all hc hs) (bP_all (t := tgL t) h1 h3)
   exact ⟨q1, by omega⟩
end
section
/- The program's rule of unfold, and the document's: alike. -/
open Go Go.RowKit
def lft (p : List (List Nd)) : List Bd := p.map fun x => (x, (0 : Int))
theorem lft_nth (p : List (List Nd)) (k : Nat) : nthD (lft p) k = (nthL p k, 0) := by
 unfold nthD lft nthL
 by_cases h : k < p.length
 · simp [h]
 · simp [List.getD_eq_getElem?_getD, List.getElem?_eq_none (by omega : p.length ≤ k)]
theorem lft_len (p : List (List Nd)) : (lft p).length = p.length := by simp [lft]
theorem lft_1 (p : List (List Nd)) : (lft p).map (·.1) = p := by
 unfold lft
 rw [List.map_map]
 exact List.map_id p
theorem fsE_lft (p : List (List Nd)) : (fsE (lft p)).2 = 0 := by
 induction p with
 | nil => rfl
 | cons x p ih =>
  show (if (0 : Int) = 0 then fsE (lft p) else (x, 0)).2 = 0
  rw [if_pos rfl]
  exact ih
theorem fsE_app (l m : List Bd) : (fsE (l ++ m)).2 = if (fsE l).2 = 0 then (fsE m).2 else (fsE l).2 := by
 induction l with
 | nil => exact (if_pos rfl).symm
 | cons x l ih =>
  show (if x.2 = 0 then fsE (l ++ m) else x).2 = if (if x.2 = 0 then fsE l else x).2 = 0 then (fsE m).2 else (if x.2 = 0 then fsE l else x).2
  by_cases h : x.2 = 0
  · simp only [if_pos h]; exact ih
  · simp only [if_neg h]
theorem fsE_one (x : Bd) : (fsE [x]).2 = x.2 := by
 show (if x.2 = 0 then (([], 0) : Bd) else x).2 = x.2
 split
 · rename_i h; exact h.symm
 · rfl
theorem fsE_two (x y : Bd) : (fsE [x, y]).2 = if x.2 = 0 then y.2 else x.2 := by
 have := fsE_app [x] [y]
 rwa [fsE_one, fsE_one] at this
theorem fsE_G {l : List Bd} (h : ∀ x ∈ l, GE x.2) : GE (fsE l).2 := by
 induction l with
 | nil => exact GE.zero
 | cons x l ih =>
  show GE (if x.2 = 0 then fsE l else x).2
  split
  · exact ih fun y hy => h y (List.mem_cons_of_mem _ hy)
  · exact h x (by simp)
theorem bOf_2 (n : Nd) (l : List Bd) : (bOf n l).2 = (fsE l).2 := by
 unfold bOf
 split
 · rename_i h; exact h.symm
 · rfl
theorem bOf_1 {n : Nd} {l : List Bd} (h : (fsE l).2 = 0) : bOf n l = ((l.map (·.1)).flatten ++ [n], 0) := if_pos h
def RB (L : List Nd) (e : Int) (a : Bd) : Prop := (e = 0 ∧ a = (L, 0)) ∨ (¬ e = 0 ∧ ¬ a.2 = 0)
theorem un_rel {p : List (List Nd)} : ∀ k, (unE 0 p k = 0 ∧ (fsE (upB (lft p) k)).2 = 0 ∧ (upB (lft p) k).map (·.1) = unP 0 p k) ∨ (¬ unE 0 p k = 0 ∧ ¬ (fsE (upB (lft p) k)).2 = 0)
 | 0 => .inl ⟨rfl, rfl, rfl⟩
 | k + 1 => by
  have hu : bUp (nthD (lft p) k) 1 (if k = 0 then 1 else 0) = (sfA (nthL p k) 1 (if k = 0 then 1 else 0), sfE (nthL p k) 1 (if k = 0 then 1 else 0)) := by rw [lft_nth]; exact if_pos rfl
  rcases un_rel (p := p) k with ⟨h1, h2, h3⟩ | ⟨h1, h2⟩
  ·
   have e1 : unE 0 p (k + 1) = sfE (nthL p k) 1 (if k = 0 then 1 else 0) := by rw [unE, h1]; exact if_pos rfl
   have e2 : (fsE (upB (lft p) (k + 1))).2 = sfE (nthL p k) 1 (if k = 0 then 1 else 0) := by rw [upB, fsE_app, if_pos h2, fsE_one, hu]
   by_cases hs : sfE (nthL p k) 1 (if k = 0 then 1 else 0) = 0
   ·
    refine .inl ⟨e1.trans hs, e2.trans hs, ?_⟩
    rw [upB, unP, List.map_append, h3, h1, upL_zero, hu]
    rfl
   · exact .inr ⟨by rw [e1]; exact hs, by rw [e2]; exact hs⟩
  ·
   refine .inr ⟨?_, ?_⟩
   · rw [unE]; unfold upE; rw [if_neg h1]; exact h1
   · rw [upB, fsE_app, if_neg h2]; exact h2
theorem unE_stick {e : Int} {p : List (List Nd)} (h : ¬ e = 0) : ∀ k, unE e p k = e
 | 0 => rfl
 | k + 1 => by rw [unE, unE_stick h k]; exact if_neg h
theorem plX {t : List Nd} (h0 : 0 ≤ (nth t (t.length - 1)).N) (h4 : (nth t (t.length - 1)).N < 4) : plL 0 (nth t (t.length - 1)).N (noL 0 ⟨0, 0, 0, ⟨#[]⟩⟩ []) = (bX t).1 := by
 unfold bX
 revert h0 h4
 generalize (nth t (t.length - 1)).N = m
 intro h0 h4
 have : m = 0 ∨ m = 1 ∨ m = 2 ∨ m = 3 := by omega
 rcases this with rfl | rfl | rfl | rfl <;> rfl
theorem bX_2 (t : List Nd) : (bX t).2 = 0 := by unfold bX; split <;> rfl
theorem hy2_rel {n : Nd} {p : List (List Nd)} {t a : List Nd} {kd : Int} (hc : chk t = 0) (h0 : 0 ≤ (nth t (t.length - 1)).N) (h4 : (nth t (t.length - 1)).N < 4) (hk : ¬ kd = 1) : RB (unL 0 n p t a) (unA 0 p a) (bHy n (lft p) t (a, 0) kd) := by
 have hu : bUp (a, 0) 1 0 = (sfA a 1 0, sfE a 1 0) := if_pos rfl
 have h5 : (bOf ⟨5, 0, 0, ⟨#[]⟩⟩ [bUp (a, 0) 1 0, bX t]).2 = sfE a 1 0 := by
  rw [bOf_2, fsE_two, bX_2, hu]
  show (if sfE a 1 0 = 0 then 0 else sfE a 1 0) = _
  split
  · rename_i h; exact h.symm
  · rfl
 unfold bHy
 rw [if_neg hk, lft_len]
 have hE : (bOf n (upB (lft p) (p.length - 1) ++ [bOf ⟨5, 0, 0, ⟨#[]⟩⟩ [bUp (a, 0) 1 0, bX t]])).2 = if (fsE (upB (lft p) (p.length - 1))).2 = 0 then sfE a 1 0 else (fsE (upB (lft p) (p.length - 1))).2 := by rw [bOf_2, fsE_app, fsE_one, h5]
 have hW : (bOf ⟨4, 0, 0, ⟨#[]⟩⟩ [(nthL (ptL t) 0, 0), bOf n (upB (lft p) (p.length - 1) ++ [bOf ⟨5, 0, 0, ⟨#[]⟩⟩ [bUp (a, 0) 1 0, bX t]])]).2 = (bOf n (upB (lft p) (p.length - 1) ++ [bOf ⟨5, 0, 0, ⟨#[]⟩⟩ [bUp (a, 0) 1 0, bX t]])).2 := by rw [bOf_2 (⟨4, 0, 0, ⟨#[]⟩⟩ : Nd), fsE_two]; exact if_pos rfl
 rcases un_rel (p := p) (p.length - 1) with ⟨q1, q2, q3⟩ | ⟨q1, q2⟩
 ·
  have eA : unA 0 p a = sfE a 1 0 := by unfold unA; rw [q1]; exact if_pos rfl
  rw [if_pos q2] at hE
  by_cases hs : sfE a 1 0 = 0
  ·
   refine .inl ⟨eA.trans hs, ?_⟩
   have z5 : bOf ⟨5, 0, 0, ⟨#[]⟩⟩ [bUp (a, 0) 1 0, bX t] = ([sfA a 1 0, (bX t).1].flatten ++ [⟨5, 0, 0, ⟨#[]⟩⟩], 0) := by
    rw [bOf_1 ((bOf_2 _ _).symm.trans (h5.trans hs)), hu]
    rfl
   have zn : bOf n (upB (lft p) (p.length - 1) ++ [bOf ⟨5, 0, 0, ⟨#[]⟩⟩ [bUp (a, 0) 1 0, bX t]]) = ((unP 0 p (p.length - 1) ++ [[sfA a 1 0, (bX t).1].flatten ++ [(⟨5, 0, 0, ⟨#[]⟩⟩ : Nd)]]).flatten ++ [n], 0) := by
    rw [bOf_1 ((bOf_2 _ _).symm.trans (hE.trans hs)), z5, List.map_append, q3]
    rfl
   rw [bOf_1 ((bOf_2 _ _).symm.trans (hW.trans (hE.trans hs))), zn]
   unfold unL unT
   rw [eA, hs, q1, plX h0 h4, upL_zero, agA_ok hc]
   rfl
  · exact .inr ⟨by rw [eA]; exact hs, by rw [hW, hE]; exact hs⟩
 ·
  rw [if_neg q2] at hE
  refine .inr ⟨?_, by rw [hW, hE]; exact q2⟩
  unfold unA upE
  rw [if_neg q1]
  exact q1
theorem set_end {α : Type} {p : List α} {a : α} (hp : 0 < p.length) : p.set (p.length - 1) a = p.take (p.length - 1) ++ [a] := by
 refine List.ext_getElem? fun i => ?_
 rw [List.getElem?_set, List.getElem?_append, List.length_take]
 by_cases h : i < p.length - 1
 · rw [if_neg (by omega), if_pos (by omega), List.getElem?_take, if_pos h]
 ·
  rw [if_neg (show ¬ i < min (p.length - 1) p.length by omega)]
  by_cases h2 : p.length - 1 = i
  ·
   rw [if_pos h2, if_pos (by omega), show i - min (p.length - 1) p.length = 0 by omega]
   rfl
  · rw [if_neg h2, List.getElem?_eq_none (by omega), List.getElem?_eq_none (by simp; omega)]
theorem hy1_rel {n : Nd} {p : List (List Nd)} {t a : List Nd} (hp : 0 < p.length) : RB (noL 0 n (p.set (p.length - 1) a)) 0 (bHy n (lft p) t (a, 0) 1) := by
 refine .inl ⟨rfl, ?_⟩
 unfold bHy
 rw [if_pos rfl, lft_len]
 have hl : (lft p).take (p.length - 1) ++ [((a, 0) : Bd)] = lft (p.set (p.length - 1) a) := by
  rw [set_end hp]
  simp [lft]
 rw [hl, bOf_1 (fsE_lft _), lft_1]
 rfl
def hyF (o : List Nd) (l : List (List Nd × Int)) : List Nd := l.foldl (fun o y => noL y.2 ⟨5, 0, 0, ⟨#[]⟩⟩ [o, y.1]) o
theorem hyF_snoc (o : List Nd) (l : List (List Nd × Int)) (y : List Nd) (e : Int) : hyF o (l ++ [(y, e)]) = noL e ⟨5, 0, 0, ⟨#[]⟩⟩ [hyF o l, y] := by
 unfold hyF
 rw [List.foldl_append]
 rfl
theorem kd_bd (s : ByteArray) (t : List Nd) : kdA s t = 0 ∨ kdA s t = 1 ∨ kdA s t = 2 := by unfold kdA; (repeat' split) <;> simp
theorem hy_rel {n : Nd} {p T Q : List (List Nd)} {o : List Nd} (hp : 0 < p.length) : ∀ k, RB (hyF o (hyR n p T Q 0 k).2) (hyR n p T Q 0 k).1 (bG n (lft p) T (lft Q) (o, 0) k)
 | 0 => .inl ⟨rfl, rfl⟩
 | k + 1 => by
  have ih := hy_rel (n := n) (T := T) (Q := Q) (o := o) hp k
  by_cases h0 : kdA n.S (nthL T k) = 0
  ·
   have hK : ∀ e, hyK n p (nthL T k) (nthL Q k) e = none := fun e => if_pos h0
   have hR : hyR n p T Q 0 (k + 1) = hyR n p T Q 0 k := by rw [hyR, hK]
   rw [hR, bG, if_neg (by omega)]
   exact ih
  ·
   have hpos : 0 < kdA n.S (nthL T k) := by have := kd_bd n.S (nthL T k); omega
   rcases ih with ⟨e0, hb⟩ | ⟨e1, hb⟩
   ·
    have key : ∃ y e', hyK n p (nthL T k) (nthL Q k) 0 = some (y, e') ∧ RB y e' (bHy n (lft p) (nthL T k) (nthL Q k, 0) (kdA n.S (nthL T k))) := by
     by_cases h1 : kdA n.S (nthL T k) = 1
     ·
      refine ⟨_, _, (if_neg h0).trans (if_pos h1), ?_⟩
      rw [h1]
      exact hy1_rel hp
     ·
      obtain ⟨_, hc, h3⟩ := kd_two h0 h1
      obtain ⟨hN0, hN4⟩ := cr_mark hc (.inl h3)
      exact ⟨_, _, (if_neg h0).trans (if_neg h1), hy2_rel hc hN0 hN4 h1⟩
    obtain ⟨y, e', hK, hr⟩ := key
    have hR : hyR n p T Q 0 (k + 1) = (e', (hyR n p T Q 0 k).2 ++ [(y, e')]) := by rw [hyR, e0, hK]
    rw [hR, bG, if_pos hpos, hb, lft_nth]
    show RB (hyF o ((hyR n p T Q 0 k).2 ++ [(y, e')])) e' _
    rw [hyF_snoc]
    rcases hr with ⟨r0, rb⟩ | ⟨r1, rb⟩
    ·
     refine .inl ⟨r0, ?_⟩
     rw [rb, bOf_1 (by rw [fsE_two]; exact if_pos rfl), r0]
     rfl
    ·
     refine .inr ⟨r1, ?_⟩
     rw [bOf_2, fsE_two, if_pos rfl]
     exact rb
   ·
    have key : ∃ y, hyK n p (nthL T k) (nthL Q k) (hyR n p T Q 0 k).1 = some (y, (hyR n p T Q 0 k).1) := by
     by_cases h1 : kdA n.S (nthL T k) = 1
     · exact ⟨_, (if_neg h0).trans (if_pos h1)⟩
     ·
      refine ⟨unL (hyR n p T Q 0 k).1 n p (nthL T k) (nthL Q k), ?_⟩
      unfold hyK
      rw [if_neg h0, if_neg h1]
      unfold unA
      rw [unE_stick e1]
      unfold upE
      rw [if_neg e1]
    obtain ⟨y, hK⟩ := key
    have hR : hyR n p T Q 0 (k + 1) = ((hyR n p T Q 0 k).1, (hyR n p T Q 0 k).2 ++ [(y, (hyR n p T Q 0 k).1)]) := by rw [hyR, hK]
    rw [hR, bG, if_pos hpos]
    refine .inr ⟨e1, ?_⟩
    rw [bOf_2, fsE_two, if_neg hb]
    exact hb
theorem bF1_ap {o : List Nd} {q : List (List Nd)} : ∀ k, k ≤ q.length → bF1 (o, 0) (lft q) k = (apK o q k, 0)
 | 0, _ => rfl
 | k + 1, h => by
  rw [bF1, bF1_ap k (by omega), lft_nth, bOf_1 (by rw [fsE_two]; exact if_pos rfl), apK_succ (by omega)]
  rfl
theorem unE_G {e : Int} {p : List (List Nd)} (he : GE e) (hp : ∀ x ∈ p, chk x = 0) : ∀ k, k ≤ p.length → GE (unE e p k)
 | 0, _ => he
 | k + 1, h => by
  rw [unE]
  exact up_G (unE_G he hp k (by omega)) (fun _ => hp _ (nthL_mem (by omega))) (by decide)
theorem hyR_G {n : Nd} {p T Q : List (List Nd)} (hp : ∀ x ∈ p, chk x = 0) (hQ : ∀ x ∈ Q, chk x = 0) : ∀ k, k ≤ Q.length → GE (hyR n p T Q 0 k).1
 | 0, _ => GE.zero
 | k + 1, h => by
  have ih := hyR_G (n := n) (T := T) hp hQ k (by omega)
  by_cases h0 : kdA n.S (nthL T k) = 0
  ·
   have hK : ∀ e, hyK n p (nthL T k) (nthL Q k) e = none := fun e => if_pos h0
   rw [hyR, hK]
   exact ih
  ·
   by_cases h1 : kdA n.S (nthL T k) = 1
   ·
    have hK : hyK n p (nthL T k) (nthL Q k) (hyR n p T Q 0 k).1 = some (noL (hyR n p T Q 0 k).1 n (p.set (p.length - 1) (nthL Q k)), (hyR n p T Q 0 k).1) := (if_neg h0).trans (if_pos h1)
    rw [hyR, hK]
    exact ih
   ·
    have hK : hyK n p (nthL T k) (nthL Q k) (hyR n p T Q 0 k).1 = some (unL (hyR n p T Q 0 k).1 n p (nthL T k) (nthL Q k), unA (hyR n p T Q 0 k).1 p (nthL Q k)) := (if_neg h0).trans (if_neg h1)
    rw [hyR, hK]
    exact up_G (unE_G ih hp _ (by omega)) (fun _ => hQ _ (nthL_mem (by omega))) (by decide)
theorem bUp_G {x : List Nd} {k : Int} (h : chk x = 0) : GE (bUp (x, 0) 1 k).2 := by
 have e : bUp (x, 0) 1 k = (sfA x 1 k, sfE x 1 k) := if_pos rfl
 rw [e]
 rcases sf_max (f := k) h (show (0 : Int) ≤ 1 by decide) with q | q
 · exact .inl q
 · exact .inr (.inl q)
theorem upB_G {p : List (List Nd)} (hp : ∀ x ∈ p, chk x = 0) : ∀ k, k ≤ p.length → ∀ y ∈ upB (lft p) k, GE y.2
 | 0, _ => fun y hy => by cases hy
 | k + 1, h => fun y hy => by
  simp only [upB, List.mem_append, List.mem_singleton] at hy
  rcases hy with hy | rfl
  · exact upB_G hp k (by omega) y hy
  ·
   rw [lft_nth]
   exact bUp_G (hp _ (nthL_mem (by omega)))
theorem bHy_G {n : Nd} {p : List (List Nd)} {t a : List Nd} {kd : Int} (hp : ∀ x ∈ p, chk x = 0) (ha : chk a = 0) : GE (bHy n (lft p) t (a, 0) kd).2 := by
 have hl : ∀ y ∈ lft p, y.2 = 0 := fun y hy => by obtain ⟨x, _, rfl⟩ := List.mem_map.1 hy; rfl
 unfold bHy
 split
 ·
  rw [bOf_2]
  refine fsE_G fun y hy => ?_
  rcases List.mem_append.1 hy with hy | hy
  · rw [hl y (List.mem_of_mem_take hy)]; exact GE.zero
  · rw [List.mem_singleton.1 hy]; exact GE.zero
 ·
  rw [bOf_2]
  refine fsE_G fun y hy => ?_
  simp only [List.mem_cons, List.not_mem_nil, or_false] at hy
  rcases hy with rfl | rfl
  · exact GE.zero
  ·
   rw [bOf_2]
   refine fsE_G fun y hy => ?_
   rcases List.mem_append.1 hy with hy | hy
   · exact upB_G hp _ (by rw [lft_len]; omega) y hy
   ·
    rw [List.mem_singleton.1 hy, bOf_2]
    refine fsE_G fun y hy => ?_
    simp only [List.mem_cons, List.not_mem_nil, or_false] at hy
    rcases hy with rfl | rfl
    · exact bUp_G ha
    · rw [bX_2]; exact GE.zero
theorem bG_G {n : Nd} {p T Q : List (List Nd)} {o : List Nd} (hp : ∀ x ∈ p, chk x = 0) (hQ : ∀ x ∈ Q, chk x = 0) : ∀ k, k ≤ Q.length → GE (bG n (lft p) T (lft Q) (o, 0) k).2
 | 0, _ => GE.zero
 | k + 1, h => by
  have ih := bG_G (n := n) (T := T) (o := o) hp hQ k (by omega)
  rw [bG]
  split
  ·
   rw [bOf_2, lft_nth]
   refine fsE_G fun y hy => ?_
   simp only [List.mem_cons, List.not_mem_nil, or_false] at hy
   rcases hy with rfl | rfl
   · exact ih
   · exact bHy_G hp (hQ _ (nthL_mem (by omega)))
  · exact ih
theorem ur_rel {n x : Nd} {p q : List (List Nd)} (h : n.K = 13 → p.length = 4) : urR n x p q = bRx n x (lft p) (lft q) := by
 have hat : ∀ a l, bAt (a, 0) (lft l) = (inL 0 a l, inQ 0 a l) := fun a l => by
  unfold bAt
  rw [if_neg (not_not_intro rfl), if_neg (not_not_intro (fsE_lft l)), lft_1]
  rfl
 unfold urR urX bRx
 simp only [lft_nth]
 by_cases c1 : n.K = 5 ∧ x.K = 4
 · rw [if_pos c1, if_pos c1]; exact (hat _ [_]).symm
 rw [if_neg c1, if_neg c1]
 by_cases c2 : n.K = 8 ∧ x.K = 7
 · rw [if_pos c2, if_pos c2]; rfl
 rw [if_neg c2, if_neg c2]
 by_cases c3 : n.K = 9 ∧ x.K = 7
 · rw [if_pos c3, if_pos c3]; rfl
 rw [if_neg c3, if_neg c3]
 by_cases c4 : n.K = 13 ∧ x.K = 11
 · rw [if_pos c4, if_pos c4]; rfl
 rw [if_neg c4, if_neg c4]
 by_cases c5 : n.K = 13 ∧ x.K = 12
 ·
  rw [if_pos c5, if_pos c5]
  have h4 := h c5.1
  have hb : bOf n [((nthL p 0, 0) : Bd), (nthL p 1, 0), (nthL p 2, 0), (nthL q 0, 0)] = (noL 0 n (p.set (p.length - 1) (nthL q 0)), 0) := by
   have e : [((nthL p 0, 0) : Bd), (nthL p 1, 0), (nthL p 2, 0), (nthL q 0, 0)] = lft (p.set (p.length - 1) (nthL q 0)) := by
    match p, h4 with
    | [_, _, _, _], _ => rfl
   rw [e, bOf_1 (fsE_lft _), lft_1]
   rfl
  rw [hb]
  exact (hat _ [_, _]).symm
 rw [if_neg c5, if_neg c5]
 by_cases c6 : n.K = 24 ∧ x.K = 23
 · rw [if_pos c6, if_pos c6]; exact (hat _ [_]).symm
 rw [if_neg c6, if_neg c6]
 rfl
theorem bP_lft (t : List Nd) : bP t = lft (ptL t) := rfl
theorem el_rel {t : List Nd} {c : List (List (List Nd))} (hc : chk t = 0) (h27 : (nth t (t.length - 1)).K = 27) :
  (urG (nth t (t.length - 1)) (nth (tgL t) ((tgL t).length - 1)) (agA t) (agA (tgL t)) c = ([], 120) ∧ bEl (nth t (t.length - 1)) t c = ([], 120)) ∨
  (RB (urG (nth t (t.length - 1)) (nth (tgL t) ((tgL t).length - 1)) (agA t) (agA (tgL t)) c).1 (urG (nth t (t.length - 1)) (nth (tgL t) ((tgL t).length - 1)) (agA t) (agA (tgL t)) c).2 (bEl (nth t (t.length - 1)) t c) ∧
   GE (urG (nth t (t.length - 1)) (nth (tgL t) ((tgL t).length - 1)) (agA t) (agA (tgL t)) c).2 ∧ GE (bEl (nth t (t.length - 1)) t c).2) := by
 have hk : tgK (nth t (t.length - 1)) = (nth t (t.length - 1)).M + 1 := by unfold tgK; rw [if_neg (by omega), if_neg (by omega), if_pos h27]
 have hr := right_at (meas_chk hc) (show t.length - 1 < t.length by have := chk_pos hc; omega)
 have hM := right_M hr
 have htn : ¬ tgK (nth t (t.length - 1)) < 0 := by omega
 have hd : chk (tgL t) = 0 := tg_ok hc htn
 have eD : elD (nth t (t.length - 1)) t = tgL t := by unfold elD tgL; rw [hk, agA_ok hc]
 have hp : ∀ x ∈ agA t, chk x = 0 := fun x hx => ptL_chk hc (by rw [← agA_ok hc]; exact hx)
 have hq : ∀ x ∈ agA (tgL t), chk x = 0 := fun x hx => ptL_chk hd (by rw [← agA_ok hd]; exact hx)
 have hlp : 0 < (agA t).length := by rw [agA_ok hc, ptL_length (meas_chk hc), many_27 h27]; omega
 unfold bEl
 rw [eD, bP_lft, bP_lft, ← agA_ok hc, ← agA_ok hd, lft_len, lft_nth, bF1_ap _ (Nat.le_refl _)]
 unfold urG
 by_cases hK : (nth (tgL t) ((tgL t).length - 1)).K = 26
 ·
  rw [if_pos ⟨h27, hK⟩]
  unfold elG
  by_cases hC : (nth (tgL t) ((tgL t).length - 1)).S = (nth t (t.length - 1)).S ∧ (nth t (t.length - 1)).M = (c.length : Int) ∧ (nth (tgL t) ((tgL t).length - 1)).N < (c.length : Int) ∧ ((nthLL c (nth (tgL t) ((tgL t).length - 1)).N.toNat).length : Int) = (nth (tgL t) ((tgL t).length - 1)).M
  ·
   rw [if_pos hC, if_pos ⟨hK, hC⟩]
   have hO : ∀ o, hyOut (nth t (t.length - 1)) (agA t) (nthLL c (nth (tgL t) ((tgL t).length - 1)).N.toNat) (agA (tgL t)) 0 o (agA (tgL t)).length = hyF o (hyR (nth t (t.length - 1)) (agA t) (nthLL c (nth (tgL t) ((tgL t).length - 1)).N.toNat) (agA (tgL t)) 0 (agA (tgL t)).length).2 := fun o => by
    unfold hyOut hyF
    rw [List.take_of_length_le (hyR_le _)]
   refine .inr ⟨?_, hyR_G hp hq _ (Nat.le_refl _), bG_G hp hq _ (Nat.le_refl _)⟩
   show RB (hyOut _ _ _ _ _ _ _) _ _
   rw [hO]
   exact hy_rel hlp _
  ·
   rw [if_neg hC, if_neg (fun q => hC q.2)]
   exact .inl ⟨rfl, rfl⟩
 ·
  rw [if_neg (fun q => hK q.2), if_neg (fun q => hK q.1)]
  refine .inl ⟨?_, rfl⟩
  unfold urR urX
  simp [h27]
theorem ug_ref (t : List Nd) (c : List (List (List Nd))) : (ugE t c = (bRq t c).2 ∨ (grB (ugE t c) = true ∧ grB (bRq t c).2 = true)) ∧ ugA t c = (bRq t c).1 := by
 by_cases hc : chk t = 0
 ·
  by_cases htn : tgK (nth t (t.length - 1)) < 0
  ·
   obtain ⟨h1, h2⟩ := ug_neg (c := c) hc htn
   have e : bRq t c = ([], 120) := by unfold bRq bRu; rw [if_pos hc, if_pos htn]; rfl
   rw [h1, h2, e]
   exact ⟨.inl rfl, rfl⟩
  ·
   obtain ⟨h1, h2⟩ := ug_of (c := c) hc htn rfl
   have e : bRq t c = bDone (bRu t c) := if_pos hc
   rw [h1, h2, e]
   have same : ∀ (R : List Nd × Int) (a : Bd), a = R → ((if R.2 = 0 then chk R.1 else R.2) = (bDone a).2 ∨ (grB (if R.2 = 0 then chk R.1 else R.2) = true ∧ grB (bDone a).2 = true)) ∧ (if (if R.2 = 0 then chk R.1 else R.2) = 0 then R.1 else []) = (bDone a).1 := fun R a h => by
    rw [h]
    unfold bDone
    by_cases h0 : R.2 = 0
    ·
     simp only [if_pos h0]
     by_cases h1 : chk R.1 = 0
     · simp [h1]
     · simp [h1]
    · simp [h0]
   by_cases h27 : (nth t (t.length - 1)).K = 27
   ·
    have eu : bRu t c = bEl (nth t (t.length - 1)) t c := by unfold bRu; rw [if_neg htn, if_pos h27]
    rw [eu]
    rcases el_rel (c := c) hc h27 with ⟨q1, q2⟩ | ⟨hr, g1, g2⟩
    · rw [q1, q2]; exact same _ _ rfl
    ·
     rcases hr with ⟨r0, rb⟩ | ⟨r1, rb⟩
     ·
      refine same _ _ ?_
      rw [rb]
      exact Prod.ext rfl r0.symm
     ·
      rw [if_neg r1, if_neg r1]
      unfold bDone
      rw [if_neg rb]
      exact ⟨.inr ⟨gr_of g1 r1, gr_of g2 rb⟩, rfl⟩
   ·
    have eu : bRu t c = bRx (nth t (t.length - 1)) (nth (tgL t) ((tgL t).length - 1)) (lft (agA t)) (lft (agA (tgL t))) := by
     unfold bRu
     rw [if_neg htn, if_neg h27, bP_lft, bP_lft, agA_ok hc, agA_ok (tg_ok hc htn)]
    have eg : urG (nth t (t.length - 1)) (nth (tgL t) ((tgL t).length - 1)) (agA t) (agA (tgL t)) c = urR (nth t (t.length - 1)) (nth (tgL t) ((tgL t).length - 1)) (agA t) (agA (tgL t)) := if_neg (fun q => h27 q.1)
    rw [eu, eg]
    refine same _ _ (ur_rel fun h13 => ?_).symm
    rw [agA_ok hc, ptL_length (meas_chk hc), many_13 h13]
 ·
  obtain ⟨h1, h2⟩ := ug_err (c := c) hc
  have e : bRq t c = ([], chk t) := if_neg hc
  rw [h1, h2, e]
  exact ⟨.inl rfl, rfl⟩
end
section
/- What a pair is cast to. -/
mutual
theorem moT_le (k : Int) : ∀ (x : T) (u : Int), x.wf = true → 0 ≤ u → moT k u x ≤ 99
 | .mk n l, u, hw, hu => by
  obtain ⟨h1, _, h3⟩ := wf_parts hw
  simp only [moT]
  split
  ·
   rename_i hk
   obtain ⟨_, _, h5⟩ := var_node h1 hk
   split <;> omega
  · exact moTs_le k l _ h3 (ubinds hu)
theorem moTs_le (k : Int) : ∀ (l : List T) (us : List Int), T.wfs l = true → (∀ v ∈ us, 0 ≤ v) → moTs k l us ≤ 99
 | [], us, _, _ => by simp [moTs]
 | y :: l, [], _, _ => by simp [moTs]
 | y :: l, u :: us, hw, hu => by
  obtain ⟨h1, h2⟩ := wf_cons hw
  simp only [moTs]
  have := moT_le k y u h1 (hu u (by simp))
  have := moTs_le k l us h2 (fun v hv => hu v (by simp [hv]))
  omega
end
theorem moL_bd {t : List Nd} (h : measB t = true) (k : Int) : -1 ≤ moL t k 0 ∧ moL t k 0 ≤ 99 := ⟨moT_ge _ _ _, moT_le _ _ _ (treeOf_meas h).1 (Int.le_refl _)⟩
def frF (t : List Nd) : Int := if chk t = 0 then moL t (-1) 0 + 1 else 0
def PQ (x : List Nd) : Prop := heavyB 100 x = false ∧ chk x = 0 ∧ dpL x ≤ 25
section
variable {m : Nat} {a b c d t : List Nd} (hm : m < 3) (ha : PQ a) (hb : PQ b) (hc : PQ c) (hd : PQ d) (ht : PQ t) (h29 : ¬ (nth t (t.length - 1)).K = 29)
include hm ha hb hc hd ht h29
end
end
section
/- Lists of types of constructors that a law asks for. -/
open Go Go.RowKit
def badY (y : List Nd) : Bool := heavyB 120 y || (decide (¬ chk y = 0) || decide (0 < frF y))
def badL (l : List (List Nd)) : Bool := decide (6 < l.length) || l.any badY
def badB (c : List (List (List Nd))) : Bool := decide (6 < c.length) || c.any badL
theorem badB_len {c : List (List (List Nd))} (h : 6 < c.length) : badB c = true := by simp [badB, h]
theorem any_at {α : Type} {P : α → Bool} {l : List α} {k : Nat} {d : α} (hk : k < l.length) (h : P (l.getD k d) = true) : l.any P = true := by
 rw [List.any_eq_true]
 have e : l.getD k d = l[k] := by simp [hk]
 exact ⟨l[k], List.getElem_mem hk, by rw [← e]; exact h⟩
theorem any_no {α : Type} {P : α → Bool} {l : List α} {d : α} (h : ∀ k, k < l.length → P (l.getD k d) = false) : l.any P = false := by
 rw [List.any_eq_false]
 intro x hx
 obtain ⟨k, hk, rfl⟩ := List.getElem_of_mem hx
 have := h k hk
 have e : l.getD k d = l[k] := by simp [hk]
 rw [e] at this
 simp [this]
theorem badB_at {c : List (List (List Nd))} {i : Nat} (hi : i < c.length) (h : badL (nthLL c i) = true) : badB c = true := by
 unfold badB
 rw [any_at hi h, Bool.or_true]
theorem badB_at2 {c : List (List (List Nd))} {i k : Nat} (hi : i < c.length) (hk : k < (nthLL c i).length) (h : badY (nthL (nthLL c i) k) = true) : badB c = true := by
 refine badB_at hi ?_
 unfold badL
 rw [any_at hk h, Bool.or_true]
theorem badB_no {c : List (List (List Nd))} (h6 : c.length ≤ 6) (h : ∀ i, i < c.length → badL (nthLL c i) = false) : badB c = false := by
 unfold badB
 rw [any_no h, Bool.or_false]
 exact decide_eq_false (by omega)
theorem badL_no {l : List (List Nd)} (h6 : l.length ≤ 6) (h : ∀ i, i < l.length → badY (nthL l i) = false) : badL l = false := by
 unfold badL
 rw [any_no h, Bool.or_false]
 exact decide_eq_false (by omega)
theorem bad_false {c : List (List (List Nd))} (h : badB c = false) : c.length ≤ 6 ∧ ∀ l ∈ c, ∀ y ∈ l, sml y ∧ y.length ≤ 4000 := by
 unfold badB at h
 rw [Bool.or_eq_false_iff] at h
 refine ⟨by simpa using h.1, fun l hl y hy => ?_⟩
 have h1 : badL l = false := by have := (List.any_eq_false.1 h.2) l hl; simpa using this
 unfold badL at h1
 rw [Bool.or_eq_false_iff] at h1
 have h2 : badY y = false := by have := (List.any_eq_false.1 h1.2) y hy; simpa using this
 unfold badY at h2
 rw [Bool.or_eq_false_iff] at h2
 obtain ⟨q1, q2⟩ := heavy_false h2.1
 exact ⟨q2, by omega⟩
theorem upto {Q : Nat → Prop} {k : Nat} (h : ∀ j, j < k → Q j) (hk : Q k) : ∀ j, j < k + 1 → Q j := fun j hj => by
 by_cases e : j = k
 · rw [e]; exact hk
 · exact h j (by omega)
theorem bad_x {cons : List Tl} {i k : Nat} : nthL (nthLL (lstsT cons) i) k = (nthS (nthT cons i).2.2 k).2.2 := by rw [← lstsT_nth, ← lsts_nth]
theorem bad_xl {cons : List Tl} {i : Nat} : (nthLL (lstsT cons) i).length = (nthT cons i).2.2.length := by rw [← lstsT_nth, lsts_len]
theorem bad_y {cons : List Tl} {i k : Nat} (h1 : heavyB 120 (nthS (nthT cons i).2.2 k).2.2 = false) (h2 : chk (nthS (nthT cons i).2.2 k).2.2 = 0) (h3 : ¬ 0 < frF (nthS (nthT cons i).2.2 k).2.2) : badY (nthL (nthLL (lstsT cons) i) k) = false := by
 rw [bad_x]
 simp [badY, h1, h2, h3]
theorem bad_1 {cons : List Tl} {i : Nat} (hi : i < cons.length) (h : 6 < (nthT cons i).2.2.length) : badB (lstsT cons) = true := by
 refine badB_at (i := i) (by rw [lstsT_len]; exact hi) ?_
 unfold badL
 rw [bad_xl, decide_eq_true h, Bool.true_or]
theorem bad_2 {cons : List Tl} {i k : Nat} (hi : i < cons.length) (hk : k < (nthT cons i).2.2.length) (h : heavyB 120 (nthS (nthT cons i).2.2 k).2.2 = true ∨ ¬ chk (nthS (nthT cons i).2.2 k).2.2 = 0 ∨ 0 < frF (nthS (nthT cons i).2.2 k).2.2) : badB (lstsT cons) = true := by
 refine badB_at2 (i := i) (k := k) (by rw [lstsT_len]; exact hi) (by rw [bad_xl]; exact hk) ?_
 rw [bad_x]
 unfold badY
 rcases h with h | h | h <;> simp [h]
theorem bad_3 {cons : List Tl} {i : Nat} (h6 : cons.length ≤ 6) (hi : ∀ j, j < i → badL (nthLL (lstsT cons) j) = false) (h : ¬ i < cons.length) : badB (lstsT cons) = false :=
 badB_no (by rw [lstsT_len]; exact h6) fun j hj => hi j (by rw [lstsT_len] at hj; omega)
theorem bad_4 {cons : List Tl} {i k : Nat} (h6 : ¬ 6 < (nthT cons i).2.2.length) (hk : ∀ j, j < k → badY (nthL (nthLL (lstsT cons) i) j) = false) (h : ¬ k < (nthT cons i).2.2.length) : badL (nthLL (lstsT cons) i) = false :=
 badL_no (by rw [bad_xl]; omega) fun j hj => hk j (by rw [bad_xl] at hj; omega)
theorem ug_ur {t : List Nd} {c : List (List (List Nd))} (h : ¬ (nth t (t.length - 1)).K = 27) : ugE t c = urE t ∧ ugA t c = urA t := by
 have e : ugR t c = (urX (nth t (t.length - 1)) (nth (tgL t) ((tgL t).length - 1)) (agA t) (agA (tgL t))).getD ([], 120) := if_neg (fun q => h q.1)
 unfold ugE ugA urE urA urQ
 rw [e]
 cases urX (nth t (t.length - 1)) (nth (tgL t) ((tgL t).length - 1)) (agA t) (agA (tgL t)) with
 | none => exact ⟨rfl, rfl⟩
 | some x => exact ⟨rfl, rfl⟩
theorem sg14 : ugE [⟨10, 0, 0, ⟨#[]⟩⟩, ⟨11, 0, 0, ⟨#[]⟩⟩, ⟨16, 0, 0, ⟨#[]⟩⟩, ⟨7, 0, 0, ⟨#[]⟩⟩, ⟨8, 0, 0, ⟨#[]⟩⟩] [] = 0 ∧ ugA [⟨10, 0, 0, ⟨#[]⟩⟩, ⟨11, 0, 0, ⟨#[]⟩⟩, ⟨16, 0, 0, ⟨#[]⟩⟩, ⟨7, 0, 0, ⟨#[]⟩⟩, ⟨8, 0, 0, ⟨#[]⟩⟩] [] = [⟨11, 0, 0, ⟨#[]⟩⟩] := by
 obtain ⟨h1, h2⟩ := ug_ur (t := [⟨10, 0, 0, ⟨#[]⟩⟩, ⟨11, 0, 0, ⟨#[]⟩⟩, ⟨16, 0, 0, ⟨#[]⟩⟩, ⟨7, 0, 0, ⟨#[]⟩⟩, ⟨8, 0, 0, ⟨#[]⟩⟩]) (c := []) (by decide)
 rw [h1, h2]
 exact ⟨sh14.1, sh14.2.1⟩
theorem kin_ref (t : List Nd) (c : List (List (List Nd))) : kinB (ugE t c) (bRq t c).2 = true := by
 unfold kinB
 rcases (ug_ref t c).1 with h | ⟨h1, h2⟩
 · rw [h]; simp
 · rw [h1, h2]; simp
theorem bRq_len (t : List Nd) (c : List (List (List Nd))) : (bRq t c).1.length ≤ 4000 := by
 unfold bRq bDone
 by_cases hc : chk t = 0
 ·
  rw [if_pos hc]
  by_cases h0 : (bRu t c).2 = 0
  ·
   rw [if_pos h0]
   by_cases h1 : chk (bRu t c).1 = 0
   · rw [if_pos h1]; exact chk_le h1
   · rw [if_neg h1]; simp
  · rw [if_neg h0]; simp
 · rw [if_neg hc]; simp
end
end Go.Proofs.YtpfmnpaifchleaaDoor
namespace Go.Proofs.YtpfmnpaifchleaaDoor
open Go Go.RowKit
set_option linter.unusedSimpArgs false
set_option linter.unusedVariables false
set_option maxRecDepth 100000
set_option maxHeartbeats 1000000
theorem lv_calls (w0 : World) (Z : Nat → Prop) (hZ : ∀ k, Z k → k < w0.heap.size) (n : Int)  :
    Calls Tryd.prog 99 [.int .i64 n].toArray w0 (fun e w' => e = .returned (.bool (!decide (0 ≤ n ∧ n ≤ 9))) ∧ Fr none_ w0 w') := by
 have b0 := s0 (M := none_) hZ zn
 refine c_enter Tryd.func99 rfl Tryd.ntmps99 rfl fun c0 d0 => ?_
 refine wsc fun c0 f0 => aw d0 f0 fun c0 h0 => ?_
 refine wsc fun f0 c0 => lR h0 fun f0 d0 => ?_
 refine lOr 2 (decide (9 < (n))) d0 fun f0 h0 => ?_
 refine aw h0 c0 fun f0 d0 => ?_
 refine wp_ret <| er1 d0 ?_
 refine ⟨?_, b0.fr⟩
 exact cr (ret_b (by (rw [Bool.eq_iff_iff]; simp [] <;> omega)))
theorem lvIndex_calls (w0 : World) (Z : Nat → Prop) (hZ : ∀ k, Z k → k < w0.heap.size) (tA : Option Addr) (tc : Nat) (t : List Int) (ht : (dRow 1 tA t.length tc (encIs t)).φ w0 Z) (hl : t.length ≤ 1000000 := by first | assumption | omega | (simp <;> omega)) :
    Calls Tryd.prog 103 [.slice tA t.length tc, .func (.func 99) #[] #[]].toArray w0 (fun e w' => e = .returned (.int .i64 (lvIndex t)) ∧ Fr none_ w0 w') := by
 have b0 := s0 (M := none_) hZ (zc ht zn)
 refine c_enter Tryd.func103 rfl Tryd.ntmps103 rfl fun c0 d0 => ?_
 refine wsc fun c0 f0 => aw d0 f0 fun c0 i0 => ?_
 refine wp_seq_k fun f0 c0 => wsc fun f0 d0 => lR i0 fun f0 j0 => ?_
 refine wn d0 <| wp_block ?_
 refine wp_loop_ghost (fun gn ga gw => ∃ k : Nat, (Reg ga 19 [(1000000, .bool false), (0, .slice tA t.length tc), (1, .func (.func 99) #[] #[]), (7, .int .i64 ((t.length : Nat) : Int)), (8, .int .i64 ((k : Nat) : Int))]) ∧ (St w0 Z none_ gw [] [dRow 1 tA t.length tc (encIs t)]) ∧ (k ≤ t.length) ∧ (lvIndex t = (let r := lvIndex (t.drop k); if r < 0 then r else r + (k : Int))) ∧ (t.length - k) = gn) _ ⟨0, (j0.sub (rc4 (rc rfl rnl))), b0, by omega, by simp, rfl⟩ ?_
 rintro j0 b0 d0 ⟨k, f0, i0, hk, hi, k0⟩
 refine wsc fun k0 d0 => lR f0 fun k0 b0 => ?_
 refine wn d0 <| wp_seq_k fun d0 k0 => ?_
 rcases Decidable.em (((k : Nat) : Int) < ((t.length : Nat) : Int)) with d0 | d0
 ·
  refine wct b0 (decide_eq_true d0) fun f0 => ?_
  refine wp_skip <| xn k0 <| wp_seq_k fun k0 j0 => wp_block ?_
  refine wsc fun k0 m0 => lR f0 fun k0 n0 => ?_
  refine wn m0 <| wsc fun m0 k0 => lR n0 fun m0 f0 => ?_
  refine ix k (k * 1) f0 (ints_elem (t := t) (k := k) (i0.row (i := 0) rfl).2 (by omega)).some_ fun m0 n0 => ?_
  refine lde 0 (k * 1) n0 (ints_elem (t := t) (k := k) (i0.row (i := 0) rfl).2 (by omega)) fun m0 f0 => ?_
  have m0 := i0.nf
  refine k_callV (xs := [.tmp 15]) se f0 rfl rfl rfl rfl (by decide) ok99 (lv_calls _ _ m0.il ((nthI t k))) ?_
  rintro f0 n0 ⟨rfl, o0⟩
  have n0 := m0.below o0.below
  refine ⟨_, rfl, fun o0 m0 => ?_⟩
  refine wn k0 ?_
  rcases Bool.eq_false_or_eq_true (!decide (0 ≤ ((nthI t k)) ∧ ((nthI t k)) ≤ 9)) with k0 | k0
  ·
   have o0 := not_t k0
   have f0 := of_decide_eq_false o0
   refine wct m0 k0 fun o0 => ?_
   refine wsc fun p0 q0 => lR o0 fun p0 t0 => ?_
   refine wn q0 <| wp_ret <| x_block_r <| x_then_r <| x_then_r <| x_block_r <| x_then_r <| er1 t0 ?_
   refine ⟨?_, n0.fr⟩
   exact cr (ret_i (by exact (lvIndex_here (k := k) hi (by omega) (by intro t0; have q := f0; simp at q; omega)).symm))
  have t0 := not_f k0
  have f0 := of_decide_eq_true t0
  refine wcf m0 k0 fun t0 => ?_
  refine wp_skip <| x_block_n <| xn j0 <| c_region ?_
  refine adi ((k + 1 : Nat) : Int) t0 fun j0 k0 => ?_
  refine mv k0 fun j0 t0 => ?_
  refine wpList_nil ?_
  exact ⟨_, by omega, k + 1, (t0.sub (rc4 (rc rfl rnl))), n0, by omega, lvIndex_step hi (by omega) (by have q := f0; simpa using q), rfl⟩
 refine wcf b0 (decide_eq_false d0) fun t0 => ?_
 refine wp_exit ?_
 refine x_then_e ?_
 refine x_then_e ?_
 refine x_block_eq ?_
 refine xn c0 <| wsc fun c0 d0 => aw t0 d0 fun c0 b0 => ?_
 refine wp_ret <| er1 b0 ?_
 refine ⟨?_, i0.fr⟩
 exact cr (ret_i (by exact (lvIndex_none hi (by omega)).symm))
theorem lvContains_calls (w0 : World) (Z : Nat → Prop) (hZ : ∀ k, Z k → k < w0.heap.size) (tA : Option Addr) (tc : Nat) (t : List Int) (ht : (dRow 1 tA t.length tc (encIs t)).φ w0 Z) (hl : t.length ≤ 1000000 := by first | assumption | omega | (simp <;> omega)) :
    Calls Tryd.prog 98 [.slice tA t.length tc, .func (.func 99) #[] #[]].toArray w0 (fun e w' => e = .returned (.bool (decide (0 ≤ lvIndex t))) ∧ Fr none_ w0 w') := by
 have b0 := s0 (M := none_) hZ (zc ht zn)
 refine c_enter Tryd.func98 rfl Tryd.ntmps98 rfl fun c0 d0 => ?_
 refine wsc fun c0 f0 => aw d0 f0 fun c0 h0 => ?_
 refine wsc fun f0 c0 => lR h0 fun f0 d0 => ?_
 have f0 := b0.nf
 refine kcl d0 ok103 (lvIndex_calls _ _ f0.il _ _ _ (f0.g 0)) ?_
 rintro d0 b0 ⟨rfl, h0⟩
 have b0 := f0.below h0.below
 refine ⟨_, rfl, fun h0 f0 => ?_⟩
 refine lR f0 fun h0 d0 => ?_
 refine wn c0 <| wp_ret <| er1 d0 ?_
 refine ⟨?_, b0.fr⟩
 exact cr (ret_b (by rfl))
theorem lvAll_calls (w0 : World) (Z : Nat → Prop) (hZ : ∀ k, Z k → k < w0.heap.size) (tA : Option Addr) (tc : Nat) (t : List Int) (ht : (dRow 1 tA t.length tc (encIs t)).φ w0 Z) (hl : t.length ≤ 1000000 := by first | assumption | omega | (simp <;> omega)) :
    Calls Tryd.prog 91 [.slice tA t.length tc].toArray w0 (fun e w' => e = .returned (.bool (!decide (0 ≤ lvIndex t))) ∧ Fr none_ w0 w') := by
 have b0 := s0 (M := none_) hZ (zc ht zn)
 refine c_enter Tryd.func91 rfl Tryd.ntmps91 rfl fun c0 d0 => ?_
 refine wsc fun c0 f0 => aw d0 f0 fun c0 h0 => ?_
 refine wsc fun f0 c0 => mv h0 fun f0 d0 => ?_
 have f0 := b0.nf
 refine kcl d0 ok98 (lvContains_calls _ _ f0.il _ _ _ (f0.g 0)) ?_
 rintro d0 b0 ⟨rfl, h0⟩
 have b0 := f0.below h0.below
 refine ⟨_, rfl, fun h0 f0 => ?_⟩
 refine lR f0 fun h0 d0 => ?_
 refine wn c0 <| wp_ret <| er1 d0 ?_
 refine ⟨?_, b0.fr⟩
 exact cr (ret_b (by rfl))
theorem lvCheck_calls (w0 : World) (Z : Nat → Prop) (hZ : ∀ k, Z k → k < w0.heap.size) (n : Int)  :
    Calls Tryd.prog 80 [.int .i64 n].toArray w0 (fun e w' => e = .returned (.int .i64 (lvChk n)) ∧ Fr none_ w0 w') := by
 have b0 := s0 (M := none_) hZ zn
 refine c_enter Tryd.func80 rfl Tryd.ntmps80 rfl fun c0 d0 => ?_
 refine wsc fun c0 f0 => aw d0 f0 fun c0 h0 => ?_
 refine wp_seq_k fun f0 c0 => wsc fun f0 d0 => mv h0 fun f0 i0 => ?_
 refine bsl i0 b0 fun f0 h0 j0 k0 m0 => ?_
 have h0 := m0.nf
 have m0 := h0.pub 0 (dRow 1 (some ⟨j0, 0, none⟩) 1 1 (encIs ([(n)])))
 refine kcl k0 ok91 (lvAll_calls _ _ m0.il _ _ ([(n)]) (m0.g 0)) ?_
 rintro k0 h0 ⟨rfl, j0⟩
 have h0 := m0.below j0.below
 refine ⟨_, rfl, fun j0 m0 => ?_⟩
 refine lR m0 fun j0 k0 => ?_
 refine wn d0 ?_
 rcases Bool.eq_false_or_eq_true (!decide (0 ≤ lvIndex ([(n)]))) with d0 | d0
 ·
  have j0 := not_t d0
  have m0 := of_decide_eq_false j0
  refine wcfb k0 rfl (by rw [d0]; rfl) fun j0 => ?_
  refine wp_skip <| xn c0 <| wsc fun c0 f0 => aw j0 f0 fun c0 i0 => ?_
  refine wp_ret <| er1 i0 ?_
  refine ⟨?_, h0.fr⟩
  exact cr (ret_i (by exact (lvChk_good (by have q := m0; simpa using q)).symm))
 have m0 := not_f d0
 have i0 := of_decide_eq_true m0
 refine wctb k0 rfl (by rw [d0]; rfl) fun m0 => ?_
 refine wsc fun d0 k0 => aw m0 k0 fun d0 f0 => ?_
 refine wp_ret <| x_then_r <| er1 f0 ?_
 refine ⟨?_, h0.fr⟩
 exact cr (ret_i (by exact (lvChk_bad (by have q := i0; simpa using q)).symm))
theorem most_calls (w0 : World) (Z : Nat → Prop) (hZ : ∀ k, Z k → k < w0.heap.size) (k : Int)  :
    Calls Tryd.prog 81 [.int .i64 k].toArray w0 (fun e w' => e = .returned (.int .i64 (most k)) ∧ Fr none_ w0 w') := by
 have b0 := s0 (M := none_) hZ zn
 refine c_enter Tryd.func81 rfl Tryd.ntmps81 rfl fun c0 d0 => ?_
 refine wsc fun c0 f0 => aw d0 f0 fun c0 h0 => ?_
 refine wp_seq_k fun f0 c0 => wsc fun f0 d0 => mv h0 fun f0 i0 => ?_
 refine wn d0 <| wp_block ?_
 refine wsc fun d0 f0 => lR i0 fun d0 h0 => ?_
 refine wn f0 ?_
 rcases Decidable.em ((k) = 0) with f0 | f0
 ·
  refine wct h0 (decide_eq_true f0) fun d0 => ?_
  refine wsc fun i0 j0 => aw d0 j0 fun i0 k0 => ?_
  refine wp_ret <| x_block_r <| x_then_r <| er1 k0 ?_
  refine ⟨?_, b0.fr⟩
  exact cr (ret_i (by have k0 := f0; (try simp at k0);  unfold most; (repeat' split) <;> omega))
 refine wcf h0 (decide_eq_false f0) fun j0 => ?_
 refine c_join (fun ga gw => Reg ga 9 [(2, .int .i64 0), (6, .bool ((decide ((k) = 3)) || (decide ((k) = 6)))), (1000000, .bool false)] ∧ St w0 Z none_ gw [] []) ?_ ?_
 ·
  refine wsc fun h0 i0 => lR j0 fun h0 d0 => ?_
  refine wn i0 ?_
  rcases Decidable.em ((k) = 3) with i0 | i0
  ·
   refine wct d0 (decide_eq_true i0) fun h0 => ?_
   refine wp_skip ?_
   exact x_then_n ⟨(h0.sub (rc rfl (rc (rb rfl (by (simp only [decide_eq_true i0, if_pos i0, bl]; done))) (rc rfl rnl)))), b0⟩
  refine wcf d0 (decide_eq_false i0) fun h0 => ?_
  refine c_region ?_
  refine lR h0 fun d0 j0 => ?_
  refine wpList_nil ?_
  exact x_then_n ⟨(j0.sub (rc rfl (rc (rb rfl (by (simp only [decide_eq_false i0, if_neg i0, bl]; done))) (rc rfl rnl)))), b0⟩
 rintro j0 i0 ⟨b0, d0⟩
 rcases Bool.eq_false_or_eq_true (((decide ((k) = 3)) || (decide ((k) = 6)))) with i0 | i0
 ·
  have j0 := i0
  try simp only [bz] at j0
  refine wct b0 i0 fun j0 => ?_
  refine wsc fun h0 m0 => aw j0 m0 fun h0 n0 => ?_
  refine wp_ret <| x_block_r <| x_then_r <| er1 n0 ?_
  refine ⟨?_, d0.fr⟩
  exact cr (ret_i (by have k0 := f0; (try simp at k0); have n0 := i0; (try simp at n0);  unfold most; (repeat' split) <;> omega))
 have m0 := or_fl i0
 have h0 := of_decide_eq_false m0
 have m0 := or_fr i0
 have j0 := of_decide_eq_false m0
 refine wcf b0 i0 fun m0 => ?_
 refine wp_skip <| x_block_n <| xn c0 <| wsc fun c0 b0 => aw m0 b0 fun c0 o0 => ?_
 refine wp_ret <| er1 o0 ?_
 refine ⟨?_, d0.fr⟩
 exact cr (ret_i (by have k0 := f0; (try simp at k0); have n0 := i0; (try simp at n0); have d0 := h0; (try simp at d0); have o0 := j0; (try simp at o0);  unfold most; (repeat' split) <;> omega))
theorem many_calls (w0 : World) (Z : Nat → Prop) (hZ : ∀ k, Z k → k < w0.heap.size) (n : Nd) (hShp : Shapes w0 Z) (hr : right n = true := by first | assumption | omega | (simp <;> omega)) :
    Calls Tryd.prog 36 [.agg #[.int .i64 (n.K), .int .i64 (n.N), .int .i64 (n.M), .string n.S]].toArray w0 (fun e w' => e = .returned (.int .i64 ((many n : Nat) : Int)) ∧ Fr none_ w0 w') := by
 have b0 := s0 (M := none_) hZ (zc (d := dShapes) hShp zn)
 obtain ⟨c0, d0⟩ := right_K hr
 refine c_enter Tryd.func36 rfl Tryd.ntmps36 rfl fun d0 c0 => ?_
 refine wsc fun d0 f0 => bxx c0 b0 fun d0 h0 i0 j0 k0 => ?_
 refine aw j0 f0 fun i0 h0 => ?_
 refine wp_seq_k fun f0 i0 => wsc fun f0 j0 => lR h0 fun f0 d0 => ?_
 refine wn j0 <| wp_block ?_
 refine wsc fun j0 f0 => lR d0 fun j0 h0 => ?_
 refine wn f0 ?_
 rcases Decidable.em ((n.K) = 26) with f0 | f0
 ·
  refine wct h0 (decide_eq_true f0) fun j0 => ?_
  refine wsc fun d0 c0 => lR j0 fun d0 b0 => ?_
  refine wn c0 <| wp_ret <| x_block_r <| x_then_r <| er1 b0 ?_
  refine ⟨?_, k0.fr⟩
  exact cr (ret_i (by exact many_con hr (by omega)))
 refine wcf h0 (decide_eq_false f0) fun b0 => ?_
 refine wsc fun f0 h0 => lR b0 fun f0 c0 => ?_
 refine wn h0 ?_
 rcases Decidable.em ((n.K) = 27) with h0 | h0
 ·
  obtain ⟨f0, b0⟩ := right_elim hr h0
  refine wct c0 (decide_eq_true h0) fun b0 => ?_
  refine wsc fun f0 d0 => lR b0 fun f0 j0 => ?_
  refine adi (n.M + 2) j0 fun f0 b0 => ?_
  refine aw b0 d0 fun f0 j0 => ?_
  refine wp_ret <| x_block_r <| x_then_r <| er1 j0 ?_
  refine ⟨?_, k0.fr⟩
  exact cr (ret_i (by first | exact many_elim hr (by omega) | exact many_oth (by omega) (by omega)))
 refine wcf c0 (decide_eq_false h0) fun j0 => ?_
 refine wp_skip <| x_block_n <| xn i0 <| wsc fun i0 h0 => lR j0 fun i0 c0 => ?_
 refine m_indexA (i := ((n.K)).toNat) (j := (((n.K)).toNat) * 4) sv c0 rfl rfl rfl rfl Tryd.underlying93 sz92 (by omega) (by omega) rfl (by decide) fun i0 j0 => ?_
 refine m_fieldE (j' := (((n.K)).toNat) * 4) sv j0 rfl rfl rfl rfl Tryd.underlying92 rfl sz82 rfl rfl (by decide) fun i0 c0 => ?_
 obtain ⟨i0, j0, d0, f0⟩ := shapes_at (k0.get (i := 0) rfl) (((n.K)).toNat) (by omega)
 have b0 := k0.data (dRow 1 i0 (shp (((n.K)).toNat)).b.length j0 (encIs (shp (((n.K)).toNat)).b)) d0
 refine m_loadE sv c0 rfl rfl rfl 0 ((((n.K)).toNat) * 4) f0 rfl rfl Tryd.underlying82 rfl (by decide) fun d0 j0 => ?_
 refine lR j0 fun d0 f0 => ?_
 refine wn h0 <| wp_ret <| er1 f0 ?_
 refine ⟨?_, b0.fr⟩
 exact cr (ret_i (by first | exact many_elim hr (by omega) | exact many_oth (by omega) (by omega)))
theorem name_calls (w0 : World) (Z : Nat → Prop) (hZ : ∀ k, Z k → k < w0.heap.size) (s : ByteArray) (hs : s.size < 1000000 := by first | assumption | omega | (simp <;> omega)) :
    Calls Tryd.prog 79 [.string s].toArray w0 (fun e w' => e = .returned (.bool (nameOk s)) ∧ Fr none_ w0 w') := by
 have b0 := s0 (M := none_) hZ zn
 refine c_enter Tryd.func79 rfl Tryd.ntmps79 rfl fun c0 d0 => ?_
 refine wsc fun c0 f0 => aw d0 f0 fun c0 h0 => ?_
 refine wp_seq_k fun f0 c0 => wsc fun f0 d0 => lR h0 fun f0 i0 => ?_
 refine wn d0 <| wp_block ?_
 refine wp_loop_ghost (fun gn ga gw => ∃ k : Nat, (Reg ga 48 [(1000000, .bool false), (0, .string s), (7, .int .i64 ((s.size : Nat) : Int)), (8, .int .i64 ((k : Nat) : Int))]) ∧ (St w0 Z none_ gw [] []) ∧ (k ≤ s.size) ∧ (nameTo s k) ∧ (s.size - k) = gn) _ ⟨0, (i0.sub (rc2 (rc rfl (rc rfl rnl)))), b0, by omega, nameTo_zero s, rfl⟩ ?_
 rintro i0 b0 d0 ⟨k, f0, h0, hk, hi, j0⟩
 refine wsc fun j0 d0 => lR f0 fun j0 b0 => ?_
 refine wn d0 <| wp_seq_k fun d0 j0 => ?_
 rcases Decidable.em (((k : Nat) : Int) < ((s.size : Nat) : Int)) with d0 | d0
 ·
  refine wct b0 (decide_eq_true d0) fun f0 => ?_
  refine wp_skip <| xn j0 <| wp_seq_k fun j0 i0 => wp_block ?_
  refine wsc fun j0 k0 => lR f0 fun j0 m0 => ?_
  refine wn k0 <| wsc fun k0 j0 => lR m0 fun k0 f0 => ?_
  refine r_byte (i := k) sv f0 rfl rfl rfl rfl Tryd.underlying9 (by omega) (by omega) (by decide) fun k0 m0 => ?_
  refine aw m0 j0 fun k0 f0 => ?_
  refine wsc fun j0 k0 => mv f0 fun j0 m0 => ?_
  refine r_int (v := .int .u8 ((orB (byteAt s k) 32 : Nat) : Int)) sv m0 rfl rfl rfl rfl (by decide) (run_or8 (a := byteAt s k) (b := 32) (by exact byteAt_lt _ _) (by omega)) fun j0 f0 => ?_
  refine lR f0 fun j0 m0 => ?_
  refine l_and 3 (decide (((orB (byteAt s k) 32 : Nat) : Int) ≤ 122)) m0 (fun j0 f0 n0 => ?_) fun o0 p0 => ?_
  ·
   have o0 := of_decide_eq_true j0
   refine r_move (st_listV_w (wt f0)) f0 rfl rfl rfl (by decide) fun o0 j0 => ?_
   refine r_int (v := .int .u8 ((orB (byteAt s k) 32 : Nat) : Int)) (st_listV_w (wt j0)) j0 rfl rfl rfl rfl (by decide) (run_or8 (a := byteAt s k) (b := 32) (by exact byteAt_lt _ _) (by omega)) fun o0 f0 => ?_
   refine r_leq (st_listV_w (wt f0)) f0 rfl rfl rfl rfl (by decide) fun o0 j0 => ?_
   refine r_pick_t sv j0 rfl rfl rfl rfl (by decide) fun o0 f0 => ?_
   exact n0.fin f0
  refine mv p0 fun f0 n0 => ?_
  refine lOr 2 (decide (((byteAt s k : Nat) : Int) = 95)) n0 fun f0 p0 => ?_
  refine aw p0 k0 fun f0 n0 => ?_
  refine wsc fun k0 f0 => lR n0 fun k0 p0 => ?_
  refine l_join (fun ga gw => Reg ga 48 [(0, .string s), (7, .int .i64 ((s.size : Nat) : Int)), (8, .int .i64 ((k : Nat) : Int)), (39, .bool ((!(((decide (97 ≤ ((orB (byteAt s k) 32 : Nat) : Int))) && (decide (((orB (byteAt s k) 32 : Nat) : Int) ≤ 122))) || (decide (((byteAt s k : Nat) : Int) = 95)))) && ((decide (((k : Nat) : Int) = 0)) || ((decide (((byteAt s k : Nat) : Int) < 48)) || (decide (57 < ((byteAt s k : Nat) : Int))))))), (1000000, .bool false)] ∧ St w0 Z none_ gw [] []) 11 ?_ ?_
  ·
   rcases Bool.eq_false_or_eq_true ((((decide (97 ≤ ((orB (byteAt s k) 32 : Nat) : Int))) && (decide (((orB (byteAt s k) 32 : Nat) : Int) ≤ 122))) || (decide (((byteAt s k : Nat) : Int) = 95)))) with k0 | k0
   ·
    have n0 := k0
    try simp only [bz] at n0
    have n0 := p0.setb (d := 28) (b := false) rfl (by rw [k0]; rfl)
    refine lR n0 fun o0 j0 => ?_
    refine wpList_nil ?_
    exact x_then_n ⟨(j0.sub (rc2 (rc rfl (rc (rb rfl (by (simp only [k0, bl]; done))) (rc rfl rnl))))), h0⟩
   have j0 := or_fl k0
   have o0 := j0
   try simp only [bz] at o0
   have o0 := or_fr k0
   have j0 := of_decide_eq_false o0
   have j0 := p0.setb (d := 28) (b := true) rfl (by rw [k0]; rfl)
   refine lR j0 fun p0 o0 => ?_
   rcases Decidable.em (((k : Nat) : Int) = 0) with p0 | p0
   ·
    have j0 := o0.setb (d := 31) (b := true) rfl (decide_eq_true p0)
    refine lR j0 fun n0 m0 => ?_
    refine wpList_nil ?_
    exact x_then_n ⟨(m0.sub (rc2 (rc rfl (rc (rb rfl (by (simp only [k0, decide_eq_true p0, if_pos p0, bl]; done))) (rc rfl rnl))))), h0⟩
   have m0 := o0.setb (d := 31) (b := false) rfl (decide_eq_false p0)
   refine lR m0 fun o0 n0 => ?_
   rcases Decidable.em (((byteAt s k : Nat) : Int) < 48) with o0 | o0
   ·
    have m0 := n0.setb (d := 35) (b := true) rfl (decide_eq_true o0)
    refine lR m0 fun j0 t0 => ?_
    refine wpList_nil ?_
    exact x_then_n ⟨(t0.sub (rc2 (rc rfl (rc (rb rfl (by (simp only [k0, decide_eq_false p0, if_neg p0, decide_eq_true o0, if_pos o0, bl]; done))) (rc rfl rnl))))), h0⟩
   have t0 := n0.setb (d := 35) (b := false) rfl (decide_eq_false o0)
   refine lR t0 fun n0 j0 => ?_
   refine wpList_nil ?_
   exact x_then_n ⟨(j0.sub (rc2 (rc rfl (rc (rb rfl (by (simp only [k0, decide_eq_false p0, if_neg p0, decide_eq_false o0, if_neg o0, bl]; done))) (rc rfl rnl))))), h0⟩
  rintro j0 o0 ⟨p0, k0⟩
  refine wn f0 ?_
  rcases Bool.eq_false_or_eq_true (((!(((decide (97 ≤ ((orB (byteAt s k) 32 : Nat) : Int))) && (decide (((orB (byteAt s k) 32 : Nat) : Int) ≤ 122))) || (decide (((byteAt s k : Nat) : Int) = 95)))) && ((decide (((k : Nat) : Int) = 0)) || ((decide (((byteAt s k : Nat) : Int) < 48)) || (decide (57 < ((byteAt s k : Nat) : Int))))))) with f0 | f0
  ·
   have o0 := and_tl f0
   have j0 := not_t o0
   have o0 := or_fl j0
   have n0 := o0
   try simp only [bz] at n0
   have n0 := or_fr j0
   have j0 := of_decide_eq_false n0
   have n0 := and_tr f0
   have o0 := n0
   try simp only [bz] at o0
   refine wct p0 f0 fun o0 => ?_
   refine wsc fun n0 t0 => aw o0 t0 fun n0 m0 => ?_
   refine wp_ret <| x_block_r <| x_then_r <| x_then_r <| x_block_r <| x_then_r <| er1 m0 ?_
   refine ⟨?_, k0.fr⟩
   exact cr (ret_b (by exact (name_bad (k := k) (by omega) (by have m0 := d0; (try simp at m0); have t0 := f0; (try simp at t0); have n0 := j0; (try simp at n0);  unfold okC; omega)).symm))
  have n0 := f0
  try simp only [bz] at n0
  refine wcf p0 f0 fun n0 => ?_
  refine wp_skip <| x_block_n <| xn i0 <| c_region ?_
  refine adi ((k + 1 : Nat) : Int) n0 fun i0 p0 => ?_
  refine mv p0 fun i0 n0 => ?_
  refine wpList_nil ?_
  exact ⟨_, by omega, k + 1, (n0.sub (rc2 (rc rfl (rc rfl rnl)))), k0, by omega, nameTo_step hi (by have m0 := d0; (try simp at m0); have t0 := f0; (try simp at t0);  unfold okC; omega), rfl⟩
 refine wcf b0 (decide_eq_false d0) fun n0 => ?_
 refine wp_exit ?_
 refine x_then_e ?_
 refine x_then_e ?_
 refine x_block_eq ?_
 refine xn c0 <| wsc fun c0 d0 => lR n0 fun c0 b0 => ?_
 refine lAn 3 (decide (((s.size : Nat) : Int) ≤ 16)) b0 fun c0 n0 => ?_
 refine aw n0 d0 fun c0 b0 => ?_
 refine wp_ret <| er1 b0 ?_
 refine ⟨?_, h0.fr⟩
 exact cr (ret_b (by (rw [name_end hi (by omega)]; done)))
theorem heavy14_calls (w0 : World) (Z : Nat → Prop) (hZ : ∀ k, Z k → k < w0.heap.size) (tA : Option Addr) (tc : Nat) (t : List Nd) (ht : (dRow 4 tA t.length tc (encNs t)).φ w0 Z) :
    Calls Tryd.prog 5 [.slice tA t.length tc].toArray w0 (fun e w' => e = .returned (.bool (heavyB 120 t)) ∧ Fr none_ w0 w') := by
 have b0 := s0 (M := none_) hZ (zc ht zn)
 refine c_enter Tryd.func5 rfl Tryd.ntmps5 rfl fun c0 d0 => ?_
 refine wsc fun c0 f0 => aw d0 f0 fun c0 h0 => ?_
 refine wp_seq_k fun f0 c0 => wsc fun f0 d0 => lR h0 fun f0 i0 => ?_
 refine wn d0 ?_
 rcases Decidable.em (120 < ((t.length : Nat) : Int)) with d0 | d0
 ·
  refine wct i0 (decide_eq_true d0) fun f0 => ?_
  refine wsc fun h0 j0 => aw f0 j0 fun h0 k0 => ?_
  refine wp_ret <| x_then_r <| er1 k0 ?_
  refine ⟨?_, b0.fr⟩
  exact cr (ret_b (by exact (heavy_len (by omega)).symm))
 refine wcf i0 (decide_eq_false d0) fun k0 => ?_
 refine wp_skip <| xn c0 <| wp_seq_k fun c0 d0 => wsc fun c0 i0 => aw k0 i0 fun c0 j0 => ?_
 refine wp_block ?_
 refine wp_loop_ghost (fun gn ga gw => ∃ k : Nat, (Reg ga 20 [(1000000, .bool false), (0, .slice tA t.length tc), (3, .int .i64 ((k : Nat) : Int))]) ∧ (St w0 Z none_ gw [] [dRow 4 tA t.length tc (encNs t)]) ∧ (k ≤ t.length) ∧ (lightTo t k) ∧ (t.length - k) = gn) _ ⟨0, (j0.sub (rc2 (rc rfl rnl))), b0, by omega, (fun _ h => by omega), rfl⟩ ?_
 rintro j0 b0 i0 ⟨k, c0, k0, hk, hi, h0⟩
 refine wp_seq_k fun h0 i0 => wsc fun h0 b0 => lR c0 fun h0 j0 => ?_
 refine wn b0 ?_
 rcases Decidable.em (((k : Nat) : Int) < ((t.length : Nat) : Int)) with b0 | b0
 ·
  refine wct j0 (decide_eq_true b0) fun h0 => ?_
  refine wp_skip <| xn i0 <| wp_seq_k fun i0 c0 => wp_block ?_
  refine wsc fun i0 f0 => lR h0 fun i0 m0 => ?_
  refine ix k (k * 4) m0 (nds_elem (t := t) (k := k) (k0.row (i := 0) rfl).2 (by omega)).some_ fun i0 h0 => ?_
  refine m_fieldE (j' := k * 4 + 3) sv h0 rfl rfl rfl (nds_elem (t := t) (k := k) (k0.row (i := 0) rfl).2 (by omega)).some_ Tryd.underlying39 rfl sz9 rfl rfl (by decide) fun i0 m0 => ?_
  refine lde 3 (k * 4) m0 (nds_elem (t := t) (k := k) (k0.row (i := 0) rfl).2 (by omega)) fun i0 h0 => ?_
  refine lR h0 fun i0 m0 => ?_
  refine wn f0 ?_
  rcases Decidable.em (100 < ((((nth t k).S).size : Nat) : Int)) with f0 | f0
  ·
   refine wct m0 (decide_eq_true f0) fun i0 => ?_
   refine wsc fun h0 n0 => aw i0 n0 fun h0 o0 => ?_
   refine wp_ret <| x_block_r <| x_then_r <| x_then_r <| x_block_r <| x_then_r <| er1 o0 ?_
   refine ⟨?_, k0.fr⟩
   exact cr (ret_b (by exact (heavy_at (k := k) (by omega) (by omega)).symm))
  refine wcf m0 (decide_eq_false f0) fun o0 => ?_
  refine wp_skip <| x_block_n <| xn c0 <| c_region ?_
  refine mv o0 fun c0 f0 => ?_
  refine adi ((k + 1 : Nat) : Int) f0 fun c0 o0 => ?_
  refine asg o0 fun c0 f0 => ?_
  refine wpList_nil ?_
  exact ⟨_, by omega, k + 1, (f0.sub (rc2 (rc rfl rnl))), k0, by omega, light_step hi (by omega), rfl⟩
 refine wcf j0 (decide_eq_false b0) fun f0 => ?_
 refine wp_exit ?_
 refine x_then_e ?_
 refine x_then_e ?_
 refine x_block_eq ?_
 refine xn d0 <| wsc fun d0 b0 => aw f0 b0 fun d0 j0 => ?_
 refine wp_ret <| er1 j0 ?_
 refine ⟨?_, k0.fr⟩
 exact cr (ret_b (by exact (heavy_no hi (by omega) (by omega)).symm))
theorem rlevel_calls (w0 : World) (Z : Nat → Prop) (hZ : ∀ k, Z k → k < w0.heap.size) (n : Int)  :
    Calls Tryd.prog 78 [.int .i64 n].toArray w0 (fun e w' => e = .returned (.bool (decide (0 ≤ n) && decide (n ≤ 9))) ∧ Fr none_ w0 w') := by
 have b0 := s0 (M := none_) hZ zn
 refine c_enter Tryd.func78 rfl Tryd.ntmps78 rfl fun c0 d0 => ?_
 refine wsc fun c0 f0 => aw d0 f0 fun c0 h0 => ?_
 refine wsc fun f0 c0 => lR h0 fun f0 d0 => ?_
 refine lAn 2 (decide ((n) ≤ 9)) d0 fun f0 h0 => ?_
 refine aw h0 c0 fun f0 d0 => ?_
 refine wp_ret <| er1 d0 ?_
 refine ⟨?_, b0.fr⟩
 exact cr (ret_b (by rfl))
theorem rlvCheck_calls (w0 : World) (Z : Nat → Prop) (hZ : ∀ k, Z k → k < w0.heap.size) (n : Int)  :
    Calls Tryd.prog 66 [.int .i64 n].toArray w0 (fun e w' => e = .returned (.int .i64 (lvChk n)) ∧ Fr none_ w0 w') := by
 have b0 := s0 (M := none_) hZ zn
 refine c_enter Tryd.func66 rfl Tryd.ntmps66 rfl fun c0 d0 => ?_
 refine wsc fun c0 f0 => aw d0 f0 fun c0 h0 => ?_
 refine wp_seq_k fun f0 c0 => wsc fun f0 d0 => mv h0 fun f0 i0 => ?_
 have f0 := b0.nf
 refine kcl i0 ok78 (rlevel_calls _ _ f0.il (n)) ?_
 rintro i0 b0 ⟨rfl, h0⟩
 have b0 := f0.below h0.below
 refine ⟨_, rfl, fun h0 f0 => ?_⟩
 refine lR f0 fun h0 i0 => ?_
 refine wn d0 ?_
 rcases Bool.eq_false_or_eq_true (decide (0 ≤ (n)) && decide ((n) ≤ 9)) with d0 | d0
 ·
  have h0 := and_tl d0
  have f0 := of_decide_eq_true h0
  have h0 := and_tr d0
  have j0 := of_decide_eq_true h0
  refine wcfb i0 rfl (by rw [d0]; rfl) fun h0 => ?_
  refine wp_skip <| xn c0 <| wsc fun c0 k0 => aw h0 k0 fun c0 m0 => ?_
  refine wp_ret <| er1 m0 ?_
  refine ⟨?_, b0.fr⟩
  exact cr (ret_i (by have m0 := d0; (try simp at m0); have k0 := f0; (try simp at k0); have c0 := j0; (try simp at c0);  unfold lvChk; (try split) <;> first | rfl | omega))
 have c0 := d0
 try simp only [bz] at c0
 refine wctb i0 rfl (by rw [d0]; rfl) fun c0 => ?_
 refine wsc fun i0 k0 => aw c0 k0 fun i0 j0 => ?_
 refine wp_ret <| x_then_r <| er1 j0 ?_
 refine ⟨?_, b0.fr⟩
 exact cr (ret_i (by have m0 := d0; (try simp at m0);  unfold lvChk; (try split) <;> first | rfl | omega))
theorem rletter_calls (w0 : World) (Z : Nat → Prop) (hZ : ∀ k, Z k → k < w0.heap.size) (c : Nat)  :
    Calls Tryd.prog 77 [.int .u8 ((c : Nat) : Int)].toArray w0 (fun e w' => e = .returned (.bool (letN c)) ∧ Fr none_ w0 w') := by
 have b0 := s0 (M := none_) hZ zn
 refine c_enter Tryd.func77 rfl Tryd.ntmps77 rfl fun c0 d0 => ?_
 refine wsc fun c0 f0 => aw d0 f0 fun c0 h0 => ?_
 refine wsc fun f0 c0 => lR h0 fun f0 d0 => ?_
 refine lAn 2 (decide (((c : Nat) : Int) ≤ 122)) d0 fun f0 h0 => ?_
 refine mv h0 fun f0 d0 => ?_
 refine l_join (fun ga gw => Reg ga 21 [(0, .int .u8 ((c : Nat) : Int)), (2, .bool false), (16, .bool (((decide (97 ≤ ((c : Nat) : Int))) && (decide (((c : Nat) : Int) ≤ 122))) || ((decide (65 ≤ ((c : Nat) : Int))) && (decide (((c : Nat) : Int) ≤ 90))))), (1000000, .bool false)] ∧ St w0 Z none_ gw [] []) 7 ?_ ?_
 ·
  rcases Bool.eq_false_or_eq_true (((decide (97 ≤ ((c : Nat) : Int))) && (decide (((c : Nat) : Int) ≤ 122)))) with f0 | f0
  ·
   have h0 := and_tl f0
   have i0 := of_decide_eq_true h0
   have i0 := and_tr f0
   have h0 := of_decide_eq_true i0
   have h0 := d0.setb (d := 9) (b := true) rfl f0
   refine lR h0 fun i0 j0 => ?_
   refine wpList_nil ?_
   exact x_then_n ⟨(j0.sub (rc2 (rc (rb rfl (by (simp only [f0, bl]; done))) (rc rfl rnl)))), b0⟩
  have j0 := f0
  try simp only [bz] at j0
  have j0 := d0.setb (d := 9) (b := false) rfl f0
  refine lR j0 fun d0 i0 => ?_
  rcases Decidable.em (65 ≤ ((c : Nat) : Int)) with d0 | d0
  ·
   have j0 := i0.setb (d := 12) (b := true) rfl (decide_eq_true d0)
   refine lR j0 fun h0 k0 => ?_
   refine wpList_nil ?_
   exact x_then_n ⟨(k0.sub (rc2 (rc (rb rfl (by (simp only [f0, decide_eq_true d0, if_pos d0, bl]; done))) (rc rfl rnl)))), b0⟩
  have k0 := i0.setb (d := 12) (b := false) rfl (decide_eq_false d0)
  refine lR k0 fun i0 h0 => ?_
  refine wpList_nil ?_
  exact x_then_n ⟨(h0.sub (rc2 (rc (rb rfl (by (simp only [f0, decide_eq_false d0, if_neg d0, bl]; done))) (rc rfl rnl)))), b0⟩
 rintro h0 d0 ⟨f0, b0⟩
 refine mv f0 fun d0 h0 => ?_
 refine lOr 2 (decide (((c : Nat) : Int) = 95)) h0 fun d0 f0 => ?_
 refine aw f0 c0 fun d0 h0 => ?_
 refine wp_ret <| er1 h0 ?_
 refine ⟨?_, b0.fr⟩
 exact cr (ret_b (by rfl))
theorem rname_calls (w0 : World) (Z : Nat → Prop) (hZ : ∀ k, Z k → k < w0.heap.size) (s : ByteArray) (hs : s.size ≤ 9223372036854775807 := by first | assumption | omega | (simp <;> omega)) :
    Calls Tryd.prog 65 [.string s].toArray w0 (fun e w' => e = .returned (.bool (nameOk s)) ∧ Fr none_ w0 w') := by
 have b0 := s0 (M := none_) hZ zn
 refine c_enter Tryd.func65 rfl Tryd.ntmps65 rfl fun c0 d0 => ?_
 refine wsc fun c0 f0 => aw d0 f0 fun c0 h0 => ?_
 refine wp_seq_k fun f0 c0 => wsc fun f0 d0 => lR h0 fun f0 i0 => ?_
 refine lOr 3 (decide (16 < ((s.size : Nat) : Int))) i0 fun f0 h0 => ?_
 refine mv h0 fun f0 i0 => ?_
 refine l_join (fun ga gw => Reg ga 41 [(0, .string s), (2, .bool false), (17, .bool (((decide (((s.size : Nat) : Int) < 1)) || (decide (16 < ((s.size : Nat) : Int)))) || (!(letN (byteAt s 0))))), (1000000, .bool false)] ∧ St w0 Z none_ gw [] []) 5 ?_ ?_
 ·
  rcases Bool.eq_false_or_eq_true (((decide (((s.size : Nat) : Int) < 1)) || (decide (16 < ((s.size : Nat) : Int))))) with f0 | f0
  ·
   have h0 := f0
   try simp only [bz] at h0
   have h0 := i0.setb (d := 12) (b := true) rfl f0
   refine lR h0 fun j0 k0 => ?_
   refine wpList_nil ?_
   exact x_then_n ⟨(k0.sub (rc2 (rc (rb rfl (by (simp only [f0, bl]; done))) (rc rfl rnl)))), b0⟩
  have k0 := or_fl f0
  have j0 := of_decide_eq_false k0
  have j0 := or_fr f0
  have k0 := of_decide_eq_false j0
  have k0 := i0.setb (d := 12) (b := false) rfl f0
  refine lR k0 fun i0 j0 => ?_
  refine r_byte (i := 0) (st_listV_w (wt j0)) j0 rfl rfl rfl rfl Tryd.underlying9 (by omega) (by omega) (by decide) fun i0 k0 => ?_
  have i0 := b0.nf
  refine kcl k0 ok77 (rletter_calls _ _ i0.il (byteAt s 0)) ?_
  rintro k0 b0 ⟨rfl, j0⟩
  have b0 := i0.below j0.below
  refine ⟨_, rfl, fun j0 i0 => ?_⟩
  refine lR i0 fun j0 k0 => ?_
  refine wpList_nil ?_
  exact x_then_n ⟨(k0.sub (rc2 (rc (rb rfl (by (simp only [f0, bl]; done))) (rc rfl rnl)))), b0⟩
 rintro k0 b0 ⟨f0, j0⟩
 refine wn d0 ?_
 rcases Bool.eq_false_or_eq_true ((((decide (((s.size : Nat) : Int) < 1)) || (decide (16 < ((s.size : Nat) : Int)))) || (!(letN (byteAt s 0))))) with d0 | d0
 ·
  have b0 := d0
  try simp only [bz] at b0
  refine wct f0 d0 fun k0 => ?_
  refine wsc fun i0 h0 => aw k0 h0 fun i0 m0 => ?_
  refine wp_ret <| x_then_r <| er1 m0 ?_
  refine ⟨?_, j0.fr⟩
  exact cr (ret_b (by exact (rname_bad0 (by rcases b0 with h | h; exact .inl (by omega); exact .inr h)).symm))
 have b0 := or_fl d0
 have m0 := or_fl b0
 have h0 := of_decide_eq_false m0
 have h0 := or_fr b0
 have b0 := of_decide_eq_false h0
 have b0 := or_fr d0
 have h0 := not_f b0
 refine wcf f0 d0 fun h0 => ?_
 refine wp_skip <| xn c0 <| wp_seq_k fun c0 d0 => wsc fun c0 f0 => aw h0 f0 fun c0 b0 => ?_
 refine wp_block ?_
 refine wp_loop_ghost (fun gn ga gw => ∃ k : Nat, (Reg ga 41 [(0, .string s), (1000000, .bool false), (3, .int .i64 ((k : Nat) : Int))]) ∧ (St w0 Z none_ gw [] []) ∧ (k ≤ s.size) ∧ (nameTo s k) ∧ (s.size - k) = gn) _ ⟨0, (b0.sub (rc2 (rc rfl rnl))), j0, by omega, nameTo_zero s, rfl⟩ ?_
 rintro b0 j0 f0 ⟨k, c0, h0, hk, hi, m0⟩
 refine wp_seq_k fun m0 f0 => wsc fun m0 j0 => lR c0 fun m0 b0 => ?_
 refine wn j0 ?_
 rcases Decidable.em (((k : Nat) : Int) < ((s.size : Nat) : Int)) with j0 | j0
 ·
  refine wct b0 (decide_eq_true j0) fun m0 => ?_
  refine wp_skip <| xn f0 <| wp_seq_k fun f0 c0 => wp_block ?_
  refine wsc fun f0 i0 => lR m0 fun f0 k0 => ?_
  refine r_byte (i := k) sv k0 rfl rfl rfl rfl Tryd.underlying9 (by omega) (by omega) (by decide) fun f0 m0 => ?_
  have f0 := h0.nf
  refine kcl m0 ok77 (rletter_calls _ _ f0.il (byteAt s k)) ?_
  rintro m0 k0 ⟨rfl, n0⟩
  have k0 := f0.below n0.below
  refine ⟨_, rfl, fun n0 f0 => ?_⟩
  refine lR f0 fun n0 m0 => ?_
  refine l_join (fun ga gw => Reg ga 41 [(0, .string s), (3, .int .i64 ((k : Nat) : Int)), (40, .bool ((!(letN (byteAt s k))) && ((decide (((byteAt s k : Nat) : Int) < 48)) || (decide (57 < ((byteAt s k : Nat) : Int)))))), (1000000, .bool false)] ∧ St w0 Z none_ gw [] []) 11 ?_ ?_
  ·
   rcases Bool.eq_false_or_eq_true (letN (byteAt s k)) with n0 | n0
   ·
    have f0 := m0.setb (d := 29) (b := false) rfl (by rw [n0]; rfl)
    refine lR f0 fun o0 p0 => ?_
    refine wpList_nil ?_
    exact x_then_n ⟨(p0.sub (rc2 (rc (rb rfl (by (simp only [n0, bl]; done))) (rc rfl rnl)))), k0⟩
   have p0 := m0.setb (d := 29) (b := true) rfl (by rw [n0]; rfl)
   refine lR p0 fun m0 o0 => ?_
   refine r_byte (i := k) (st_listV_w (wt o0)) o0 rfl rfl rfl rfl Tryd.underlying9 (by omega) (by omega) (by decide) fun m0 p0 => ?_
   refine lR p0 fun m0 o0 => ?_
   rcases Decidable.em (((byteAt s k : Nat) : Int) < 48) with m0 | m0
   ·
    have p0 := o0.setb (d := 34) (b := true) rfl (decide_eq_true m0)
    refine lR p0 fun f0 q0 => ?_
    refine wpList_nil ?_
    exact x_then_n ⟨(q0.sub (rc2 (rc (rb rfl (by (simp only [n0, decide_eq_true m0, if_pos m0, bl]; done))) (rc rfl rnl)))), k0⟩
   have q0 := o0.setb (d := 34) (b := false) rfl (decide_eq_false m0)
   refine lR q0 fun o0 f0 => ?_
   refine r_byte (i := k) (st_listV_w (wt f0)) f0 rfl rfl rfl rfl Tryd.underlying9 (by omega) (by omega) (by decide) fun o0 q0 => ?_
   refine lR q0 fun o0 f0 => ?_
   refine wpList_nil ?_
   exact x_then_n ⟨(f0.sub (rc2 (rc (rb rfl (by (simp only [n0, decide_eq_false m0, if_neg m0, bl]; done))) (rc rfl rnl)))), k0⟩
  rintro f0 m0 ⟨n0, k0⟩
  refine wn i0 ?_
  rcases Bool.eq_false_or_eq_true (((!(letN (byteAt s k))) && ((decide (((byteAt s k : Nat) : Int) < 48)) || (decide (57 < ((byteAt s k : Nat) : Int)))))) with i0 | i0
  ·
   have m0 := and_tl i0
   have f0 := not_t m0
   have f0 := and_tr i0
   have m0 := f0
   try simp only [bz] at m0
   refine wct n0 i0 fun m0 => ?_
   refine wsc fun f0 o0 => aw m0 o0 fun f0 q0 => ?_
   refine wp_ret <| x_block_r <| x_then_r <| x_then_r <| x_block_r <| x_then_r <| er1 q0 ?_
   refine ⟨?_, k0.fr⟩
   exact cr (ret_b (by exact (rname_bad (k := k) (by omega) (by assumption) (by omega)).symm))
  have q0 := i0
  try simp only [bz] at q0
  refine wcf n0 i0 fun o0 => ?_
  refine wp_skip <| x_block_n <| xn c0 <| c_region ?_
  refine mv o0 fun c0 i0 => ?_
  refine adi ((k + 1 : Nat) : Int) i0 fun c0 o0 => ?_
  refine asg o0 fun c0 i0 => ?_
  refine wpList_nil ?_
  exact ⟨_, by omega, k + 1, (i0.sub (rc2 (rc rfl rnl))), k0, by omega, nameTo_step hi (rname_step (by assumption) (by rcases q0 with h | h; exact .inl h; exact .inr (by omega))), rfl⟩
 refine wcf b0 (decide_eq_false j0) fun i0 => ?_
 refine wp_exit ?_
 refine x_then_e ?_
 refine x_then_e ?_
 refine x_block_eq ?_
 refine xn d0 <| wsc fun d0 j0 => aw i0 j0 fun d0 b0 => ?_
 refine wp_ret <| er1 b0 ?_
 refine ⟨?_, h0.fr⟩
 exact cr (ret_b (by exact (rname_end hi (by omega) (by omega) (by omega)).symm))
theorem rplain_calls (w0 : World) (Z : Nat → Prop) (hZ : ∀ k, Z k → k < w0.heap.size) (n : Nd)  :
    Calls Tryd.prog 67 [.agg #[.int .i64 (n.K), .int .i64 (n.N), .int .i64 (n.M), .string n.S]].toArray w0 (fun e w' => e = .returned (.bool (plainB n)) ∧ Fr none_ w0 w') := by
 have b0 := s0 (M := none_) hZ zn
 refine c_enter Tryd.func67 rfl Tryd.ntmps67 rfl fun c0 d0 => ?_
 refine wsc fun c0 f0 => bxx d0 b0 fun c0 h0 i0 j0 k0 => ?_
 refine aw j0 f0 fun i0 h0 => ?_
 refine wsc fun f0 i0 => lR h0 fun f0 j0 => ?_
 refine lAn 3 (decide ((n.M) = 0)) j0 fun f0 h0 => ?_
 refine mv h0 fun f0 j0 => ?_
 refine lAn 3 (decide (n.S = (⟨#[]⟩ : ByteArray))) j0 fun f0 h0 => ?_
 refine aw h0 i0 fun f0 j0 => ?_
 refine wp_ret <| er1 j0 ?_
 refine ⟨?_, k0.fr⟩
 exact cr (ret_b (by rfl))
theorem rbinds_calls (w0 : World) (Z : Nat → Prop) (hZ : ∀ k, Z k → k < w0.heap.size) (n : Nd) (hs : n.S.size < 1000000 := by first | assumption | omega | (simp <;> omega)) :
    Calls Tryd.prog 51 [.agg #[.int .i64 (n.K), .int .i64 (n.N), .int .i64 (n.M), .string n.S]].toArray w0 (fun e w' => ∃ (rA0 : Option Addr) (rc0 : Nat), e = .returned (.tuple #[.slice rA0 (bindL n).length rc0, .bool (right n)]) ∧ Fr none_ w0 w' ∧ (dRow 1 rA0 ((bindL n).length) rc0 (encIs (bindL n))).φ w' (nxt Z w0 w')) := by
 have b0 := s0 (M := none_) hZ zn
 refine c_enter Tryd.func51 rfl Tryd.ntmps51 rfl fun c0 d0 => ?_
 refine wsc fun c0 f0 => bxx d0 b0 fun c0 h0 i0 j0 k0 => ?_
 refine lR j0 fun h0 c0 => ?_
 refine wn f0 <| wsc fun f0 h0 => bsl c0 k0 fun f0 j0 d0 b0 m0 => ?_
 refine aw b0 h0 fun j0 f0 => ?_
 refine wp_seq_k fun h0 j0 => wsc fun h0 b0 => lR f0 fun h0 c0 => ?_
 refine wn b0 <| wp_block ?_
 refine wsc fun b0 h0 => lR c0 fun b0 f0 => ?_
 refine wn h0 ?_
 rcases Decidable.em ((n.K) = 0) with h0 | h0
 ·
  refine wct f0 (decide_eq_true h0) fun b0 => ?_
  refine wp_seq_k fun c0 k0 => ?_
  obtain ⟨c0, n0, o0⟩ := m0.agree
  refine d_reg3 (n := 21) o0 0 (pB 0 0 pn) (pan_then (pan_block (pan_then pan_body))) fun n0 c0 p0 q0 t0 u0 => ?_
  refine dR [0, 1, 2, 3, 4] b0 fun u0 q0 => ?_
  refine dAn 5 [6, 7] 8 (decide ((n.N) ≤ 99)) q0 fun u0 b0 => ?_
  refine dR [9] b0 fun u0 q0 => ?_
  refine dAn 10 [11, 12] 13 (decide ((n.M) = 0)) q0 fun u0 b0 => ?_
  refine dR [14] b0 fun u0 q0 => ?_
  refine dAn 15 [16, 17] 18 (decide (n.S = (⟨#[]⟩ : ByteArray))) q0 fun u0 b0 => ?_
  refine dR [19, 20] b0 fun u0 q0 => ?_
  refine wpAnyH_done (by kernel_rfl) (p0 _ _ ?_) _
  refine xn k0 <| wp_ret <| x_block_r <| x_then_r <| er2 q0 ?_
  have q0 : bindL n = [] := by rcases (show n.K = 0 by omega) with h <;> simp [bindL, h, shp]
  rw [q0]
  have q0 := t0.pub 1 (dRow 1 (some ⟨d0, 0, none⟩) 0 0 (encIs ([])))
  refine ⟨(some ⟨d0, 0, none⟩), 0, ?_, q0.fr, q0.rx 1⟩
  exact ret_t2 rfl (ret_b (by (rw [(right_var (by omega)), Bool.eq_iff_iff]; simp [and_assoc]; done) ))
 refine wcf f0 (decide_eq_false h0) fun q0 => ?_
 refine c_join (fun ga gw => Reg ga 228 [(1, .pointer (some ⟨i0, 0, none⟩)), (2, .slice none 0 0), (3, .bool false), (4, .slice (some ⟨d0, 0, none⟩) 0 0), (7, .int .i64 (n.K)), (29, .bool ((decide ((n.K) = 1)) || (decide ((n.K) = 25)))), (1000000, .bool false)] ∧ St w0 Z none_ gw [.box i0 39 [.int .i64 (n.K), .int .i64 (n.N), .int .i64 (n.M), .string n.S], .row (some ⟨d0, 0, none⟩) 0 0 3 1 (encIs ([]))] []) ?_ ?_
 ·
  refine wsc fun h0 f0 => lR q0 fun h0 t0 => ?_
  refine wn f0 ?_
  rcases Decidable.em ((n.K) = 1) with f0 | f0
  ·
   refine wct t0 (decide_eq_true f0) fun h0 => ?_
   refine wp_skip ?_
   exact x_then_n ⟨(h0.sub (rc4 (rc rfl (rc (rb rfl (by (simp only [decide_eq_true f0, if_pos f0, bl]; done))) (rc rfl rnl))))), m0⟩
  refine wcf t0 (decide_eq_false f0) fun h0 => ?_
  refine c_region ?_
  refine lR h0 fun t0 q0 => ?_
  refine wpList_nil ?_
  exact x_then_n ⟨(q0.sub (rc4 (rc rfl (rc (rb rfl (by (simp only [decide_eq_false f0, if_neg f0, bl]; done))) (rc rfl rnl))))), m0⟩
 rintro q0 f0 ⟨m0, t0⟩
 rcases Bool.eq_false_or_eq_true (((decide ((n.K) = 1)) || (decide ((n.K) = 25)))) with f0 | f0
 ·
  have q0 := f0
  try simp only [bz] at q0
  refine wct m0 f0 fun q0 => ?_
  refine wsc fun h0 k0 => lR q0 fun h0 p0 => ?_
  refine lAn 3 (decide ((n.M) = 0)) p0 fun h0 q0 => ?_
  refine mv q0 fun h0 p0 => ?_
  refine l_join (fun ga gw => Reg ga 228 [(2, .slice none 0 0), (3, .bool false), (4, .slice (some ⟨d0, 0, none⟩) 0 0), (32, .slice (some ⟨d0, 0, none⟩) 0 0), (45, .bool (((decide ((n.N) = 0)) && (decide ((n.M) = 0))) && (nameOk n.S))), (1000000, .bool false)] ∧ St w0 Z none_ gw [.box i0 39 [.int .i64 (n.K), .int .i64 (n.N), .int .i64 (n.M), .string n.S], .row (some ⟨d0, 0, none⟩) 0 0 3 1 (encIs ([]))] []) 4 ?_ ?_
  ·
   rcases Bool.eq_false_or_eq_true (((decide ((n.N) = 0)) && (decide ((n.M) = 0)))) with h0 | h0
   ·
    have q0 := and_tl h0
    have u0 := of_decide_eq_true q0
    have u0 := and_tr h0
    have q0 := of_decide_eq_true u0
    have q0 := p0.setb (d := 41) (b := true) rfl h0
    refine lR q0 fun u0 b0 => ?_
    have u0 := t0.nf
    refine kcl b0 ok65 (rname_calls _ _ u0.il n.S) ?_
    rintro b0 q0 ⟨rfl, c0⟩
    have q0 := u0.below c0.below
    refine ⟨_, rfl, fun c0 u0 => ?_⟩
    refine lR u0 fun c0 b0 => ?_
    refine wpList_nil ?_
    exact x_then_n ⟨(b0.sub (rc4 (rc (rb rfl (by (simp only [h0, bl]; done))) (rc rfl rnl)))), q0⟩
   have b0 := h0
   try simp only [bz] at b0
   have b0 := p0.setb (d := 41) (b := false) rfl h0
   refine lR b0 fun p0 q0 => ?_
   refine wpList_nil ?_
   exact x_then_n ⟨(q0.sub (rc4 (rc (rb rfl (by (simp only [h0, bl]; done))) (rc rfl rnl)))), t0⟩
  rintro q0 h0 ⟨p0, b0⟩
  refine lR p0 fun h0 q0 => ?_
  refine wn k0 <| wp_ret <| x_block_r <| x_then_r <| er2 q0 ?_
  have q0 : bindL n = [] := by rcases (show n.K = 1 ∨ n.K = 25 by omega) with h | h <;> simp [bindL, h, shp]
  rw [q0]
  have q0 := b0.pub 1 (dRow 1 (some ⟨d0, 0, none⟩) 0 0 (encIs ([])))
  refine ⟨(some ⟨d0, 0, none⟩), 0, ?_, q0.fr, q0.rx 0⟩
  exact ret_t2 rfl (ret_b (by (rw [(right_str (by omega)), Bool.eq_iff_iff]; simp [and_assoc]; done) ))
 have q0 := or_fl f0
 have b0 := of_decide_eq_false q0
 have b0 := or_fr f0
 have q0 := of_decide_eq_false b0
 refine wcf m0 f0 fun q0 => ?_
 refine wsc fun f0 m0 => lR q0 fun f0 b0 => ?_
 refine wn m0 ?_
 rcases Decidable.em ((n.K) = 2) with m0 | m0
 ·
  refine wct b0 (decide_eq_true m0) fun f0 => ?_
  refine wp_seq_k fun q0 k0 => ?_
  obtain ⟨q0, h0, p0⟩ := t0.agree
  refine d_reg3 (n := 17) p0 0 (pB 0 0 pn) (pan_then (pan_block (pan_then pan_body))) fun h0 q0 c0 u0 n0 o0 => ?_
  refine dR [0, 1, 2] f0 fun o0 u0 => ?_
  refine d1 3 ?_
  have o0 := n0.nf
  refine kcl u0 ok66 (rlvCheck_calls _ _ o0.il (n.N)) ?_
  rintro u0 n0 ⟨rfl, f0⟩
  have n0 := o0.below f0.below
  refine ⟨_, rfl, fun f0 o0 => ?_⟩
  have f0 := sWI n0 0 (pB 0 0 pn)
  refine ⟨f0, ?_⟩
  refine dR [4, 5] o0 fun f0 u0 => ?_
  refine dAn 6 [7, 8] 9 (decide ((n.M) = 0)) u0 fun f0 o0 => ?_
  refine dR [10] o0 fun f0 u0 => ?_
  refine dAn 11 [12, 13] 14 (decide (n.S = (⟨#[]⟩ : ByteArray))) u0 fun f0 o0 => ?_
  refine dR [15, 16] o0 fun f0 u0 => ?_
  refine wpAnyH_done (by kernel_rfl) (c0 _ _ ?_) _
  refine xn k0 <| wp_ret <| x_block_r <| x_then_r <| er2 u0 ?_
  have u0 : bindL n = [] := by rcases (show n.K = 2 by omega) with h <;> simp [bindL, h, shp]
  rw [u0]
  have u0 := n0.pub 1 (dRow 1 (some ⟨d0, 0, none⟩) 0 0 (encIs ([])))
  refine ⟨(some ⟨d0, 0, none⟩), 0, ?_, u0.fr, u0.rx 1⟩
  exact ret_t2 rfl (ret_b (by (rw [(right_sortR (by omega)), Bool.eq_iff_iff]; simp [and_assoc]; done) ))
 refine wcf b0 (decide_eq_false m0) fun u0 => ?_
 refine c_join (fun ga gw => Reg ga 228 [(1, .pointer (some ⟨i0, 0, none⟩)), (2, .slice none 0 0), (3, .bool false), (4, .slice (some ⟨d0, 0, none⟩) 0 0), (7, .int .i64 (n.K)), (63, .bool ((decide ((n.K) = 3)) || (decide ((n.K) = 6)))), (1000000, .bool false)] ∧ St w0 Z none_ gw [.box i0 39 [.int .i64 (n.K), .int .i64 (n.N), .int .i64 (n.M), .string n.S], .row (some ⟨d0, 0, none⟩) 0 0 3 1 (encIs ([]))] []) ?_ ?_
 ·
  refine wsc fun m0 b0 => lR u0 fun m0 n0 => ?_
  refine wn b0 ?_
  rcases Decidable.em ((n.K) = 3) with b0 | b0
  ·
   refine wct n0 (decide_eq_true b0) fun m0 => ?_
   refine wp_skip ?_
   exact x_then_n ⟨(m0.sub (rc4 (rc rfl (rc (rb rfl (by (simp only [decide_eq_true b0, if_pos b0, bl]; done))) (rc rfl rnl))))), t0⟩
  refine wcf n0 (decide_eq_false b0) fun m0 => ?_
  refine c_region ?_
  refine lR m0 fun n0 u0 => ?_
  refine wpList_nil ?_
  exact x_then_n ⟨(u0.sub (rc4 (rc rfl (rc (rb rfl (by (simp only [decide_eq_false b0, if_neg b0, bl]; done))) (rc rfl rnl))))), t0⟩
 rintro u0 b0 ⟨t0, n0⟩
 rcases Bool.eq_false_or_eq_true (((decide ((n.K) = 3)) || (decide ((n.K) = 6)))) with b0 | b0
 ·
  have u0 := b0
  try simp only [bz] at u0
  refine wct t0 b0 fun u0 => ?_
  refine wp_seq_k fun m0 k0 => ?_
  obtain ⟨m0, c0, f0⟩ := n0.agree
  refine d_reg3 (n := 23) f0 0 (pB 0 0 pn) (pan_then (pan_block (pan_then pan_body))) fun c0 m0 o0 q0 h0 p0 => ?_
  refine dR [0, 3, 4, 5] u0 fun p0 q0 => ?_
  refine d1 1 ?_
  refine bsl q0 h0 fun p0 u0 m0 c0 f0 => ?_
  have m0 := sWI f0 0 (pB 0 0 pn)
  refine ⟨m0, ?_⟩
  refine d1 2 ?_
  refine m_appendF (f := encI) (i := 1) ([]) ([0, 1]) (st_opV rfl (want_n rfl)) c0 f0 rfl rfl rfl rfl rfl encI_len (encI_one _) Tryd.underlying82 zi3 rfl rfl (own_lnews (f := encI) (f0.res (i := 2) rfl)) rfl (by (simp only [List.length_cons, List.length_nil]; omega)) (by decide) fun m0 u0 p0 q0 h0 v0 x0 => ?_
  have h0 : (([]) ++ ([0, 1]) : List Int).length = 2 := by (simp only [List.length_append, List.length_take, List.length_cons, List.length_nil]; done)
  have h0 := x0.erase 2
  have x0 := sWI h0 0 (pB 0 0 pn)
  refine ⟨x0, ?_⟩
  refine dR [6] v0 fun x0 u0 => ?_
  refine dAn 7 [8, 9] 10 (decide ((n.N) ≤ 3)) u0 fun x0 v0 => ?_
  refine dR [11] v0 fun x0 u0 => ?_
  refine dAn 12 [13, 14] 15 (decide ((n.M) = 0)) u0 fun x0 v0 => ?_
  refine dR [16] v0 fun x0 u0 => ?_
  refine dAn 17 [18, 19] 20 (decide (n.S = (⟨#[]⟩ : ByteArray))) u0 fun x0 v0 => ?_
  refine dR [21, 22] v0 fun x0 u0 => ?_
  refine wpAnyH_done (by kernel_rfl) (o0 _ _ ?_) _
  refine xn k0 <| wp_ret <| x_block_r <| x_then_r <| er2 u0 ?_
  have u0 : bindL n = ([]) ++ ([0, 1]) := by rcases (show n.K = 3 ∨ n.K = 6 by omega) with h | h <;> simp [bindL, h, shp]
  rw [u0]
  have u0 := h0.pub 1 (dRow 1 p0 ((([]) ++ ([0, 1]) : List Int).length) q0 (encIs (([]) ++ ([0, 1]))))
  refine ⟨p0, q0, ?_, u0.fr, u0.rx 1⟩
  exact ret_t2 rfl (ret_b (by (rw [(right_pi (by omega)), Bool.eq_iff_iff]; simp [and_assoc]; done) ))
 have u0 := or_fl b0
 have q0 := of_decide_eq_false u0
 have q0 := or_fr b0
 have u0 := of_decide_eq_false q0
 refine wcf t0 b0 fun u0 => ?_
 refine wsc fun b0 t0 => lR u0 fun b0 q0 => ?_
 refine wn t0 ?_
 rcases Decidable.em ((n.K) = 4) with t0 | t0
 ·
  refine wct q0 (decide_eq_true t0) fun b0 => ?_
  refine wp_seq_k fun u0 p0 => ?_
  obtain ⟨u0, h0, k0⟩ := n0.agree
  refine d_reg3 (n := 7) k0 0 (pB 0 0 pn) (pan_then (pan_block (pan_then pan_body))) fun h0 u0 o0 x0 v0 m0 => ?_
  refine dR [0] b0 fun x0 h0 => ?_
  refine dt 3 rfl u0 h0 (want_n rfl) (fun x hx => m_loadCN (sy h0) h0 rfl rfl rfl (CellsAt.cons_ (hx.c 0) (CellsAt.cons_ (hx.c 1) (CellsAt.cons_ (hx.c 2) (CellsAt.cons_ (hx.c 3) (CellsAt.nil _ _))))) Tryd.underlying39 rfl sz39 (by decide) gt) m0 fun x0 b0 => ?_
  refine d1 1 ?_
  refine bsl b0 v0 fun x0 h0 m0 u0 k0 => ?_
  have m0 := sWI k0 0 (pB 0 0 pn)
  refine ⟨m0, ?_⟩
  refine d1 2 ?_
  refine m_appendF (f := encI) (i := 1) ([]) ([0, 1]) (st_opV rfl (want_n rfl)) u0 k0 rfl rfl rfl rfl rfl encI_len (encI_one _) Tryd.underlying82 zi3 rfl rfl (own_lnews (f := encI) (k0.res (i := 2) rfl)) rfl (by (simp only [List.length_cons, List.length_nil]; omega)) (by decide) fun m0 h0 x0 b0 v0 f0 c0 => ?_
  have v0 : (([]) ++ ([0, 1]) : List Int).length = 2 := by (simp only [List.length_append, List.length_take, List.length_cons, List.length_nil]; done)
  have v0 := c0.erase 2
  have c0 := sWI v0 0 (pB 0 0 pn)
  refine ⟨c0, ?_⟩
  refine d1 4 ?_
  have c0 := v0.nf
  refine kcl f0 ok67 (rplain_calls _ _ c0.il n) ?_
  rintro f0 v0 ⟨rfl, h0⟩
  have v0 := c0.below h0.below
  refine ⟨_, rfl, fun h0 c0 => ?_⟩
  have h0 := sWI v0 0 (pB 0 0 pn)
  refine ⟨h0, ?_⟩
  refine dR [5, 6] c0 fun h0 f0 => ?_
  refine wpAnyH_done (by kernel_rfl) (o0 _ _ ?_) _
  refine xn p0 <| wp_ret <| x_block_r <| x_then_r <| er2 f0 ?_
  have f0 : bindL n = ([]) ++ ([0, 1]) := by rcases (show n.K = 4 by omega) with h <;> simp [bindL, h, shp]
  rw [f0]
  have f0 := v0.pub 1 (dRow 1 x0 ((([]) ++ ([0, 1]) : List Int).length) b0 (encIs (([]) ++ ([0, 1]))))
  refine ⟨x0, b0, ?_, f0.fr, f0.rx 1⟩
  exact ret_t2 rfl (ret_b (by (rw [(right_plain (by omega) (by omega) (by omega))]; done) ))
 refine wcf q0 (decide_eq_false t0) fun f0 => ?_
 refine c_join (fun ga gw => Reg ga 228 [(1, .pointer (some ⟨i0, 0, none⟩)), (2, .slice none 0 0), (3, .bool false), (4, .slice (some ⟨d0, 0, none⟩) 0 0), (7, .int .i64 (n.K)), (94, .bool ((decide ((n.K) = 5)) || ((decide ((n.K) = 15)) || ((decide ((n.K) = 19)) || (decide ((n.K) = 23)))))), (1000000, .bool false)] ∧ St w0 Z none_ gw [.box i0 39 [.int .i64 (n.K), .int .i64 (n.N), .int .i64 (n.M), .string n.S], .row (some ⟨d0, 0, none⟩) 0 0 3 1 (encIs ([]))] []) ?_ ?_
 ·
  refine wsc fun t0 q0 => lR f0 fun t0 b0 => ?_
  refine wn q0 ?_
  rcases Decidable.em ((n.K) = 5) with q0 | q0
  ·
   refine wct b0 (decide_eq_true q0) fun t0 => ?_
   refine wp_skip ?_
   exact x_then_n ⟨(t0.sub (rc4 (rc rfl (rc (rb rfl (by (simp only [decide_eq_true q0, if_pos q0, bl]; done))) (rc rfl rnl))))), n0⟩
  refine wcf b0 (decide_eq_false q0) fun t0 => ?_
  refine wsc fun b0 f0 => lR t0 fun b0 x0 => ?_
  refine wn f0 ?_
  rcases Decidable.em ((n.K) = 15) with f0 | f0
  ·
   refine wct x0 (decide_eq_true f0) fun b0 => ?_
   refine wp_skip ?_
   exact x_then_n ⟨(b0.sub (rc4 (rc rfl (rc (rb rfl (by (simp only [decide_eq_false q0, if_neg q0, decide_eq_true f0, if_pos f0, bl]; done))) (rc rfl rnl))))), n0⟩
  refine wcf x0 (decide_eq_false f0) fun b0 => ?_
  refine wsc fun x0 t0 => lR b0 fun x0 v0 => ?_
  refine wn t0 ?_
  rcases Decidable.em ((n.K) = 19) with t0 | t0
  ·
   refine wct v0 (decide_eq_true t0) fun x0 => ?_
   refine wp_skip ?_
   exact x_then_n ⟨(x0.sub (rc4 (rc rfl (rc (rb rfl (by (simp only [decide_eq_false q0, if_neg q0, decide_eq_false f0, if_neg f0, decide_eq_true t0, if_pos t0, bl]; done))) (rc rfl rnl))))), n0⟩
  refine wcf v0 (decide_eq_false t0) fun x0 => ?_
  refine c_region ?_
  refine lR x0 fun v0 b0 => ?_
  refine wpList_nil ?_
  exact x_then_n ⟨(b0.sub (rc4 (rc rfl (rc (rb rfl (by (simp only [decide_eq_false q0, if_neg q0, decide_eq_false f0, if_neg f0, decide_eq_false t0, if_neg t0, bl]; done))) (rc rfl rnl))))), n0⟩
 rintro b0 t0 ⟨f0, q0⟩
 rcases Bool.eq_false_or_eq_true (((decide ((n.K) = 5)) || ((decide ((n.K) = 15)) || ((decide ((n.K) = 19)) || (decide ((n.K) = 23)))))) with t0 | t0
 ·
  have b0 := t0
  try simp only [bz] at b0
  refine wct f0 t0 fun b0 => ?_
  refine wp_seq_k fun n0 v0 => ?_
  obtain ⟨n0, x0, p0⟩ := q0.agree
  refine d_reg3 (n := 7) p0 0 (pB 0 0 pn) (pan_then (pan_block (pan_then pan_body))) fun x0 n0 o0 h0 c0 m0 => ?_
  refine dR [0] b0 fun h0 x0 => ?_
  refine dt 3 rfl n0 x0 (want_n rfl) (fun x hx => m_loadCN (sy x0) x0 rfl rfl rfl (CellsAt.cons_ (hx.c 0) (CellsAt.cons_ (hx.c 1) (CellsAt.cons_ (hx.c 2) (CellsAt.cons_ (hx.c 3) (CellsAt.nil _ _))))) Tryd.underlying39 rfl sz39 (by decide) gt) m0 fun h0 b0 => ?_
  refine d1 1 ?_
  refine bsl b0 c0 fun h0 x0 m0 n0 p0 => ?_
  have m0 := sWI p0 0 (pB 0 0 pn)
  refine ⟨m0, ?_⟩
  refine d1 2 ?_
  refine m_appendF (f := encI) (i := 1) ([]) ([0, 0]) (st_opV rfl (want_n rfl)) n0 p0 rfl rfl rfl rfl rfl encI_len (encI_one _) Tryd.underlying82 zi3 rfl rfl (own_lnews (f := encI) (p0.res (i := 2) rfl)) rfl (by (simp only [List.length_cons, List.length_nil]; omega)) (by decide) fun m0 x0 h0 b0 c0 k0 u0 => ?_
  have c0 : (([]) ++ ([0, 0]) : List Int).length = 2 := by (simp only [List.length_append, List.length_take, List.length_cons, List.length_nil]; done)
  have c0 := u0.erase 2
  have u0 := sWI c0 0 (pB 0 0 pn)
  refine ⟨u0, ?_⟩
  refine d1 4 ?_
  have u0 := c0.nf
  refine kcl k0 ok67 (rplain_calls _ _ u0.il n) ?_
  rintro k0 c0 ⟨rfl, x0⟩
  have c0 := u0.below x0.below
  refine ⟨_, rfl, fun x0 u0 => ?_⟩
  have x0 := sWI c0 0 (pB 0 0 pn)
  refine ⟨x0, ?_⟩
  refine dR [5, 6] u0 fun x0 k0 => ?_
  refine wpAnyH_done (by kernel_rfl) (o0 _ _ ?_) _
  refine xn v0 <| wp_ret <| x_block_r <| x_then_r <| er2 k0 ?_
  have k0 : bindL n = ([]) ++ ([0, 0]) := by rcases (show n.K = 5 ∨ n.K = 15 ∨ n.K = 19 ∨ n.K = 23 by omega) with h | h | h | h <;> simp [bindL, h, shp]
  rw [k0]
  have k0 := c0.pub 1 (dRow 1 h0 ((([]) ++ ([0, 0]) : List Int).length) b0 (encIs (([]) ++ ([0, 0]))))
  refine ⟨h0, b0, ?_, k0.fr, k0.rx 1⟩
  exact ret_t2 rfl (ret_b (by (rw [(right_plain (by omega) (by omega) (by omega))]; done) ))
 have k0 := or_fl t0
 have b0 := of_decide_eq_false k0
 have b0 := or_fr t0
 have k0 := or_fl b0
 have h0 := of_decide_eq_false k0
 have h0 := or_fr b0
 have b0 := or_fl h0
 have k0 := of_decide_eq_false b0
 have k0 := or_fr h0
 have h0 := of_decide_eq_false k0
 refine wcf f0 t0 fun h0 => ?_
 refine c_join (fun ga gw => Reg ga 228 [(1, .pointer (some ⟨i0, 0, none⟩)), (2, .slice none 0 0), (3, .bool false), (4, .slice (some ⟨d0, 0, none⟩) 0 0), (7, .int .i64 (n.K)), (104, .bool ((decide ((n.K) = 7)) || (decide ((n.K) = 18)))), (1000000, .bool false)] ∧ St w0 Z none_ gw [.box i0 39 [.int .i64 (n.K), .int .i64 (n.N), .int .i64 (n.M), .string n.S], .row (some ⟨d0, 0, none⟩) 0 0 3 1 (encIs ([]))] []) ?_ ?_
 ·
  refine wsc fun t0 f0 => lR h0 fun t0 k0 => ?_
  refine wn f0 ?_
  rcases Decidable.em ((n.K) = 7) with f0 | f0
  ·
   refine wct k0 (decide_eq_true f0) fun t0 => ?_
   refine wp_skip ?_
   exact x_then_n ⟨(t0.sub (rc4 (rc rfl (rc (rb rfl (by (simp only [decide_eq_true f0, if_pos f0, bl]; done))) (rc rfl rnl))))), q0⟩
  refine wcf k0 (decide_eq_false f0) fun t0 => ?_
  refine c_region ?_
  refine lR t0 fun k0 h0 => ?_
  refine wpList_nil ?_
  exact x_then_n ⟨(h0.sub (rc4 (rc rfl (rc (rb rfl (by (simp only [decide_eq_false f0, if_neg f0, bl]; done))) (rc rfl rnl))))), q0⟩
 rintro h0 f0 ⟨q0, k0⟩
 rcases Bool.eq_false_or_eq_true (((decide ((n.K) = 7)) || (decide ((n.K) = 18)))) with f0 | f0
 ·
  have h0 := f0
  try simp only [bz] at h0
  refine wct q0 f0 fun h0 => ?_
  refine wp_seq_k fun t0 b0 => ?_
  obtain ⟨t0, c0, v0⟩ := k0.agree
  refine d_reg3 (n := 7) v0 0 (pB 0 0 pn) (pan_then (pan_block (pan_then pan_body))) fun c0 t0 o0 x0 u0 m0 => ?_
  refine dR [0] h0 fun x0 c0 => ?_
  refine dt 3 rfl t0 c0 (want_n rfl) (fun x hx => m_loadCN (sy c0) c0 rfl rfl rfl (CellsAt.cons_ (hx.c 0) (CellsAt.cons_ (hx.c 1) (CellsAt.cons_ (hx.c 2) (CellsAt.cons_ (hx.c 3) (CellsAt.nil _ _))))) Tryd.underlying39 rfl sz39 (by decide) gt) m0 fun x0 h0 => ?_
  refine d1 1 ?_
  refine bsl h0 u0 fun x0 c0 m0 t0 v0 => ?_
  have m0 := sWI v0 0 (pB 0 0 pn)
  refine ⟨m0, ?_⟩
  refine d1 2 ?_
  refine m_appendF (f := encI) (i := 1) ([]) ([0, 0, 0]) (st_opV rfl (want_n rfl)) t0 v0 rfl rfl rfl rfl rfl encI_len (encI_one _) Tryd.underlying82 zi3 rfl rfl (own_lnews (f := encI) (v0.res (i := 2) rfl)) rfl (by (simp only [List.length_cons, List.length_nil]; omega)) (by decide) fun m0 c0 x0 h0 u0 p0 n0 => ?_
  have u0 : (([]) ++ ([0, 0, 0]) : List Int).length = 3 := by (simp only [List.length_append, List.length_take, List.length_cons, List.length_nil]; done)
  have u0 := n0.erase 2
  have n0 := sWI u0 0 (pB 0 0 pn)
  refine ⟨n0, ?_⟩
  refine d1 4 ?_
  have n0 := u0.nf
  refine kcl p0 ok67 (rplain_calls _ _ n0.il n) ?_
  rintro p0 u0 ⟨rfl, c0⟩
  have u0 := n0.below c0.below
  refine ⟨_, rfl, fun c0 n0 => ?_⟩
  have c0 := sWI u0 0 (pB 0 0 pn)
  refine ⟨c0, ?_⟩
  refine dR [5, 6] n0 fun c0 p0 => ?_
  refine wpAnyH_done (by kernel_rfl) (o0 _ _ ?_) _
  refine xn b0 <| wp_ret <| x_block_r <| x_then_r <| er2 p0 ?_
  have p0 : bindL n = ([]) ++ ([0, 0, 0]) := by rcases (show n.K = 7 ∨ n.K = 18 by omega) with h | h <;> simp [bindL, h, shp]
  rw [p0]
  have p0 := u0.pub 1 (dRow 1 x0 ((([]) ++ ([0, 0, 0]) : List Int).length) h0 (encIs (([]) ++ ([0, 0, 0]))))
  refine ⟨x0, h0, ?_, p0.fr, p0.rx 1⟩
  exact ret_t2 rfl (ret_b (by (rw [(right_plain (by omega) (by omega) (by omega))]; done) ))
 have p0 := or_fl f0
 have h0 := of_decide_eq_false p0
 have h0 := or_fr f0
 have p0 := of_decide_eq_false h0
 refine wcf q0 f0 fun p0 => ?_
 refine c_join (fun ga gw => Reg ga 228 [(1, .pointer (some ⟨i0, 0, none⟩)), (2, .slice none 0 0), (3, .bool false), (4, .slice (some ⟨d0, 0, none⟩) 0 0), (7, .int .i64 (n.K)), (112, .bool ((decide ((n.K) = 8)) || ((decide ((n.K) = 9)) || ((decide ((n.K) = 12)) || (decide ((n.K) = 28)))))), (1000000, .bool false)] ∧ St w0 Z none_ gw [.box i0 39 [.int .i64 (n.K), .int .i64 (n.N), .int .i64 (n.M), .string n.S], .row (some ⟨d0, 0, none⟩) 0 0 3 1 (encIs ([]))] []) ?_ ?_
 ·
  refine wsc fun f0 q0 => lR p0 fun f0 h0 => ?_
  refine wn q0 ?_
  rcases Decidable.em ((n.K) = 8) with q0 | q0
  ·
   refine wct h0 (decide_eq_true q0) fun f0 => ?_
   refine wp_skip ?_
   exact x_then_n ⟨(f0.sub (rc4 (rc rfl (rc (rb rfl (by (simp only [decide_eq_true q0, if_pos q0, bl]; done))) (rc rfl rnl))))), k0⟩
  refine wcf h0 (decide_eq_false q0) fun f0 => ?_
  refine wsc fun h0 p0 => lR f0 fun h0 x0 => ?_
  refine wn p0 ?_
  rcases Decidable.em ((n.K) = 9) with p0 | p0
  ·
   refine wct x0 (decide_eq_true p0) fun h0 => ?_
   refine wp_skip ?_
   exact x_then_n ⟨(h0.sub (rc4 (rc rfl (rc (rb rfl (by (simp only [decide_eq_false q0, if_neg q0, decide_eq_true p0, if_pos p0, bl]; done))) (rc rfl rnl))))), k0⟩
  refine wcf x0 (decide_eq_false p0) fun h0 => ?_
  refine wsc fun x0 f0 => lR h0 fun x0 u0 => ?_
  refine wn f0 ?_
  rcases Decidable.em ((n.K) = 12) with f0 | f0
  ·
   refine wct u0 (decide_eq_true f0) fun x0 => ?_
   refine wp_skip ?_
   exact x_then_n ⟨(x0.sub (rc4 (rc rfl (rc (rb rfl (by (simp only [decide_eq_false q0, if_neg q0, decide_eq_false p0, if_neg p0, decide_eq_true f0, if_pos f0, bl]; done))) (rc rfl rnl))))), k0⟩
  refine wcf u0 (decide_eq_false f0) fun x0 => ?_
  refine c_region ?_
  refine lR x0 fun u0 h0 => ?_
  refine wpList_nil ?_
  exact x_then_n ⟨(h0.sub (rc4 (rc rfl (rc (rb rfl (by (simp only [decide_eq_false q0, if_neg q0, decide_eq_false p0, if_neg p0, decide_eq_false f0, if_neg f0, bl]; done))) (rc rfl rnl))))), k0⟩
 rintro h0 f0 ⟨p0, q0⟩
 rcases Bool.eq_false_or_eq_true (((decide ((n.K) = 8)) || ((decide ((n.K) = 9)) || ((decide ((n.K) = 12)) || (decide ((n.K) = 28)))))) with f0 | f0
 ·
  have h0 := f0
  try simp only [bz] at h0
  refine wct p0 f0 fun h0 => ?_
  refine wp_seq_k fun k0 u0 => ?_
  obtain ⟨k0, x0, b0⟩ := q0.agree
  refine d_reg3 (n := 7) b0 0 (pB 0 0 pn) (pan_then (pan_block (pan_then pan_body))) fun x0 k0 o0 c0 n0 m0 => ?_
  refine dR [0] h0 fun c0 x0 => ?_
  refine dt 3 rfl k0 x0 (want_n rfl) (fun x hx => m_loadCN (sy x0) x0 rfl rfl rfl (CellsAt.cons_ (hx.c 0) (CellsAt.cons_ (hx.c 1) (CellsAt.cons_ (hx.c 2) (CellsAt.cons_ (hx.c 3) (CellsAt.nil _ _))))) Tryd.underlying39 rfl sz39 (by decide) gt) m0 fun c0 h0 => ?_
  refine d1 1 ?_
  refine bsl h0 n0 fun c0 x0 m0 k0 b0 => ?_
  have m0 := sWI b0 0 (pB 0 0 pn)
  refine ⟨m0, ?_⟩
  refine d1 2 ?_
  refine m_appendF (f := encI) (i := 1) ([]) ([0]) (st_opV rfl (want_n rfl)) k0 b0 rfl rfl rfl rfl rfl encI_len (encI_one _) Tryd.underlying82 zi3 rfl rfl (own_lnews (f := encI) (b0.res (i := 2) rfl)) rfl (by (simp only [List.length_cons, List.length_nil]; omega)) (by decide) fun m0 x0 c0 h0 n0 v0 t0 => ?_
  have n0 : (([]) ++ ([0]) : List Int).length = 1 := by (simp only [List.length_append, List.length_take, List.length_cons, List.length_nil]; done)
  have n0 := t0.erase 2
  have t0 := sWI n0 0 (pB 0 0 pn)
  refine ⟨t0, ?_⟩
  refine d1 4 ?_
  have t0 := n0.nf
  refine kcl v0 ok67 (rplain_calls _ _ t0.il n) ?_
  rintro v0 n0 ⟨rfl, x0⟩
  have n0 := t0.below x0.below
  refine ⟨_, rfl, fun x0 t0 => ?_⟩
  have x0 := sWI n0 0 (pB 0 0 pn)
  refine ⟨x0, ?_⟩
  refine dR [5, 6] t0 fun x0 v0 => ?_
  refine wpAnyH_done (by kernel_rfl) (o0 _ _ ?_) _
  refine xn u0 <| wp_ret <| x_block_r <| x_then_r <| er2 v0 ?_
  have v0 : bindL n = ([]) ++ ([0]) := by rcases (show n.K = 8 ∨ n.K = 9 ∨ n.K = 12 ∨ n.K = 28 by omega) with h | h | h | h <;> simp [bindL, h, shp]
  rw [v0]
  have v0 := n0.pub 1 (dRow 1 c0 ((([]) ++ ([0]) : List Int).length) h0 (encIs (([]) ++ ([0]))))
  refine ⟨c0, h0, ?_, v0.fr, v0.rx 1⟩
  exact ret_t2 rfl (ret_b (by (rw [(right_plain (by omega) (by omega) (by omega))]; done) ))
 have v0 := or_fl f0
 have h0 := of_decide_eq_false v0
 have h0 := or_fr f0
 have v0 := or_fl h0
 have c0 := of_decide_eq_false v0
 have c0 := or_fr h0
 have h0 := or_fl c0
 have v0 := of_decide_eq_false h0
 have v0 := or_fr c0
 have c0 := of_decide_eq_false v0
 refine wcf p0 f0 fun c0 => ?_
 refine c_join (fun ga gw => Reg ga 228 [(1, .pointer (some ⟨i0, 0, none⟩)), (2, .slice none 0 0), (3, .bool false), (4, .slice (some ⟨d0, 0, none⟩) 0 0), (7, .int .i64 (n.K)), (122, .bool ((decide ((n.K) = 10)) || ((decide ((n.K) = 11)) || ((decide ((n.K) = 14)) || ((decide ((n.K) = 16)) || ((decide ((n.K) = 17)) || (decide ((n.K) = 29)))))))), (1000000, .bool false)] ∧ St w0 Z none_ gw [.box i0 39 [.int .i64 (n.K), .int .i64 (n.N), .int .i64 (n.M), .string n.S], .row (some ⟨d0, 0, none⟩) 0 0 3 1 (encIs ([]))] []) ?_ ?_
 ·
  refine wsc fun i0 f0 => lR c0 fun i0 p0 => ?_
  refine wn f0 ?_
  rcases Decidable.em ((n.K) = 10) with f0 | f0
  ·
   refine wct p0 (decide_eq_true f0) fun i0 => ?_
   refine wp_skip ?_
   exact x_then_n ⟨(i0.sub (rc4 (rc rfl (rc (rb rfl (by (simp only [decide_eq_true f0, if_pos f0, bl]; done))) (rc rfl rnl))))), q0⟩
  refine wcf p0 (decide_eq_false f0) fun i0 => ?_
  refine wsc fun p0 c0 => lR i0 fun p0 v0 => ?_
  refine wn c0 ?_
  rcases Decidable.em ((n.K) = 11) with c0 | c0
  ·
   refine wct v0 (decide_eq_true c0) fun p0 => ?_
   refine wp_skip ?_
   exact x_then_n ⟨(p0.sub (rc4 (rc rfl (rc (rb rfl (by (simp only [decide_eq_false f0, if_neg f0, decide_eq_true c0, if_pos c0, bl]; done))) (rc rfl rnl))))), q0⟩
  refine wcf v0 (decide_eq_false c0) fun p0 => ?_
  refine wsc fun v0 i0 => lR p0 fun v0 h0 => ?_
  refine wn i0 ?_
  rcases Decidable.em ((n.K) = 14) with i0 | i0
  ·
   refine wct h0 (decide_eq_true i0) fun v0 => ?_
   refine wp_skip ?_
   exact x_then_n ⟨(v0.sub (rc4 (rc rfl (rc (rb rfl (by (simp only [decide_eq_false f0, if_neg f0, decide_eq_false c0, if_neg c0, decide_eq_true i0, if_pos i0, bl]; done))) (rc rfl rnl))))), q0⟩
  refine wcf h0 (decide_eq_false i0) fun v0 => ?_
  refine wsc fun h0 p0 => lR v0 fun h0 n0 => ?_
  refine wn p0 ?_
  rcases Decidable.em ((n.K) = 16) with p0 | p0
  ·
   refine wct n0 (decide_eq_true p0) fun h0 => ?_
   refine wp_skip ?_
   exact x_then_n ⟨(h0.sub (rc4 (rc rfl (rc (rb rfl (by (simp only [decide_eq_false f0, if_neg f0, decide_eq_false c0, if_neg c0, decide_eq_false i0, if_neg i0, decide_eq_true p0, if_pos p0, bl]; done))) (rc rfl rnl))))), q0⟩
  refine wcf n0 (decide_eq_false p0) fun h0 => ?_
  refine wsc fun n0 v0 => lR h0 fun n0 u0 => ?_
  refine wn v0 ?_
  rcases Decidable.em ((n.K) = 17) with v0 | v0
  ·
   refine wct u0 (decide_eq_true v0) fun n0 => ?_
   refine wp_skip ?_
   exact x_then_n ⟨(n0.sub (rc4 (rc rfl (rc (rb rfl (by (simp only [decide_eq_false f0, if_neg f0, decide_eq_false c0, if_neg c0, decide_eq_false i0, if_neg i0, decide_eq_false p0, if_neg p0, decide_eq_true v0, if_pos v0, bl]; done))) (rc rfl rnl))))), q0⟩
  refine wcf u0 (decide_eq_false v0) fun n0 => ?_
  refine c_region ?_
  refine lR n0 fun u0 h0 => ?_
  refine wpList_nil ?_
  exact x_then_n ⟨(h0.sub (rc4 (rc rfl (rc (rb rfl (by (simp only [decide_eq_false f0, if_neg f0, decide_eq_false c0, if_neg c0, decide_eq_false i0, if_neg i0, decide_eq_false p0, if_neg p0, decide_eq_false v0, if_neg v0, bl]; done))) (rc rfl rnl))))), q0⟩
 rintro h0 v0 ⟨p0, i0⟩
 rcases Bool.eq_false_or_eq_true (((decide ((n.K) = 10)) || ((decide ((n.K) = 11)) || ((decide ((n.K) = 14)) || ((decide ((n.K) = 16)) || ((decide ((n.K) = 17)) || (decide ((n.K) = 29)))))))) with v0 | v0
 ·
  have h0 := v0
  try simp only [bz] at h0
  refine wct p0 v0 fun h0 => ?_
  refine wsc fun c0 f0 => lR h0 fun c0 q0 => ?_
  have c0 := i0.nf
  refine kcl q0 ok67 (rplain_calls _ _ c0.il n) ?_
  rintro q0 h0 ⟨rfl, u0⟩
  have h0 := c0.below u0.below
  refine ⟨_, rfl, fun u0 c0 => ?_⟩
  refine lR c0 fun u0 q0 => ?_
  refine wn f0 <| wp_ret <| x_block_r <| x_then_r <| er2 q0 ?_
  have q0 : bindL n = [] := by rcases (show n.K = 10 ∨ n.K = 11 ∨ n.K = 14 ∨ n.K = 16 ∨ n.K = 17 ∨ n.K = 29 by omega) with h | h | h | h | h | h <;> simp [bindL, h, shp]
  rw [q0]
  have q0 := h0.pub 1 (dRow 1 (some ⟨d0, 0, none⟩) 0 0 (encIs ([])))
  refine ⟨(some ⟨d0, 0, none⟩), 0, ?_, q0.fr, q0.rx 0⟩
  exact ret_t2 rfl (ret_b (by (rw [(right_plain (by omega) (by omega) (by omega))]; done) ))
 have q0 := or_fl v0
 have h0 := of_decide_eq_false q0
 have h0 := or_fr v0
 have q0 := or_fl h0
 have f0 := of_decide_eq_false q0
 have f0 := or_fr h0
 have h0 := or_fl f0
 have q0 := of_decide_eq_false h0
 have q0 := or_fr f0
 have f0 := or_fl q0
 have h0 := of_decide_eq_false f0
 have h0 := or_fr q0
 have q0 := or_fl h0
 have f0 := of_decide_eq_false q0
 have f0 := or_fr h0
 have h0 := of_decide_eq_false f0
 refine wcf p0 v0 fun h0 => ?_
 refine wsc fun v0 p0 => lR h0 fun v0 f0 => ?_
 refine wn p0 ?_
 rcases Decidable.em ((n.K) = 13) with p0 | p0
 ·
  refine wct f0 (decide_eq_true p0) fun v0 => ?_
  refine wp_seq_k fun h0 q0 => ?_
  obtain ⟨h0, u0, c0⟩ := i0.agree
  refine d_reg3 (n := 7) c0 0 (pB 0 0 pn) (pan_then (pan_block (pan_then pan_body))) fun u0 h0 n0 o0 x0 t0 => ?_
  refine dR [0] v0 fun o0 u0 => ?_
  refine dt 3 rfl h0 u0 (want_n rfl) (fun x hx => m_loadCN (sy u0) u0 rfl rfl rfl (CellsAt.cons_ (hx.c 0) (CellsAt.cons_ (hx.c 1) (CellsAt.cons_ (hx.c 2) (CellsAt.cons_ (hx.c 3) (CellsAt.nil _ _))))) Tryd.underlying39 rfl sz39 (by decide) gt) t0 fun o0 v0 => ?_
  refine d1 1 ?_
  refine bsl v0 x0 fun o0 u0 t0 h0 c0 => ?_
  have t0 := sWI c0 0 (pB 0 0 pn)
  refine ⟨t0, ?_⟩
  refine d1 2 ?_
  refine m_appendF (f := encI) (i := 1) ([]) ([1, 0, 2, 0]) (st_opV rfl (want_n rfl)) h0 c0 rfl rfl rfl rfl rfl encI_len (encI_one _) Tryd.underlying82 zi3 rfl rfl (own_lnews (f := encI) (c0.res (i := 2) rfl)) rfl (by (simp only [List.length_cons, List.length_nil]; omega)) (by decide) fun t0 u0 o0 v0 x0 m0 b0 => ?_
  have x0 : (([]) ++ ([1, 0, 2, 0]) : List Int).length = 4 := by (simp only [List.length_append, List.length_take, List.length_cons, List.length_nil]; done)
  have x0 := b0.erase 2
  have b0 := sWI x0 0 (pB 0 0 pn)
  refine ⟨b0, ?_⟩
  refine d1 4 ?_
  have b0 := x0.nf
  refine kcl m0 ok67 (rplain_calls _ _ b0.il n) ?_
  rintro m0 x0 ⟨rfl, u0⟩
  have x0 := b0.below u0.below
  refine ⟨_, rfl, fun u0 b0 => ?_⟩
  have u0 := sWI x0 0 (pB 0 0 pn)
  refine ⟨u0, ?_⟩
  refine dR [5, 6] b0 fun u0 m0 => ?_
  refine wpAnyH_done (by kernel_rfl) (n0 _ _ ?_) _
  refine xn q0 <| wp_ret <| x_block_r <| x_then_r <| er2 m0 ?_
  have m0 : bindL n = ([]) ++ ([1, 0, 2, 0]) := by rcases (show n.K = 13 by omega) with h <;> simp [bindL, h, shp]
  rw [m0]
  have m0 := x0.pub 1 (dRow 1 o0 ((([]) ++ ([1, 0, 2, 0]) : List Int).length) v0 (encIs (([]) ++ ([1, 0, 2, 0]))))
  refine ⟨o0, v0, ?_, m0.fr, m0.rx 1⟩
  exact ret_t2 rfl (ret_b (by (rw [(right_plain (by omega) (by omega) (by omega))]; done) ))
 refine wcf f0 (decide_eq_false p0) fun m0 => ?_
 refine wsc fun p0 f0 => lR m0 fun p0 v0 => ?_
 refine wn f0 ?_
 rcases Decidable.em ((n.K) = 20) with f0 | f0
 ·
  refine wct v0 (decide_eq_true f0) fun p0 => ?_
  refine wp_seq_k fun m0 o0 => ?_
  obtain ⟨m0, x0, q0⟩ := i0.agree
  refine d_reg3 (n := 7) q0 0 (pB 0 0 pn) (pan_then (pan_block (pan_then pan_body))) fun x0 m0 n0 u0 b0 t0 => ?_
  refine dR [0] p0 fun u0 x0 => ?_
  refine dt 3 rfl m0 x0 (want_n rfl) (fun x hx => m_loadCN (sy x0) x0 rfl rfl rfl (CellsAt.cons_ (hx.c 0) (CellsAt.cons_ (hx.c 1) (CellsAt.cons_ (hx.c 2) (CellsAt.cons_ (hx.c 3) (CellsAt.nil _ _))))) Tryd.underlying39 rfl sz39 (by decide) gt) t0 fun u0 p0 => ?_
  refine d1 1 ?_
  refine bsl p0 b0 fun u0 x0 t0 m0 q0 => ?_
  have t0 := sWI q0 0 (pB 0 0 pn)
  refine ⟨t0, ?_⟩
  refine d1 2 ?_
  refine m_appendF (f := encI) (i := 1) ([]) ([0, 0, 0, 0]) (st_opV rfl (want_n rfl)) m0 q0 rfl rfl rfl rfl rfl encI_len (encI_one _) Tryd.underlying82 zi3 rfl rfl (own_lnews (f := encI) (q0.res (i := 2) rfl)) rfl (by (simp only [List.length_cons, List.length_nil]; omega)) (by decide) fun t0 x0 u0 p0 b0 c0 h0 => ?_
  have b0 : (([]) ++ ([0, 0, 0, 0]) : List Int).length = 4 := by (simp only [List.length_append, List.length_take, List.length_cons, List.length_nil]; done)
  have b0 := h0.erase 2
  have h0 := sWI b0 0 (pB 0 0 pn)
  refine ⟨h0, ?_⟩
  refine d1 4 ?_
  have h0 := b0.nf
  refine kcl c0 ok67 (rplain_calls _ _ h0.il n) ?_
  rintro c0 b0 ⟨rfl, x0⟩
  have b0 := h0.below x0.below
  refine ⟨_, rfl, fun x0 h0 => ?_⟩
  have x0 := sWI b0 0 (pB 0 0 pn)
  refine ⟨x0, ?_⟩
  refine dR [5, 6] h0 fun x0 c0 => ?_
  refine wpAnyH_done (by kernel_rfl) (n0 _ _ ?_) _
  refine xn o0 <| wp_ret <| x_block_r <| x_then_r <| er2 c0 ?_
  have c0 : bindL n = ([]) ++ ([0, 0, 0, 0]) := by rcases (show n.K = 20 by omega) with h <;> simp [bindL, h, shp]
  rw [c0]
  have c0 := b0.pub 1 (dRow 1 u0 ((([]) ++ ([0, 0, 0, 0]) : List Int).length) p0 (encIs (([]) ++ ([0, 0, 0, 0]))))
  refine ⟨u0, p0, ?_, c0.fr, c0.rx 1⟩
  exact ret_t2 rfl (ret_b (by (rw [(right_plain (by omega) (by omega) (by omega))]; done) ))
 refine wcf v0 (decide_eq_false f0) fun c0 => ?_
 refine wsc fun f0 v0 => lR c0 fun f0 p0 => ?_
 refine wn v0 ?_
 rcases Decidable.em ((n.K) = 21) with v0 | v0
 ·
  refine wct p0 (decide_eq_true v0) fun f0 => ?_
  refine wp_seq_k fun c0 u0 => ?_
  obtain ⟨c0, b0, o0⟩ := i0.agree
  refine d_reg3 (n := 7) o0 0 (pB 0 0 pn) (pan_then (pan_block (pan_then pan_body))) fun b0 c0 n0 x0 h0 t0 => ?_
  refine dR [0] f0 fun x0 b0 => ?_
  refine dt 3 rfl c0 b0 (want_n rfl) (fun x hx => m_loadCN (sy b0) b0 rfl rfl rfl (CellsAt.cons_ (hx.c 0) (CellsAt.cons_ (hx.c 1) (CellsAt.cons_ (hx.c 2) (CellsAt.cons_ (hx.c 3) (CellsAt.nil _ _))))) Tryd.underlying39 rfl sz39 (by decide) gt) t0 fun x0 f0 => ?_
  refine d1 1 ?_
  refine bsl f0 h0 fun x0 b0 t0 c0 o0 => ?_
  have t0 := sWI o0 0 (pB 0 0 pn)
  refine ⟨t0, ?_⟩
  refine d1 2 ?_
  refine m_appendF (f := encI) (i := 1) ([]) ([0, 0, 1, 0, 0, 0]) (st_opV rfl (want_n rfl)) c0 o0 rfl rfl rfl rfl rfl encI_len (encI_one _) Tryd.underlying82 zi3 rfl rfl (own_lnews (f := encI) (o0.res (i := 2) rfl)) rfl (by (simp only [List.length_cons, List.length_nil]; omega)) (by decide) fun t0 b0 x0 f0 h0 q0 m0 => ?_
  have h0 : (([]) ++ ([0, 0, 1, 0, 0, 0]) : List Int).length = 6 := by (simp only [List.length_append, List.length_take, List.length_cons, List.length_nil]; done)
  have h0 := m0.erase 2
  have m0 := sWI h0 0 (pB 0 0 pn)
  refine ⟨m0, ?_⟩
  refine d1 4 ?_
  have m0 := h0.nf
  refine kcl q0 ok67 (rplain_calls _ _ m0.il n) ?_
  rintro q0 h0 ⟨rfl, b0⟩
  have h0 := m0.below b0.below
  refine ⟨_, rfl, fun b0 m0 => ?_⟩
  have b0 := sWI h0 0 (pB 0 0 pn)
  refine ⟨b0, ?_⟩
  refine dR [5, 6] m0 fun b0 q0 => ?_
  refine wpAnyH_done (by kernel_rfl) (n0 _ _ ?_) _
  refine xn u0 <| wp_ret <| x_block_r <| x_then_r <| er2 q0 ?_
  have q0 : bindL n = ([]) ++ ([0, 0, 1, 0, 0, 0]) := by rcases (show n.K = 21 by omega) with h <;> simp [bindL, h, shp]
  rw [q0]
  have q0 := h0.pub 1 (dRow 1 x0 ((([]) ++ ([0, 0, 1, 0, 0, 0]) : List Int).length) f0 (encIs (([]) ++ ([0, 0, 1, 0, 0, 0]))))
  refine ⟨x0, f0, ?_, q0.fr, q0.rx 1⟩
  exact ret_t2 rfl (ret_b (by (rw [(right_plain (by omega) (by omega) (by omega))]; done) ))
 refine wcf p0 (decide_eq_false v0) fun q0 => ?_
 refine wsc fun v0 p0 => lR q0 fun v0 f0 => ?_
 refine wn p0 ?_
 rcases Decidable.em ((n.K) = 22) with p0 | p0
 ·
  refine wct f0 (decide_eq_true p0) fun v0 => ?_
  refine wp_seq_k fun q0 x0 => ?_
  obtain ⟨q0, h0, u0⟩ := i0.agree
  refine d_reg3 (n := 7) u0 0 (pB 0 0 pn) (pan_then (pan_block (pan_then pan_body))) fun h0 q0 n0 b0 m0 t0 => ?_
  refine dR [0] v0 fun b0 h0 => ?_
  refine dt 3 rfl q0 h0 (want_n rfl) (fun x hx => m_loadCN (sy h0) h0 rfl rfl rfl (CellsAt.cons_ (hx.c 0) (CellsAt.cons_ (hx.c 1) (CellsAt.cons_ (hx.c 2) (CellsAt.cons_ (hx.c 3) (CellsAt.nil _ _))))) Tryd.underlying39 rfl sz39 (by decide) gt) t0 fun b0 v0 => ?_
  refine d1 1 ?_
  refine bsl v0 m0 fun b0 h0 t0 q0 u0 => ?_
  have t0 := sWI u0 0 (pB 0 0 pn)
  refine ⟨t0, ?_⟩
  refine d1 2 ?_
  refine m_appendF (f := encI) (i := 1) ([]) ([0, 2, 0, 0, 0]) (st_opV rfl (want_n rfl)) q0 u0 rfl rfl rfl rfl rfl encI_len (encI_one _) Tryd.underlying82 zi3 rfl rfl (own_lnews (f := encI) (u0.res (i := 2) rfl)) rfl (by (simp only [List.length_cons, List.length_nil]; omega)) (by decide) fun t0 h0 b0 v0 m0 o0 c0 => ?_
  have m0 : (([]) ++ ([0, 2, 0, 0, 0]) : List Int).length = 5 := by (simp only [List.length_append, List.length_take, List.length_cons, List.length_nil]; done)
  have m0 := c0.erase 2
  have c0 := sWI m0 0 (pB 0 0 pn)
  refine ⟨c0, ?_⟩
  refine d1 4 ?_
  have c0 := m0.nf
  refine kcl o0 ok67 (rplain_calls _ _ c0.il n) ?_
  rintro o0 m0 ⟨rfl, h0⟩
  have m0 := c0.below h0.below
  refine ⟨_, rfl, fun h0 c0 => ?_⟩
  have h0 := sWI m0 0 (pB 0 0 pn)
  refine ⟨h0, ?_⟩
  refine dR [5, 6] c0 fun h0 o0 => ?_
  refine wpAnyH_done (by kernel_rfl) (n0 _ _ ?_) _
  refine xn x0 <| wp_ret <| x_block_r <| x_then_r <| er2 o0 ?_
  have o0 : bindL n = ([]) ++ ([0, 2, 0, 0, 0]) := by rcases (show n.K = 22 by omega) with h <;> simp [bindL, h, shp]
  rw [o0]
  have o0 := m0.pub 1 (dRow 1 b0 ((([]) ++ ([0, 2, 0, 0, 0]) : List Int).length) v0 (encIs (([]) ++ ([0, 2, 0, 0, 0]))))
  refine ⟨b0, v0, ?_, o0.fr, o0.rx 1⟩
  exact ret_t2 rfl (ret_b (by (rw [(right_plain (by omega) (by omega) (by omega))]; done) ))
 refine wcf f0 (decide_eq_false p0) fun o0 => ?_
 refine wsc fun p0 f0 => lR o0 fun p0 v0 => ?_
 refine wn f0 ?_
 rcases Decidable.em ((n.K) = 24) with f0 | f0
 ·
  refine wct v0 (decide_eq_true f0) fun p0 => ?_
  refine wp_seq_k fun o0 b0 => ?_
  obtain ⟨o0, m0, x0⟩ := i0.agree
  refine d_reg3 (n := 7) x0 0 (pB 0 0 pn) (pan_then (pan_block (pan_then pan_body))) fun m0 o0 n0 h0 c0 t0 => ?_
  refine dR [0] p0 fun h0 m0 => ?_
  refine dt 3 rfl o0 m0 (want_n rfl) (fun x hx => m_loadCN (sy m0) m0 rfl rfl rfl (CellsAt.cons_ (hx.c 0) (CellsAt.cons_ (hx.c 1) (CellsAt.cons_ (hx.c 2) (CellsAt.cons_ (hx.c 3) (CellsAt.nil _ _))))) Tryd.underlying39 rfl sz39 (by decide) gt) t0 fun h0 p0 => ?_
  refine d1 1 ?_
  refine bsl p0 c0 fun h0 m0 t0 o0 x0 => ?_
  have t0 := sWI x0 0 (pB 0 0 pn)
  refine ⟨t0, ?_⟩
  refine d1 2 ?_
  refine m_appendF (f := encI) (i := 1) ([]) ([0, 1, 0, 0]) (st_opV rfl (want_n rfl)) o0 x0 rfl rfl rfl rfl rfl encI_len (encI_one _) Tryd.underlying82 zi3 rfl rfl (own_lnews (f := encI) (x0.res (i := 2) rfl)) rfl (by (simp only [List.length_cons, List.length_nil]; omega)) (by decide) fun t0 m0 h0 p0 c0 u0 q0 => ?_
  have c0 : (([]) ++ ([0, 1, 0, 0]) : List Int).length = 4 := by (simp only [List.length_append, List.length_take, List.length_cons, List.length_nil]; done)
  have c0 := q0.erase 2
  have q0 := sWI c0 0 (pB 0 0 pn)
  refine ⟨q0, ?_⟩
  refine d1 4 ?_
  have q0 := c0.nf
  refine kcl u0 ok67 (rplain_calls _ _ q0.il n) ?_
  rintro u0 c0 ⟨rfl, m0⟩
  have c0 := q0.below m0.below
  refine ⟨_, rfl, fun m0 q0 => ?_⟩
  have m0 := sWI c0 0 (pB 0 0 pn)
  refine ⟨m0, ?_⟩
  refine dR [5, 6] q0 fun m0 u0 => ?_
  refine wpAnyH_done (by kernel_rfl) (n0 _ _ ?_) _
  refine xn b0 <| wp_ret <| x_block_r <| x_then_r <| er2 u0 ?_
  have u0 : bindL n = ([]) ++ ([0, 1, 0, 0]) := by rcases (show n.K = 24 by omega) with h <;> simp [bindL, h, shp]
  rw [u0]
  have u0 := c0.pub 1 (dRow 1 h0 ((([]) ++ ([0, 1, 0, 0]) : List Int).length) p0 (encIs (([]) ++ ([0, 1, 0, 0]))))
  refine ⟨h0, p0, ?_, u0.fr, u0.rx 1⟩
  exact ret_t2 rfl (ret_b (by (rw [(right_plain (by omega) (by omega) (by omega))]; done) ))
 refine wcf v0 (decide_eq_false f0) fun u0 => ?_
 refine wsc fun f0 v0 => lR u0 fun f0 p0 => ?_
 refine wn v0 ?_
 rcases Decidable.em ((n.K) = 26) with v0 | v0
 ·
  refine wct p0 (decide_eq_true v0) fun f0 => ?_
  refine wp_seq_k fun u0 h0 => wsc fun u0 c0 => lR f0 fun u0 b0 => ?_
  have u0 := i0.nf
  refine kcl b0 ok65 (rname_calls _ _ u0.il n.S) ?_
  rintro b0 f0 ⟨rfl, n0⟩
  have f0 := u0.below n0.below
  refine ⟨_, rfl, fun n0 u0 => ?_⟩
  refine lR u0 fun n0 b0 => ?_
  refine lOr 3 (decide ((n.N) < 0)) b0 fun n0 u0 => ?_
  refine mv u0 fun n0 b0 => ?_
  refine lOr 3 (decide (6 ≤ (n.N))) b0 fun n0 u0 => ?_
  refine mv u0 fun n0 b0 => ?_
  refine lOr 3 (decide ((n.M) < 0)) b0 fun n0 u0 => ?_
  refine mv u0 fun n0 b0 => ?_
  refine lOr 3 (decide (6 < (n.M))) b0 fun n0 u0 => ?_
  refine wn c0 ?_
  rcases Bool.eq_false_or_eq_true ((((((!(nameOk n.S)) || (decide ((n.N) < 0))) || (decide (6 ≤ (n.N)))) || (decide ((n.M) < 0))) || (decide (6 < (n.M))))) with c0 | c0
  ·
   have n0 := c0
   try simp only [bz] at n0
   refine wct u0 c0 fun b0 => ?_
   refine wsc fun m0 q0 => lR b0 fun m0 t0 => ?_
   refine wn q0 <| wp_ret <| x_then_r <| x_block_r <| x_then_r <| er2 t0 ?_
   have t0 : bindL n = [] := bindL_bad (by omega) (show right n = false by rw [(right_con2 (by omega))]; exact decide_eq_false (by rintro ⟨z1, z2⟩; have hq' := n0; rw [z1] at hq'; simp only [Bool.true_eq_false, false_or] at hq'; omega))
   rw [t0]
   have t0 := f0.pub 1 (dRow 1 (some ⟨d0, 0, none⟩) 0 0 (encIs ([])))
   refine ⟨(some ⟨d0, 0, none⟩), 0, ?_, t0.fr, t0.rx 0⟩
   exact ret_t2 rfl (ret_b (by exact (show right n = false by rw [(right_con2 (by omega))]; exact decide_eq_false (by rintro ⟨z1, z2⟩; have hq' := n0; rw [z1] at hq'; simp only [Bool.true_eq_false, false_or] at hq'; omega)).symm))
  have n0 := or_fl c0
  have t0 := or_fl n0
  have q0 := or_fl t0
  have m0 := or_fl q0
  have b0 := not_f m0
  have m0 := or_fr q0
  have q0 := of_decide_eq_false m0
  have m0 := or_fr t0
  have t0 := of_decide_eq_false m0
  have m0 := or_fr n0
  have n0 := of_decide_eq_false m0
  have m0 := or_fr c0
  have x0 := of_decide_eq_false m0
  refine wcf u0 c0 fun m0 => ?_
  refine wp_skip <| xn h0 <| wsc fun h0 u0 => lR m0 fun h0 o0 => ?_
  have h0 : (n.M) = ((n.M.toNat : Nat) : Int) := by omega
  refine m_makeInts (n := n.M.toNat) sv o0 f0 rfl rfl rfl rfl h0 h0 Tryd.underlying82 zi3 (by omega) (by decide) fun m0 k0 y0 z0 b1 => ?_
  have k0 : (List.replicate (n.M.toNat) (0 : Int)).length = n.M.toNat := by simp
  refine lR z0 fun k0 m0 => ?_
  refine wn u0 <| wp_ret <| x_block_r <| x_then_r <| er2 m0 ?_
  have m0 : bindL n = List.replicate (n.M.toNat) (0 : Int) := bindL_con (by omega) (by rw [(right_con2 (by omega))]; first | (simp [c0, b0, q0, t0, n0, x0]; done) | (simp [c0, b0, q0, t0, n0, x0]; omega))
  rw [m0]
  have m0 := b1.pub 2 (dRow 1 (some ⟨y0, 0, none⟩) ((List.replicate (n.M.toNat) (0 : Int) : List Int).length) ((List.replicate (n.M.toNat) (0 : Int) : List Int).length) (encIs (List.replicate (n.M.toNat) (0 : Int))))
  refine ⟨(some ⟨y0, 0, none⟩), ((List.replicate (n.M.toNat) (0 : Int) : List Int).length), ?_, m0.fr, m0.rx 0⟩
  exact ret_t2 rfl (ret_b (by (rw [(right_con2 (by omega))]; simp [c0, b0, q0, t0, n0, x0] <;> omega) ))
 refine wcf p0 (decide_eq_false v0) fun x0 => ?_
 refine wsc fun v0 p0 => lR x0 fun v0 n0 => ?_
 refine wn p0 ?_
 rcases Decidable.em ((n.K) = 27) with p0 | p0
 ·
  refine wct n0 (decide_eq_true p0) fun v0 => ?_
  refine wp_seq_k fun x0 t0 => wsc fun x0 q0 => lR v0 fun x0 b0 => ?_
  have x0 := i0.nf
  refine kcl b0 ok65 (rname_calls _ _ x0.il n.S) ?_
  rintro b0 v0 ⟨rfl, c0⟩
  have v0 := x0.below c0.below
  refine ⟨_, rfl, fun c0 x0 => ?_⟩
  refine lR x0 fun c0 b0 => ?_
  refine lOr 3 (!(decide ((n.N) = 0))) b0 fun c0 x0 => ?_
  refine mv x0 fun c0 b0 => ?_
  refine lOr 3 (decide ((n.M) < 0)) b0 fun c0 x0 => ?_
  refine mv x0 fun c0 b0 => ?_
  refine lOr 3 (decide (6 < (n.M))) b0 fun c0 x0 => ?_
  refine wn q0 ?_
  rcases Bool.eq_false_or_eq_true (((((!(nameOk n.S)) || (!(decide ((n.N) = 0)))) || (decide ((n.M) < 0))) || (decide (6 < (n.M))))) with q0 | q0
  ·
   have c0 := q0
   try simp only [bz] at c0
   refine wct x0 q0 fun b0 => ?_
   refine wsc fun m0 y0 => lR b0 fun m0 b1 => ?_
   refine wn y0 <| wp_ret <| x_then_r <| x_block_r <| x_then_r <| er2 b1 ?_
   have b1 : bindL n = [] := bindL_bad (by omega) (show right n = false by rw [(right_elim2 (by omega))]; exact decide_eq_false (by rintro ⟨z1, z2⟩; have hq' := c0; rw [z1] at hq'; simp only [Bool.true_eq_false, false_or] at hq'; omega))
   rw [b1]
   have b1 := v0.pub 1 (dRow 1 (some ⟨d0, 0, none⟩) 0 0 (encIs ([])))
   refine ⟨(some ⟨d0, 0, none⟩), 0, ?_, b1.fr, b1.rx 0⟩
   exact ret_t2 rfl (ret_b (by exact (show right n = false by rw [(right_elim2 (by omega))]; exact decide_eq_false (by rintro ⟨z1, z2⟩; have hq' := c0; rw [z1] at hq'; simp only [Bool.true_eq_false, false_or] at hq'; omega)).symm))
  have c0 := or_fl q0
  have b1 := or_fl c0
  have y0 := or_fl b1
  have m0 := not_f y0
  have y0 := or_fr b1
  have b1 := not_f y0
  have y0 := of_decide_eq_true b1
  have b1 := or_fr c0
  have c0 := of_decide_eq_false b1
  have b1 := or_fr q0
  have b0 := of_decide_eq_false b1
  refine wcf x0 q0 fun b1 => ?_
  refine wp_skip <| xn t0 <| wsc fun t0 x0 => mv b1 fun t0 u0 => ?_
  refine bsl u0 v0 fun t0 b1 k0 z0 h0 => ?_
  refine m_appendF (f := encI) (i := 1) ([]) ([1]) sv z0 h0 rfl rfl rfl rfl rfl encI_len (encI_one _) Tryd.underlying82 zi3 rfl rfl (own_lnews (f := encI) (h0.res (i := 2) rfl)) rfl (by (simp only [List.length_cons, List.length_nil]; omega)) (by decide) fun k0 b1 t0 u0 v0 o0 f0 => ?_
  have v0 : (([]) ++ ([1]) : List Int).length = 1 := by (simp only [List.length_append, List.length_take, List.length_cons, List.length_nil]; done)
  have v0 := f0.erase 2
  refine aw o0 x0 fun f0 u0 => ?_
  refine wsc fun x0 f0 => lR u0 fun x0 o0 => ?_
  refine adi (n.M + 1) o0 fun x0 u0 => ?_
  have x0 : (n.M + 1) = ((n.M.toNat + 1 : Nat) : Int) := by omega
  refine m_appendZ (i := 1) (([]) ++ ([1])) (n.M.toNat + 1) sv u0 v0 rfl rfl rfl rfl rfl x0 (by omega) (by simp) (by simp; omega) Tryd.underlying82 Tryd.underlying3 zi3 (by decide) fun o0 t0 b1 k0 h0 z0 c1 => ?_
  refine lR z0 fun h0 t0 => ?_
  refine wn f0 <| wp_ret <| x_block_r <| x_then_r <| er2 t0 ?_
  have t0 : bindL n = (([]) ++ ([1])) ++ List.replicate (n.M.toNat + 1) 0 := bindL_elim (by omega) (by rw [(right_elim2 (by omega))]; first | (simp [q0, m0, y0, c0, b0]; done) | (simp [q0, m0, y0, c0, b0]; omega))
  rw [t0]
  have t0 := c1.pub 1 (dRow 1 b1 (((([]) ++ ([1])) ++ List.replicate (n.M.toNat + 1) 0 : List Int).length) k0 (encIs ((([]) ++ ([1])) ++ List.replicate (n.M.toNat + 1) 0)))
  refine ⟨b1, k0, ?_, t0.fr, t0.rx 0⟩
  exact ret_t2 rfl (ret_b (by (rw [(right_elim2 (by omega))]; simp [q0, m0, y0, c0, b0] <;> omega) ))
 refine wcf n0 (decide_eq_false p0) fun b0 => ?_
 refine wp_skip <| x_block_n <| xn j0 <| wsc fun j0 p0 => lR b0 fun j0 n0 => ?_
 refine wn p0 <| wp_ret <| er2 n0 ?_
 have n0 : bindL n = [] := bindL_none (by omega)
 rw [n0]
 have n0 := i0.pub 1 (dRow 1 (some ⟨d0, 0, none⟩) 0 0 (encIs ([])))
 refine ⟨(some ⟨d0, 0, none⟩), 0, ?_, n0.fr, n0.rx 0⟩
 exact ret_t2 rfl (ret_b (by (rw [(right_bad (by omega))]; done) ))
theorem rwhole_calls (w0 : World) (Z : Nat → Prop) (hZ : ∀ k, Z k → k < w0.heap.size) (tA : Option Addr) (tc : Nat) (t : List Nd) (ht : (dRow 4 tA t.length tc (encNs t)).φ w0 Z) (hl : t.length ≤ 1000000 := by first | assumption | omega | (simp <;> omega)) (hsm : sml t := by first | assumption | omega | (simp <;> omega)) :
    Calls Tryd.prog 43 [.slice tA t.length tc].toArray w0 (fun e w' => e = .returned (.bool (measB t)) ∧ Fr none_ w0 w') := by
 have b0 := s0 (M := none_) hZ (zc ht zn)
 refine c_enter Tryd.func43 rfl Tryd.ntmps43 rfl fun c0 d0 => ?_
 refine wsc fun c0 f0 => aw d0 f0 fun c0 h0 => ?_
 refine wsc fun f0 c0 => aw h0 c0 fun f0 d0 => ?_
 refine wp_seq_k fun c0 f0 => wsc fun c0 h0 => aw d0 h0 fun c0 i0 => ?_
 refine wp_block ?_
 refine wp_loop_ghost (fun gn ga gw => ∃ k : Nat, ∃ st : List T, (Reg ga 36 [(1000000, .bool false), (0, .slice tA t.length tc), (4, .int .i64 ((k : Nat) : Int)), (3, .int .i64 ((st.length : Nat) : Int))]) ∧ (St w0 Z none_ gw [] [dRow 4 tA t.length tc (encNs t)]) ∧ (k ≤ t.length) ∧ (scanT [] (t.take k) = some st) ∧ (t.length - k) = gn) _ ⟨0, [], (i0.sub (rc2 (rc rfl (rc rfl rnl)))), b0, by omega, rfl, rfl⟩ ?_
 rintro i0 b0 h0 ⟨k, st, c0, d0, hk, hsc, j0⟩
 have hfl := scan_flats hsc hk
 have hsl := flats_len_ge st
 have hbl := bindL_le (nth t k)
 refine wp_seq_k fun j0 h0 => wsc fun j0 b0 => lR c0 fun j0 i0 => ?_
 refine wn b0 ?_
 rcases Decidable.em (((k : Nat) : Int) < ((t.length : Nat) : Int)) with b0 | b0
 ·
  refine wct i0 (decide_eq_true b0) fun j0 => ?_
  refine wp_skip <| xn h0 <| wp_seq_k fun h0 c0 => wp_block ?_
  refine wsc fun h0 k0 => lR j0 fun h0 m0 => ?_
  refine ix k (k * 4) m0 (nds_elem (t := t) (k := k) (d0.row (i := 0) rfl).2 (by omega)).some_ fun h0 j0 => ?_
  refine m_loadEN sv j0 rfl rfl rfl (nds_elem (t := t) (k := k) (d0.row (i := 0) rfl).2 (by omega)) Tryd.underlying39 rfl sz39 (by decide) fun h0 m0 => ?_
  have h0 := d0.nf
  refine kcl m0 ok51 (rbinds_calls _ _ h0.il (nth t k) (hs := (hsm _ (by omega)))) ?_
  rintro m0 j0 ⟨n0, o0, rfl, p0, q0⟩
  have o0 := h0.below p0.below
  have p0 := h0.dN o0 q0
  refine ⟨_, rfl, fun o0 q0 => ?_⟩
  refine lR q0 fun o0 h0 => ?_
  refine wn k0 <| wp_seq_k fun k0 o0 => wsc fun k0 q0 => lR h0 fun k0 n0 => ?_
  refine lOr 4 (decide (((st.length : Nat) : Int) < (((bindL (nth t k)).length : Nat) : Int))) n0 fun k0 h0 => ?_
  refine wn q0 ?_
  rcases Bool.eq_false_or_eq_true (((!(right (nth t k))) || (decide (((st.length : Nat) : Int) < (((bindL (nth t k)).length : Nat) : Int))))) with q0 | q0
  ·
   have k0 := q0
   try simp only [bz] at k0
   refine wct h0 q0 fun n0 => ?_
   refine wsc fun j0 m0 => aw n0 m0 fun j0 t0 => ?_
   refine wp_ret <| x_then_r <| x_block_r <| x_then_r <| x_then_r <| x_block_r <| x_then_r <| er1 t0 ?_
   refine ⟨?_, p0.fr⟩
   exact cr (ret_b (by exact (whole_no hsc (by omega) k0).symm))
  have k0 := or_fl q0
  have t0 := not_f k0
  have t0 := or_fr q0
  have k0 := of_decide_eq_false t0
  have hbm := bindL_many (n := nth t k) (by assumption)
  refine wcf h0 q0 fun k0 => ?_
  refine wp_skip <| xn o0 <| c_region ?_
  refine lR k0 fun o0 q0 => ?_
  refine sbi (((st.length : Nat) : Int) - (((bindL (nth t k)).length : Nat) : Int)) q0 fun o0 k0 => ?_
  refine adi (((st.length : Nat) : Int) - (((bindL (nth t k)).length : Nat) : Int) + 1) k0 fun o0 q0 => ?_
  refine asg q0 fun o0 k0 => ?_
  refine wpList_nil ?_
  refine x_block_n <| xn c0 <| c_region ?_
  refine mv k0 fun c0 o0 => ?_
  refine adi ((k + 1 : Nat) : Int) o0 fun c0 k0 => ?_
  refine asg k0 fun c0 o0 => ?_
  refine wpList_nil ?_
  obtain ⟨st', hp, hpl⟩ := push_some (st := st) (n := nth t k) (by assumption) (by omega)
  have c0 := p0.forget 1
  exact ⟨_, by omega, k + 1, st', (o0.sub (rc2 (rc rfl (rc (ri rfl (by rw [hpl]; omega)) rnl)))), c0, by omega, (scan_step hsc (by omega)).trans hp, rfl⟩
 refine wcf i0 (decide_eq_false b0) fun c0 => ?_
 refine wp_exit ?_
 refine x_then_e ?_
 refine x_then_e ?_
 refine x_block_eq ?_
 refine xn f0 <| wsc fun f0 b0 => lR c0 fun f0 i0 => ?_
 refine wn b0 <| wp_ret <| er1 i0 ?_
 refine ⟨?_, d0.fr⟩
 exact cr (ret_b (by (rw [measB_end (by rw [← hsc, List.take_of_length_le (by omega)])]; done)))
theorem rdeeper_calls (w0 : World) (Z : Nat → Prop) (hZ : ∀ k, Z k → k < w0.heap.size) (tA : Option Addr) (tc : Nat) (t : List Nd) (ht : (dRow 4 tA t.length tc (encNs t)).φ w0 Z) (hl : t.length ≤ 4000 := by first | assumption | omega | (simp <;> omega)) (hsm : sml t := by first | assumption | omega | (simp <;> omega)) (hb : measB t = true := by first | assumption | omega | (simp <;> omega)) :
    Calls Tryd.prog 44 [.slice tA t.length tc].toArray w0 (fun e w' => e = .returned (.bool (deepB t)) ∧ Fr none_ w0 w') := by
 have b0 := s0 (M := none_) hZ (zc ht zn)
 refine c_enter Tryd.func44 rfl Tryd.ntmps44 rfl fun c0 d0 => ?_
 refine wsc fun c0 f0 => aw d0 f0 fun c0 h0 => ?_
 refine wsc fun f0 c0 => bsl h0 b0 fun f0 d0 i0 j0 k0 => ?_
 refine aw j0 c0 fun d0 f0 => ?_
 refine wp_seq_k fun c0 d0 => wsc fun c0 j0 => aw f0 j0 fun c0 h0 => ?_
 refine wp_block ?_
 refine wp_loop_ghost (fun gn ga gw => ∃ k : Nat, ∃ st : List T, ∃ Al : Option Addr, ∃ cl : Nat, (Reg ga 51 [(1000000, .bool false), (0, .slice tA t.length tc), (4, .int .i64 ((k : Nat) : Int)), (3, .slice Al ((dl st).length) cl)]) ∧ (St w0 Z none_ gw [.row Al ((dl st).length) cl 3 1 (encIs (dl st))] [dRow 4 tA t.length tc (encNs t)]) ∧ (k ≤ t.length) ∧ (scanT [] (t.take k) = some st) ∧ (shallow st) ∧ (t.length - k) = gn) _ ⟨0, [], (some ⟨i0, 0, none⟩), 0, (h0.sub (rc2 (rc rfl (rc rfl rnl)))), k0, by omega, rfl, (fun _ h => by cases h), rfl⟩ ?_
 rintro h0 k0 i0 ⟨k, st, Al, cl, j0, c0, hk, hsc, hsh, f0⟩
 have hfl := scan_flats hsc hk
 have hsl := flats_len_ge st
 have hdl := dl_length st
 refine wp_seq_k fun f0 i0 => wsc fun f0 k0 => lR j0 fun f0 h0 => ?_
 refine wn k0 ?_
 rcases Decidable.em (((k : Nat) : Int) < ((t.length : Nat) : Int)) with k0 | k0
 ·
  obtain ⟨hrk, hmk⟩ := measB_at hb hsc (by omega)
  have hbm := bindL_many hrk
  refine wct h0 (decide_eq_true k0) fun f0 => ?_
  refine wp_skip <| xn i0 <| wp_seq_k fun i0 j0 => wp_block ?_
  refine wsc fun i0 b0 => lR f0 fun i0 m0 => ?_
  refine ix k (k * 4) m0 (nds_elem (t := t) (k := k) (c0.row (i := 0) rfl).2 (by omega)).some_ fun i0 f0 => ?_
  refine m_loadEN sv f0 rfl rfl rfl (nds_elem (t := t) (k := k) (c0.row (i := 0) rfl).2 (by omega)) Tryd.underlying39 rfl sz39 (by decide) fun i0 m0 => ?_
  have i0 := c0.nf
  refine kcl m0 ok51 (rbinds_calls _ _ i0.il (nth t k) (hs := (hsm _ (by omega)))) ?_
  rintro m0 f0 ⟨n0, o0, rfl, p0, q0⟩
  have f0 := i0.below p0.below
  have p0 := i0.dN f0 q0
  refine ⟨_, rfl, fun f0 q0 => ?_⟩
  refine lR q0 fun f0 i0 => ?_
  refine wn b0 <| wsc fun b0 f0 => aw i0 f0 fun b0 q0 => ?_
  refine wp_seq_k fun f0 b0 => wsc fun f0 i0 => aw q0 i0 fun f0 m0 => ?_
  refine wp_block ?_
  refine wp_loop_ghost (fun gn ga gw => ∃ j : Nat, (Reg ga 51 [(1000000, .bool false), (0, .slice tA t.length tc), (4, .int .i64 ((k : Nat) : Int)), (5, .slice n0 ((bindL (nth t k)).length) o0), (8, .int .i64 ((j : Nat) : Int)), (7, .int .i64 ((maxB st j))), (3, .slice Al ((dl st).length - j) cl)]) ∧ (St w0 Z none_ gw [.row Al ((dl st).length) cl 3 1 (encIs (dl st))] [dRow 4 tA t.length tc (encNs t), dRow 1 n0 ((bindL (nth t k)).length) o0 (encIs (bindL (nth t k)))]) ∧ (j ≤ many (nth t k)) ∧ (many (nth t k) - j) = gn) _ ⟨0, (m0.sub (rc4 (rc rfl (rc (ri rfl (by rw [maxB_zero])) (rc rfl rnl))))), p0, by omega, rfl⟩ ?_
  rintro m0 p0 o0 ⟨j, n0, i0, hj, f0⟩
  have hmx := maxB_le (st := st) (j := j)
  refine wp_seq_k fun f0 o0 => wsc fun f0 p0 => lR n0 fun f0 m0 => ?_
  refine wn p0 ?_
  rcases Decidable.em (((j : Nat) : Int) < (((bindL (nth t k)).length : Nat) : Int)) with p0 | p0
  ·
   refine wct m0 (decide_eq_true p0) fun f0 => ?_
   refine wp_skip <| xn o0 <| wp_seq_k fun o0 n0 => wp_block ?_
   refine wsc fun o0 q0 => lR f0 fun o0 t0 => ?_
   refine sbi ((((dl st).length - j : Nat) : Int) - 1) t0 fun o0 f0 => ?_
   refine ix (((dl st).length - j) - (1)) ((((dl st).length - j) - (1)) * 1) f0 (own_ints (t := dl st) (k := ((dl st).length - j) - (1)) (i0.res (i := 0) rfl) (by omega)).some_ fun o0 t0 => ?_
   refine lde 0 ((((dl st).length - j) - (1)) * 1) t0 (own_ints (t := dl st) (k := ((dl st).length - j) - (1)) (i0.res (i := 0) rfl) (by omega)) fun o0 f0 => ?_
   refine r_max sv f0 rfl rfl rfl rfl rfl (by decide) fun o0 t0 => ?_
   refine asg t0 fun o0 f0 => ?_
   refine wpList_nil (x_then_n (q0 _ _ (c_region ?_)))
   refine lR f0 fun q0 o0 => ?_
   refine sbi ((((dl st).length - j : Nat) : Int) - 1) o0 fun q0 f0 => ?_
   have q0 := own_cap (i0.res (i := 0) rfl)
   refine m_sliceP (q := ((dl st).length - j) - (1)) sv f0 rfl rfl rfl rfl (by omega) Tryd.underlying82 sz3 (by omega) (by decide) fun q0 o0 => ?_
   refine asg o0 fun q0 f0 => ?_
   refine wpList_nil ?_
   refine x_block_n <| xn n0 <| c_region ?_
   refine mv f0 fun n0 q0 => ?_
   refine adi ((j + 1 : Nat) : Int) q0 fun n0 f0 => ?_
   refine asg f0 fun n0 q0 => ?_
   refine wpList_nil ?_
   exact ⟨_, by omega, j + 1, (q0.sub (rc4 (rc rfl (rc (ri rfl (by rw [dl_length]; exact (maxB_step (by omega)).symm)) (rc rfl rnl))))), i0, by omega, rfl⟩
  refine wcf m0 (decide_eq_false p0) fun q0 => ?_
  refine wp_exit ?_
  refine x_then_e ?_
  refine x_then_e ?_
  refine x_block_eq ?_
  refine xn b0 <| wp_seq_k fun b0 p0 => wsc fun b0 m0 => mv q0 fun b0 n0 => ?_
  refine adi ((maxB st j) + 1) n0 fun b0 q0 => ?_
  refine lR q0 fun b0 n0 => ?_
  refine wn m0 ?_
  rcases Decidable.em (60 < ((maxB st j) + 1)) with m0 | m0
  ·
   refine wct n0 (decide_eq_true m0) fun b0 => ?_
   refine wsc fun q0 f0 => aw b0 f0 fun q0 o0 => ?_
   refine wp_ret <| x_then_r <| x_block_r <| x_then_r <| x_then_r <| x_block_r <| x_then_r <| er1 o0 ?_
   refine ⟨?_, i0.fr⟩
   exact cr (ret_b (by exact (deepB_true (k := k) hb hsc (by omega) hrk (by omega) (by rw [← show j = many (nth t k) by omega]; omega)).symm))
  refine wcf n0 (decide_eq_false m0) fun o0 => ?_
  refine wp_skip <| xn p0 <| c_region ?_
  refine lR o0 fun p0 m0 => ?_
  refine adi ((maxB st j) + 1) m0 fun p0 o0 => ?_
  refine bsl o0 i0 fun p0 m0 n0 f0 q0 => ?_
  refine m_appendC (f := encI) (i := 0) (dl st) ([((maxB st j) + 1)]) sv f0 q0 rfl rfl rfl rfl rfl (by omega) encI_len (encI_one _) Tryd.underlying82 zi3 rfl rfl (own_lnews (f := encI) (q0.res (i := 1) rfl)) rfl (by (simp only [List.length_cons, List.length_nil]; omega)) (by decide) fun n0 m0 p0 o0 i0 b0 t0 => ?_
  have i0 : ((dl st).take ((dl st).length - j) ++ ([((maxB st j) + 1)]) : List Int).length = (dl st).length - j + 1 := by (simp only [List.length_append, List.length_take, List.length_cons, List.length_nil]; omega)
  have i0 := t0.erase 1
  refine asg b0 fun t0 m0 => ?_
  refine wpList_nil ?_
  refine x_block_n <| xn j0 <| c_region ?_
  refine mv m0 fun j0 t0 => ?_
  refine adi ((k + 1 : Nat) : Int) t0 fun j0 m0 => ?_
  refine asg m0 fun j0 t0 => ?_
  refine wpList_nil ?_
  obtain ⟨st', hp, hpl⟩ := push_some (st := st) (n := nth t k) hrk (by omega)
  have hpd := (push_dl hp).1
  have hjq : j = many (nth t k) := by omega
  have j0 : (dl st).take ((dl st).length - j) ++ ([((maxB st j) + 1)]) = dl st' := by rw [hpd, hjq, dl_length]
  have m0 := t0
  have t0 := i0
  rw [j0] at m0 t0
  have j0 := t0.forget 1
  exact ⟨_, by omega, k + 1, st', p0, o0, (m0.sub (rc2 (rc rfl (rc rfl rnl)))), j0, by omega, (scan_step hsc (by omega)).trans hp, shallow_push hp hsh (by rw [← hjq]; omega), rfl⟩
 refine wcf h0 (decide_eq_false k0) fun j0 => ?_
 refine wp_exit ?_
 refine x_then_e ?_
 refine x_then_e ?_
 refine x_block_eq ?_
 refine xn d0 <| wsc fun d0 k0 => aw j0 k0 fun d0 h0 => ?_
 refine wp_ret <| er1 h0 ?_
 refine ⟨?_, c0.fr⟩
 exact cr (ret_b (by exact (deepB_false (by rw [← hsc, List.take_of_length_le (by omega)]) hsh).symm))
theorem rcheck_calls (w0 : World) (Z : Nat → Prop) (hZ : ∀ k, Z k → k < w0.heap.size) (tA : Option Addr) (tc : Nat) (t : List Nd) (ht : (dRow 4 tA t.length tc (encNs t)).φ w0 Z) (hl : t.length ≤ 100000000 := by first | assumption | omega | (simp <;> omega)) (hsm : sml t := by first | assumption | omega | (simp <;> omega)) :
    Calls Tryd.prog 24 [.slice tA t.length tc].toArray w0 (fun e w' => e = .returned (.int .i64 (chk t)) ∧ Fr none_ w0 w') := by
 have b0 := s0 (M := none_) hZ (zc ht zn)
 refine c_enter Tryd.func24 rfl Tryd.ntmps24 rfl fun c0 d0 => ?_
 refine wsc fun c0 f0 => aw d0 f0 fun c0 h0 => ?_
 refine wp_seq_k fun f0 c0 => wsc fun f0 d0 => lR h0 fun f0 i0 => ?_
 refine wn d0 ?_
 rcases Decidable.em (4000 < ((t.length : Nat) : Int)) with d0 | d0
 ·
  refine wct i0 (decide_eq_true d0) fun f0 => ?_
  refine wsc fun h0 j0 => aw f0 j0 fun h0 k0 => ?_
  refine wp_ret <| x_then_r <| er1 k0 ?_
  refine ⟨?_, b0.fr⟩
  exact cr (ret_i (by exact (chk_size (by omega)).symm))
 refine wcf i0 (decide_eq_false d0) fun k0 => ?_
 refine wp_skip <| xn c0 <| wp_seq_k fun c0 i0 => wsc fun c0 j0 => mv k0 fun c0 h0 => ?_
 have c0 := b0.nf
 refine kcl h0 ok43 (rwhole_calls _ _ c0.il _ _ _ (c0.g 0)) ?_
 rintro h0 b0 ⟨rfl, k0⟩
 have b0 := c0.below k0.below
 refine ⟨_, rfl, fun k0 c0 => ?_⟩
 refine lR c0 fun k0 h0 => ?_
 refine wn j0 ?_
 rcases Bool.eq_false_or_eq_true (measB t) with j0 | j0
 ·
  refine wcfb h0 rfl (by rw [j0]; rfl) fun k0 => ?_
  refine wp_skip <| xn i0 <| wp_seq_k fun i0 c0 => wsc fun i0 f0 => mv k0 fun i0 m0 => ?_
  have i0 := b0.nf
  refine kcl m0 ok44 (rdeeper_calls _ _ i0.il _ _ _ (i0.g 0)) ?_
  rintro m0 k0 ⟨rfl, n0⟩
  have k0 := i0.below n0.below
  refine ⟨_, rfl, fun n0 i0 => ?_⟩
  refine wn f0 ?_
  rcases Bool.eq_false_or_eq_true (deepB t) with f0 | f0
  ·
   refine wct i0 f0 fun n0 => ?_
   refine wsc fun m0 o0 => aw n0 o0 fun m0 p0 => ?_
   refine wp_ret <| x_then_r <| er1 p0 ?_
   refine ⟨?_, k0.fr⟩
   exact cr (ret_i (by (rw [chk_whole (by omega) (by assumption)]; simp [d0, j0, f0])))
  refine wcf i0 f0 fun p0 => ?_
  refine wp_skip <| xn c0 <| wsc fun c0 i0 => aw p0 i0 fun c0 o0 => ?_
  refine wp_ret <| er1 o0 ?_
  refine ⟨?_, k0.fr⟩
  exact cr (ret_i (by (rw [chk_whole (by omega) (by assumption)]; simp [d0, j0, f0])))
 refine wctb h0 rfl (by rw [j0]; rfl) fun f0 => ?_
 refine wsc fun j0 h0 => aw f0 h0 fun j0 d0 => ?_
 refine wp_ret <| x_then_r <| er1 d0 ?_
 refine ⟨?_, b0.fr⟩
 exact cr (ret_i (by exact (chk_form (by omega) (by assumption)).symm))
theorem rroot_calls (w0 : World) (Z : Nat → Prop) (hZ : ∀ k, Z k → k < w0.heap.size) (tA : Option Addr) (tc : Nat) (t : List Nd) (ht : (dRow 4 tA t.length tc (encNs t)).φ w0 Z) (hl : t.length ≤ 1000000 := by first | assumption | omega | (simp <;> omega)) (h0 : 0 < t.length := by first | assumption | omega | (simp <;> omega)) :
    Calls Tryd.prog 28 [.slice tA t.length tc].toArray w0 (fun e w' => e = .returned (.agg #[.int .i64 (((nth t (t.length - 1)).K)), .int .i64 (((nth t (t.length - 1)).N)), .int .i64 (((nth t (t.length - 1)).M)), .string ((nth t (t.length - 1)).S)]) ∧ Fr none_ w0 w') := by
 have b0 := s0 (M := none_) hZ (zc ht zn)
 refine c_enter Tryd.func28 rfl Tryd.ntmps28 rfl fun c0 d0 => ?_
 refine wsc fun c0 f0 => alc d0 b0 fun c0 i0 j0 k0 m0 => ?_
 refine wn f0 <| wsc fun f0 j0 => lR k0 fun f0 i0 => ?_
 refine sbi (((t.length : Nat) : Int) - 1) i0 fun f0 k0 => ?_
 refine ix ((t.length) - (1)) (((t.length) - (1)) * 4) k0 (nds_elem (t := t) (k := (t.length) - (1)) (m0.row (i := 0) rfl).2 (by omega)).some_ fun f0 i0 => ?_
 refine m_loadEN sv i0 rfl rfl rfl (nds_elem (t := t) (k := (t.length) - (1)) (m0.row (i := 0) rfl).2 (by omega)) Tryd.underlying39 rfl sz39 (by decide) fun f0 k0 => ?_
 refine sto 0 k0 m0 fun f0 i0 c0 d0 => ?_
 refine wn j0 <| wp_ret <| e_cell (i := 0) (vs := [.int .i64 (((nth t ((t.length) - (1))).K)), .int .i64 (((nth t ((t.length) - (1))).N)), .int .i64 (((nth t ((t.length) - (1))).M)), .string ((nth t ((t.length) - (1))).S)]) (.inl rfl) c0 d0 rfl rfl rfl rfl Tryd.underlying39 rfl sz39 ?_
 refine ⟨?_, d0.fr⟩
 exact cr rfl
theorem rsame_calls (w0 : World) (Z : Nat → Prop) (hZ : ∀ k, Z k → k < w0.heap.size) (tA : Option Addr) (tc : Nat) (t : List Nd) (uA : Option Addr) (uc : Nat) (u : List Nd) (ht : (dRow 4 tA t.length tc (encNs t)).φ w0 Z) (hu : (dRow 4 uA u.length uc (encNs u)).φ w0 Z) (hl : t.length ≤ 1000000 := by first | assumption | omega | (simp <;> omega)) :
    Calls Tryd.prog 11 [.slice tA t.length tc, .slice uA u.length uc].toArray w0 (fun e w' => e = .returned (.bool (decide (t = u))) ∧ Fr none_ w0 w') := by
 have b0 := s0 (M := none_) hZ (zc ht (zc hu zn))
 refine c_enter Tryd.func11 rfl Tryd.ntmps11 rfl fun c0 d0 => ?_
 refine wsc fun c0 f0 => aw d0 f0 fun c0 h0 => ?_
 refine wp_seq_k fun f0 c0 => wsc fun f0 d0 => lR h0 fun f0 i0 => ?_
 refine wn d0 ?_
 rcases Decidable.em (((t.length : Nat) : Int) = ((u.length : Nat) : Int)) with d0 | d0
 ·
  refine wcfb i0 rfl (by rw [(decide_eq_true d0)]; rfl) fun f0 => ?_
  refine wp_skip <| xn c0 <| wp_seq_k fun c0 h0 => wsc fun c0 j0 => aw f0 j0 fun c0 k0 => ?_
  refine wp_block ?_
  refine wp_loop_ghost (fun gn ga gw => ∃ k : Nat, (Reg ga 26 [(1000000, .bool false), (0, .slice tA t.length tc), (1, .slice uA u.length uc), (5, .int .i64 ((k : Nat) : Int))]) ∧ (St w0 Z none_ gw [] [dRow 4 tA t.length tc (encNs t), dRow 4 uA u.length uc (encNs u)]) ∧ (k ≤ t.length) ∧ (t.take k = u.take k) ∧ (t.length - k) = gn) _ ⟨0, (k0.sub (rc2 (rc rfl (rc rfl rnl)))), b0, by omega, rfl, rfl⟩ ?_
  rintro k0 j0 c0 ⟨k, f0, m0, hk, hi, n0⟩
  refine wp_seq_k fun n0 c0 => wsc fun n0 j0 => lR f0 fun n0 k0 => ?_
  refine wn j0 ?_
  rcases Decidable.em (((k : Nat) : Int) < ((t.length : Nat) : Int)) with j0 | j0
  ·
   refine wct k0 (decide_eq_true j0) fun n0 => ?_
   refine wp_skip <| xn c0 <| wp_seq_k fun c0 f0 => wp_block ?_
   refine wp_seq_k fun c0 o0 => ?_
   obtain ⟨c0, p0, q0⟩ := m0.agree
   refine d_reg3 (n := 9) q0 2 pn (pan_then (pan_block (pan_then (pan_then (pan_block (pan_then pan_body)))))) fun c0 t0 u0 v0 x0 y0 => ?_
   refine dR [0, 1] n0 fun v0 c0 => ?_
   refine dix 2 k (k * 4) c0 (fun x hx => (nds_elem (t := t) (k := k) (sdat (p0 0 _ rfl) hx.ag).2 (by omega)).some_) fun v0 n0 => ?_
   refine dt 3 rfl t0 n0 (want_n rfl) (fun x hx => m_loadEN (sy n0) n0 rfl rfl rfl (nds_elem (t := t) (k := k) (sdat (p0 0 _ rfl) hx.ag).2 (by omega)) Tryd.underlying39 rfl sz39 (by decide) gt) y0 fun v0 c0 => ?_
   refine dR [4, 5] c0 fun v0 n0 => ?_
   refine dix 6 k (k * 4) n0 (fun x hx => (nds_elem (t := u) (k := k) (sdat (p0 1 _ rfl) hx.ag).2 (by omega)).some_) fun v0 c0 => ?_
   refine dt 7 rfl t0 c0 (want_n rfl) (fun x hx => m_loadEN (sy c0) c0 rfl rfl rfl (nds_elem (t := u) (k := k) (sdat (p0 1 _ rfl) hx.ag).2 (by omega)) Tryd.underlying39 rfl sz39 (by decide) gt) y0 fun v0 n0 => ?_
   refine dt 8 rfl t0 n0 (want_n rfl) (fun x hx => r_neqN (m := (nth t k)) (n := (nth u k)) (sy n0) n0 rfl rfl rfl rfl (by decide) gt) y0 fun v0 c0 => ?_
   refine wpAnyH_done (by kernel_rfl) (u0 _ _ ?_) _
   refine xn o0 ?_
   rcases Decidable.em ((nth t k) = (nth u k)) with o0 | o0
   ·
    refine wcfb c0 rfl (by rw [(decide_eq_true o0)]; rfl) fun u0 => ?_
    refine wp_skip <| x_block_n <| xn f0 <| c_region ?_
    refine mv u0 fun f0 v0 => ?_
    refine adi ((k + 1 : Nat) : Int) v0 fun f0 u0 => ?_
    refine asg u0 fun f0 v0 => ?_
    refine wpList_nil ?_
    have f0 := x0.forget 2
    exact ⟨_, by omega, k + 1, (v0.sub (rc2 (rc rfl (rc rfl rnl)))), f0, by omega, same_step hi (by omega) (by omega) (by assumption), rfl⟩
   refine wctb c0 rfl (by rw [(decide_eq_false o0)]; rfl) fun f0 => ?_
   refine wsc fun o0 c0 => aw f0 c0 fun o0 v0 => ?_
   refine wp_ret <| x_block_r <| x_then_r <| x_then_r <| x_block_r <| x_then_r <| er1 v0 ?_
   refine ⟨?_, x0.fr⟩
   exact cr (ret_b (by exact (same_no (k := k) (by omega) (by omega) (by assumption)).symm))
  refine wcf k0 (decide_eq_false j0) fun x0 => ?_
  refine wp_exit ?_
  refine x_then_e ?_
  refine x_then_e ?_
  refine x_block_eq ?_
  refine xn h0 <| wsc fun h0 j0 => aw x0 j0 fun h0 k0 => ?_
  refine wp_ret <| er1 k0 ?_
  refine ⟨?_, m0.fr⟩
  exact cr (ret_b (by exact (same_end hi (by omega) (by omega)).symm))
 refine wctb i0 rfl (by rw [(decide_eq_false d0)]; rfl) fun m0 => ?_
 refine wsc fun d0 i0 => aw m0 i0 fun d0 k0 => ?_
 refine wp_ret <| x_then_r <| er1 k0 ?_
 refine ⟨?_, b0.fr⟩
 exact cr (ret_b (by exact (same_len (by omega)).symm))
theorem rfrom_calls_rec (rn : Nat) : ∀ (w0 : World) (Z : Nat → Prop) (hZ : ∀ k, Z k → k < w0.heap.size) (tA : Option Addr) (tc : Nat) (t : List Nd) (ed : Int) (ht : (dRow 4 tA t.length tc (encNs t)).φ w0 Z) (hl : t.length ≤ 1000000) (hsm : sml t) (hb : measB t = true) (he0 : 0 ≤ ed) (he1 : ed < t.length) (hrn : ed.toNat = rn),
    Calls Tryd.prog 52 [.slice tA t.length tc, .int .i64 ed].toArray w0 (fun e w' => e = .returned (.int .i64 ((frL t ed.toNat : Nat) : Int)) ∧ Fr none_ w0 w') := by
 induction rn using Nat.strongRecOn
 rename_i rn ih
 intro w0 Z hZ tA tc t ed ht hl hsm hb he0 he1 hrn
 have b0 := s0 (M := none_) hZ (zc ht zn)
 have hm8 := many_le (right_at hb (show ed.toNat < t.length by omega))
 have hbm := bindL_many (right_at hb (show ed.toNat < t.length by omega))
 refine c_enter Tryd.func52 rfl Tryd.ntmps52 rfl fun c0 d0 => ?_
 refine wsc fun c0 f0 => aw d0 f0 fun c0 h0 => ?_
 refine wp_seq_k fun f0 c0 => wsc fun f0 d0 => lR h0 fun f0 i0 => ?_
 refine wn d0 ?_
 have d0 : ¬ ((ed) < 0) := by omega
 refine wcf i0 (decide_eq_false d0) fun f0 => ?_
 refine wp_skip <| xn c0 <| wsc fun c0 d0 => lR f0 fun c0 i0 => ?_
 refine ix (((ed)).toNat) ((((ed)).toNat) * 4) i0 (nds_elem (t := t) (k := ((ed)).toNat) (b0.row (i := 0) rfl).2 (by omega)).some_ fun c0 f0 => ?_
 refine m_loadEN sv f0 rfl rfl rfl (nds_elem (t := t) (k := ((ed)).toNat) (b0.row (i := 0) rfl).2 (by omega)) Tryd.underlying39 rfl sz39 (by decide) fun c0 i0 => ?_
 have c0 := b0.nf
 refine kcl i0 ok51 (rbinds_calls _ _ c0.il (nth t (((ed)).toNat)) (hs := (hsm _ (by omega)))) ?_
 rintro i0 b0 ⟨f0, h0, rfl, j0, k0⟩
 have b0 := c0.below j0.below
 have j0 := c0.dN b0 k0
 refine ⟨_, rfl, fun b0 k0 => ?_⟩
 refine lR k0 fun b0 c0 => ?_
 refine wn d0 <| wp_seq_k fun d0 b0 => wsc fun d0 k0 => lR c0 fun d0 i0 => ?_
 refine wn k0 ?_
 have k0 : (right (nth t (((ed)).toNat))) = true := right_at hb (by omega)
 refine wcfb i0 rfl (by rw [k0]; rfl) fun d0 => ?_
 refine wp_skip <| xn b0 <| wsc fun b0 k0 => lR d0 fun b0 i0 => ?_
 refine wn k0 <| wp_seq_k fun k0 b0 => wsc fun k0 d0 => aw i0 d0 fun k0 c0 => ?_
 refine wp_block ?_
 refine wp_loop_ghost (fun gn ga gw => ∃ k : Nat, (Reg ga 35 [(1000000, .bool false), (0, .slice tA t.length tc), (5, .slice f0 ((bindL (nth t (((ed)).toNat))).length) h0), (8, .int .i64 ((k : Nat) : Int)), (7, .int .i64 ((posL t ed.toNat k : Nat) : Int))]) ∧ (St w0 Z none_ gw [] [dRow 4 tA t.length tc (encNs t), dRow 1 f0 ((bindL (nth t (((ed)).toNat))).length) h0 (encIs (bindL (nth t (((ed)).toNat))))]) ∧ (k ≤ many (nth t ed.toNat)) ∧ (many (nth t ed.toNat) - k) = gn) _ ⟨0, (c0.sub (rc4 (rc (ri rfl (by rw [posL_zero hb (by omega)]; omega)) rnl))), j0, by omega, rfl⟩ ?_
 rintro c0 j0 h0 ⟨k, f0, d0, hk, k0⟩
 refine wp_seq_k fun k0 h0 => wsc fun k0 j0 => lR f0 fun k0 c0 => ?_
 refine wn j0 ?_
 rcases Decidable.em (((k : Nat) : Int) < (((bindL (nth t (((ed)).toNat))).length : Nat) : Int)) with j0 | j0
 ·
  obtain ⟨hps1, hps2, hps3, hps4⟩ := posL_step hb (show ed.toNat < t.length by omega) (show k < many (nth t ed.toNat) by omega)
  refine wct c0 (decide_eq_true j0) fun k0 => ?_
  refine wp_skip <| xn h0 <| wp_seq_k fun h0 f0 => wp_block ?_
  refine wsc fun h0 i0 => lR k0 fun h0 m0 => ?_
  refine sbi (((posL t ed.toNat k : Nat) : Int) - 1) m0 fun h0 k0 => ?_
  have h0 := d0.nf
  refine kcl k0 ok52 (ih ((((posL t ed.toNat k : Nat) : Int) - 1).toNat) (by omega) _ (imm Z w0 [] _) (fun _ h => h.1) _ _ _ (((posL t ed.toNat k : Nat) : Int) - 1) (h0.g 0) (by assumption) (by assumption) (by assumption) (by omega) (by omega) rfl) ?_
  rintro k0 m0 ⟨rfl, n0⟩
  have m0 := h0.below n0.below
  refine ⟨_, rfl, fun n0 h0 => ?_⟩
  refine aw h0 i0 fun n0 k0 => ?_
  refine wsc fun i0 n0 => lR k0 fun i0 h0 => ?_
  refine wn n0 ?_
  have n0 : ¬ (((frL t (((posL t ed.toNat k : Nat) : Int) - 1).toNat : Nat) : Int) < 0) := by omega
  refine wcf h0 (decide_eq_false n0) fun i0 => ?_
  refine wp_skip <| x_block_n <| xn f0 <| c_region ?_
  refine mv i0 fun f0 n0 => ?_
  refine adi ((k + 1 : Nat) : Int) n0 fun f0 i0 => ?_
  refine asg i0 fun f0 n0 => ?_
  refine wpList_nil ?_
  exact ⟨_, by omega, k + 1, (n0.sub (rc4 (rc (ri rfl (by rw [show (((posL t ed.toNat k : Nat) : Int) - 1).toNat = posL t ed.toNat k - 1 by omega, hps3])) rnl))), m0, by omega, rfl⟩
 refine wcf c0 (decide_eq_false j0) fun n0 => ?_
 refine wp_exit ?_
 refine x_then_e ?_
 refine x_then_e ?_
 refine x_block_eq ?_
 refine xn b0 <| wsc fun b0 j0 => lR n0 fun b0 c0 => ?_
 refine wn j0 <| wp_ret <| er1 c0 ?_
 refine ⟨?_, d0.fr⟩
 exact cr (ret_i (by rw [← posL_end hb (by omega), show k = many (nth t ed.toNat) by omega]))
theorem rfrom_calls (w0 : World) (Z : Nat → Prop) (hZ : ∀ k, Z k → k < w0.heap.size) (tA : Option Addr) (tc : Nat) (t : List Nd) (ed : Int) (ht : (dRow 4 tA t.length tc (encNs t)).φ w0 Z) (hl : t.length ≤ 1000000 := by first | assumption | omega | (simp <;> omega)) (hsm : sml t := by first | assumption | omega | (simp <;> omega)) (hb : measB t = true := by first | assumption | omega | (simp <;> omega)) (he0 : 0 ≤ ed := by first | assumption | omega | (simp <;> omega)) (he1 : ed < t.length := by first | assumption | omega | (simp <;> omega)) :
    Calls Tryd.prog 52 [.slice tA t.length tc, .int .i64 ed].toArray w0 (fun e w' => e = .returned (.int .i64 ((frL t ed.toNat : Nat) : Int)) ∧ Fr none_ w0 w') := rfrom_calls_rec _ w0 Z hZ tA tc t ed ht hl hsm hb he0 he1 rfl
theorem rparts_calls (w0 : World) (Z : Nat → Prop) (hZ : ∀ k, Z k → k < w0.heap.size) (tA : Option Addr) (tc : Nat) (t : List Nd) (ht : (dRow 4 tA t.length tc (encNs t)).φ w0 Z) (hl : t.length ≤ 1000000 := by first | assumption | omega | (simp <;> omega)) (hsm : sml t := by first | assumption | omega | (simp <;> omega)) (hb : measB t = true := by first | assumption | omega | (simp <;> omega)) :
    Calls Tryd.prog 31 [.slice tA t.length tc].toArray w0 (fun e w' => ∃ (rA0 : Option Addr) (rc0 : Nat) (rL0 : List Sl), e = .returned (.slice rA0 rL0.length rc0) ∧ Fr none_ w0 w' ∧ (dRow 1 rA0 rL0.length rc0 (encSs rL0)).φ w' (nxt Z w0 w') ∧ (dAll rL0).φ w' (nxt Z w0 w') ∧ lsts rL0 = ptL t) := by
 have b0 := s0 (M := none_) hZ (zc ht zn)
 have hp0 := meas_pos hb
 have hm8 := many_le (right_at hb (show t.length - 1 < t.length by omega))
 have hbm := bindL_many (right_at hb (show t.length - 1 < t.length by omega))
 refine c_enter Tryd.func31 rfl Tryd.ntmps31 rfl fun c0 d0 => ?_
 refine wsc fun c0 f0 => aw d0 f0 fun c0 h0 => ?_
 refine wsc fun f0 c0 => lR h0 fun f0 d0 => ?_
 refine sbi (((t.length : Nat) : Int) - 1) d0 fun f0 h0 => ?_
 refine aw h0 c0 fun f0 d0 => ?_
 refine wsc fun c0 f0 => lR d0 fun c0 h0 => ?_
 refine ix ((t.length) - (1)) (((t.length) - (1)) * 4) h0 (nds_elem (t := t) (k := (t.length) - (1)) (b0.row (i := 0) rfl).2 (by omega)).some_ fun c0 d0 => ?_
 refine m_loadEN sv d0 rfl rfl rfl (nds_elem (t := t) (k := (t.length) - (1)) (b0.row (i := 0) rfl).2 (by omega)) Tryd.underlying39 rfl sz39 (by decide) fun c0 h0 => ?_
 have c0 := b0.nf
 refine kcl h0 ok51 (rbinds_calls _ _ c0.il (nth t ((t.length) - (1))) (hs := (hsm _ (by omega)))) ?_
 rintro h0 b0 ⟨d0, i0, rfl, j0, k0⟩
 have b0 := c0.below j0.below
 have j0 := c0.dN b0 k0
 refine ⟨_, rfl, fun b0 k0 => ?_⟩
 refine lR k0 fun b0 c0 => ?_
 refine wn f0 <| wsc fun f0 b0 => ?_
 have f0 := j0.data (dAll []) all_nil
 refine bsl c0 f0 fun j0 k0 h0 m0 n0 => ?_
 refine aw m0 b0 fun k0 j0 => ?_
 refine wp_seq_k fun b0 k0 => wsc fun b0 m0 => aw j0 m0 fun b0 f0 => ?_
 refine wp_block ?_
 refine wp_loop_ghost (fun gn ga gw => ∃ k : Nat, ∃ Ls : List Sl, ∃ Ao : Option Addr, ∃ co : Nat, (Reg ga 42 [(1000000, .bool false), (0, .slice tA t.length tc), (2, .slice none 0 0), (4, .slice d0 ((bindL (nth t ((t.length) - (1)))).length) i0), (7, .int .i64 ((k : Nat) : Int)), (3, .int .i64 ((posL t (t.length - 1) k : Nat) : Int)), (6, .slice Ao ((Ls).length) co)]) ∧ (St w0 Z none_ gw [.row Ao ((Ls).length) co 22 1 (encSs Ls)] [dRow 4 tA t.length tc (encNs t), dRow 1 d0 ((bindL (nth t ((t.length) - (1)))).length) i0 (encIs (bindL (nth t ((t.length) - (1))))), dAll Ls]) ∧ (k ≤ many (nth t (t.length - 1))) ∧ (lsts Ls = ptD t k) ∧ (many (nth t (t.length - 1)) - k) = gn) _ ⟨0, [], (some ⟨h0, 0, none⟩), 0, (f0.sub (rc4 (rc rfl (rc (ri rfl (by rw [posL_zero hb (by omega)]; omega)) (rc rfl rnl))))), n0, by omega, (ptD_zero t).symm, rfl⟩ ?_
 rintro f0 n0 h0 ⟨k, Ls, Ao, co, i0, d0, hk, hL, m0⟩
 have hLn : Ls.length = k := by rw [← lsts_len, hL, ptD_length hb hk]
 refine wp_seq_k fun m0 h0 => wsc fun m0 n0 => lR i0 fun m0 f0 => ?_
 refine wn n0 ?_
 rcases Decidable.em (((k : Nat) : Int) < (((bindL (nth t ((t.length) - (1)))).length : Nat) : Int)) with n0 | n0
 ·
  obtain ⟨hps1, hps2, hps3, hps4⟩ := posL_step hb (show t.length - 1 < t.length by omega) (show k < many (nth t (t.length - 1)) by omega)
  have hps5 := hps3
  rw [show posL t (t.length - 1) k - 1 = (((posL t (t.length - 1) k : Nat) : Int) - 1).toNat by omega] at hps5
  refine wct f0 (decide_eq_true n0) fun m0 => ?_
  refine wp_skip <| xn h0 <| wp_seq_k fun h0 i0 => wp_block ?_
  refine wsc fun h0 b0 => lR m0 fun h0 j0 => ?_
  refine sbi (((posL t (t.length - 1) k : Nat) : Int) - 1) j0 fun h0 m0 => ?_
  have h0 := d0.nf
  refine kcl m0 ok52 (rfrom_calls _ _ h0.il _ _ _ (((posL t (t.length - 1) k : Nat) : Int) - 1) (h0.g 0)) ?_
  rintro m0 j0 ⟨rfl, c0⟩
  have j0 := h0.below c0.below
  refine ⟨_, rfl, fun c0 h0 => ?_⟩
  refine aw h0 b0 fun c0 m0 => ?_
  refine wsc fun b0 c0 => lR m0 fun b0 h0 => ?_
  refine m_sliceD (f := encN) (lo := some (.tmp 33)) (hi := some (.tmp 34)) (vlo := (some (.int .i64 ((frL t (((posL t (t.length - 1) k : Nat) : Int) - 1).toNat : Nat) : Int)))) (vhi := (some (.int .i64 ((posL t (t.length - 1) k : Nat) : Int)))) (kd := .i64) (kd' := .i64) sv h0 rfl rfl rfl rfl rfl (frL t (((posL t (t.length - 1) k : Nat) : Int) - 1).toNat) ((posL t (t.length - 1) k) - (frL t (((posL t (t.length - 1) k : Nat) : Int) - 1).toNat)) (.inl (by rfl)) (.inl (by congr 2; omega)) (((t).drop (frL t (((posL t (t.length - 1) k : Nat) : Int) - 1).toNat)).take ((posL t (t.length - 1) k) - (frL t (((posL t (t.length - 1) k : Nat) : Int) - 1).toNat))) rfl encN_len (j0.row (i := 0) rfl) Tryd.underlying22 sz39 (by omega) (by decide) fun b0 m0 o0 p0 q0 => ?_
  have b0 : (((t).drop (frL t (((posL t (t.length - 1) k : Nat) : Int) - 1).toNat)).take ((posL t (t.length - 1) k) - (frL t (((posL t (t.length - 1) k : Nat) : Int) - 1).toNat))).length = (posL t (t.length - 1) k) - (frL t (((posL t (t.length - 1) k : Nat) : Int) - 1).toNat) := by (simp only [List.length_drop, List.length_take]; omega)
  have b0 := j0.data (dRow 4 m0 ((((t).drop (frL t (((posL t (t.length - 1) k : Nat) : Int) - 1).toNat)).take ((posL t (t.length - 1) k) - (frL t (((posL t (t.length - 1) k : Nat) : Int) - 1).toNat))).length) o0 (encNs (((t).drop (frL t (((posL t (t.length - 1) k : Nat) : Int) - 1).toNat)).take ((posL t (t.length - 1) k) - (frL t (((posL t (t.length - 1) k : Nat) : Int) - 1).toNat))))) p0
  have p0 := b0.data (dAll [((m0, o0, ((t).drop (frL t (((posL t (t.length - 1) k : Nat) : Int) - 1).toNat)).take ((posL t (t.length - 1) k) - (frL t (((posL t (t.length - 1) k : Nat) : Int) - 1).toNat))) : Sl)]) (all_cons (b0.get (i := 3) rfl) all_nil)
  refine bsl q0 p0 fun b0 j0 h0 t0 u0 => ?_
  refine aw t0 c0 fun h0 j0 => ?_
  refine wsc fun c0 h0 => lR j0 fun c0 t0 => ?_
  refine m_appendF (f := encS) (i := 1) ([((m0, o0, ((t).drop (frL t (((posL t (t.length - 1) k : Nat) : Int) - 1).toNat)).take ((posL t (t.length - 1) k) - (frL t (((posL t (t.length - 1) k : Nat) : Int) - 1).toNat))) : Sl)]) (Ls) sv t0 u0 rfl rfl rfl rfl rfl encS_len (encS_one _) Tryd.underlying40 zi22 rfl rfl (own_lnews (f := encS) (u0.res (i := 0) rfl)) rfl (by (simp only [List.length_cons, List.length_nil]; omega)) (by decide) fun c0 j0 b0 p0 q0 v0 x0 => ?_
  have q0 : (([((m0, o0, ((t).drop (frL t (((posL t (t.length - 1) k : Nat) : Int) - 1).toNat)).take ((posL t (t.length - 1) k) - (frL t (((posL t (t.length - 1) k : Nat) : Int) - 1).toNat))) : Sl)]) ++ Ls : List Sl).length = (Ls).length + 1 := by (simp only [List.length_append, List.length_take, List.length_cons, List.length_nil]; omega)
  have q0 := x0.erase 0
  have x0 := q0.data (dAll (([((m0, o0, ((t).drop (frL t (((posL t (t.length - 1) k : Nat) : Int) - 1).toNat)).take ((posL t (t.length - 1) k) - (frL t (((posL t (t.length - 1) k : Nat) : Int) - 1).toNat))) : Sl)]) ++ Ls)) (all_append (q0.get (i := 4) rfl) (q0.get (i := 2) rfl))
  refine asg v0 fun q0 j0 => ?_
  refine wpList_nil (x_then_n (h0 _ _ (c_region ?_)))
  refine lR j0 fun h0 q0 => ?_
  refine wpList_nil ?_
  refine x_block_n <| xn i0 <| c_region ?_
  refine mv q0 fun i0 h0 => ?_
  refine adi ((k + 1 : Nat) : Int) h0 fun i0 q0 => ?_
  refine asg q0 fun i0 h0 => ?_
  refine wpList_nil ?_
  have i0 := x0.forget 4
  have x0 := i0.forget 3
  have i0 := x0.forget 2
  exact ⟨_, by omega, k + 1, ([((m0, o0, ((t).drop (frL t (((posL t (t.length - 1) k : Nat) : Int) - 1).toNat)).take ((posL t (t.length - 1) k) - (frL t (((posL t (t.length - 1) k : Nat) : Int) - 1).toNat))) : Sl)]) ++ Ls, b0, p0, (h0.sub (rc4 (rc rfl (rc (ri rfl (by rw [show (((posL t (t.length - 1) k : Nat) : Int) - 1).toNat = posL t (t.length - 1) k - 1 by omega, hps3])) (rc rfl rnl))))), i0, by omega, parts_step hb hL (by omega) (by rw [show (((posL t (t.length - 1) k : Nat) : Int) - 1).toNat = posL t (t.length - 1) k - 1 by omega, hps3]) rfl, rfl⟩
 refine wcf f0 (decide_eq_false n0) fun i0 => ?_
 refine wp_exit ?_
 refine x_then_e ?_
 refine x_then_e ?_
 refine x_block_eq ?_
 refine xn k0 <| wsc fun k0 n0 => lR i0 fun k0 f0 => ?_
 refine wn n0 <| wp_ret <| er1 f0 ?_
 have f0 := d0.pub 0 (dRow 1 Ao ((Ls).length) co (encSs Ls))
 refine ⟨Ao, co, Ls, ?_, f0.fr, f0.rx 3, f0.rx 2, (by rw [hL, ← ptD_all hb, show k = many (nth t (t.length - 1)) by omega])⟩
 exact cr (ret_s (by rfl))
end Go.Proofs.YtpfmnpaifchleaaDoor
