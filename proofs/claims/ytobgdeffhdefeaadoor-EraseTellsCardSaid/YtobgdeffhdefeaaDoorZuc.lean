import Derived.Test.YtobgdeffhdefeaaDoorZub
/- Rows of nodes that are kept from round to round: a tail of the resources. -/
namespace Go.Proofs.YtobgdeffhdefeaaDoor
set_option linter.unusedSimpArgs false
set_option linter.unusedVariables false
open Go Go.RowKit
section
variable {w w' w0 : World} {Z M : Nat → Prop} {m m' : List Res} {ds : List Dat}
/-- The order of what is owned does not count. -/
theorem St.perm (h : St w0 Z M w m ds) (hp : m.Perm m') : St w0 Z M w m' ds := by
  have hmem : ∀ r, r ∈ m' ↔ r ∈ m := fun r => hp.symm.mem_iff
  have himm : imm Z w0 m' w = imm Z w0 m w := by
    funext k
    unfold imm
    refine propext ⟨fun q => ⟨q.1, q.2.1, fun r hr => q.2.2 r ((hmem r).2 hr)⟩, fun q => ⟨q.1, q.2.1, fun r hr => q.2.2 r ((hmem r).1 hr)⟩⟩
  refine ⟨h.os, h.tape, h.output, h.size, h.old, fun r hr => h.hold r ((hmem r).1 hr), fun r hr => h.own r ((hmem r).1 hr), ?_, fun d hd => by rw [himm]; exact h.dat d hd⟩
  refine (hp.pairwise_iff ?_).1 h.apart
  intro r s hrs k e e'
  exact hrs k e' e
/-- A new resource is set ahead of the tail. -/
theorem St.rot {A T : List Res} {r : Res} (h : St w0 Z M w ((A ++ T) ++ [r]) ds) : St w0 Z M w ((A ++ [r]) ++ T) ds :=
  h.perm (by
    rw [List.append_assoc, List.append_assoc]
    exact List.Perm.append_left A List.perm_append_comm)
/-- The row of a slice of nodes. -/
def rowOf (e : Nat) (s : Sl) : Res := .row s.1 s.2.2.length s.2.1 e 4 (encNs s.2.2)
/-- A row joins the tail. -/
theorem St.absorb {e : Nat} {A : List Res} {Ls : List Sl} {B : Option Addr} {c : Nat} {L : List Nd} (h : St w0 Z M w ((A ++ [.row B L.length c e 4 (encNs L)]) ++ Ls.map (rowOf e)) ds) : St w0 Z M w (A ++ (Ls ++ [((B, c, L) : Sl)]).map (rowOf e)) ds :=
  h.perm (by
    rw [List.map_append, List.append_assoc]
    exact List.Perm.append_left A List.perm_append_comm)
/-- The tail is let go: data. -/
theorem St.tail_data {e : Nat} {A : List Res} {Ls : List Sl} (h : St w0 Z M w (A ++ Ls.map (rowOf e)) ds) (hM : ∀ k, ¬ M k) : St w0 Z M w A (ds ++ [dAll Ls]) := by
  have h1 : St w0 Z M w A ds := h.drop A (List.sublist_append_left _ _)
  refine h1.data _ fun s hs => ?_
  have hmem : rowOf e s ∈ A ++ Ls.map (rowOf e) := List.mem_append_right _ (List.mem_map_of_mem hs)
  have hr : w.ownsRow 0 e 4 (.slice s.1 s.2.2.length s.2.1) s.2.2.length (encNs s.2.2) := h.hold _ hmem
  refine ⟨own_cap hr, hr.1, fun hn => ?_⟩
  obtain ⟨g, hg⟩ := own_some hr hn
  have hblk : (rowOf e s).blk = some g := by show s.1.map (·.block) = some g; rw [hg]; rfl
  have hown := h.own _ hmem g hblk
  refine ⟨_, hg, ⟨hown.1, fun hlt => ?_, fun r hr' e' => ?_⟩, fun j u hu => hr.cells (g := g) (by rw [hg]; rfl) j u hu⟩
  · have hlt' : g < w0.heap.size := hlt
    rcases hown.2 with q | q
    · omega
    · exact absurd q (hM g)
  · have hap := h.apart
    rw [List.pairwise_append] at hap
    exact hap.2.2 r hr' _ (List.mem_map_of_mem hs) g e' hblk
/-- A cut of data, at its own place. -/
theorem cut_row {α : Type} {f : α → List Value} {size k q cap : Nat} {A : Option Addr} {L : List α} {I : Nat → Prop} (h : (dRow size A L.length cap (L.flatMap f)).φ w I) (hf : ∀ x, (f x).length = size) (hkq : k + q ≤ L.length) :
    (dRow size (if cap = k then A else A.map (·.add (k * size))) ((L.drop k).take q).length (cap - k) (((L.drop k).take q).flatMap f)).φ w I := by
  have hq : ((L.drop k).take q).length = q := by rw [List.length_take, List.length_drop]; omega
  rw [hq, ← enc_take hf, ← enc_drop hf]
  have hc : L.length ≤ cap := h.1
  exact ⟨by omega, (h.2.from_ (k := k) (by omega) hc).take (k := q) (by omega)⟩
end
end Go.Proofs.YtobgdeffhdefeaaDoor
/- A row turned round in place. -/
namespace Go.Proofs.YtobgdeffhdefeaaDoor
set_option linter.unusedSimpArgs false
set_option linter.unusedVariables false
/-- So many places were exchanged on either side. -/
structure RevTo (t R : List Sl) (k : Nat) : Prop where
  len : R.length = t.length
  at_ : ∀ i, i < t.length → nthS R i = if i < k ∨ t.length - k ≤ i then nthS t (t.length - 1 - i) else nthS t i
theorem nthS_set {R : List Sl} {i j : Nat} {u : Sl} (hi : i < R.length) : nthS (R.set i u) j = if i = j then u else nthS R j := by
  unfold nthS
  rw [List.getD_eq_getElem?_getD, List.getElem?_set, List.getD_eq_getElem?_getD]
  split
  · simp [*]
  · rfl
theorem RevTo.zero (t : List Sl) : RevTo t t 0 := ⟨rfl, fun i hi => by rw [if_neg (by omega)]⟩
theorem RevTo.step {t R : List Sl} {k j : Nat} {u v : Sl} (h : RevTo t R k) (hk : 2 * k + 1 < t.length) (hj : j = t.length - 1 - k) (hu : u = nthS R j) (hv : v = nthS R k) : RevTo t ((R.set k u).set j v) (k + 1) := by
  subst hj
  obtain ⟨h1, h2⟩ := h
  refine ⟨by simp [h1], fun i hi => ?_⟩
  rw [nthS_set (by rw [List.length_set]; omega), nthS_set (by omega), hu, hv, h2 _ (by omega), h2 _ (by omega), h2 i hi]
  by_cases e1 : t.length - 1 - k = i
  · subst e1
    rw [if_pos rfl, if_neg (by omega), if_pos (by omega)]
    congr 1
    omega
  · rw [if_neg e1]
    by_cases e2 : k = i
    · subst e2
      rw [if_pos rfl, if_neg (by omega), if_pos (by omega)]
    · rw [if_neg e2]
      by_cases e3 : i < k ∨ t.length - k ≤ i
      · rw [if_pos e3, if_pos (by omega)]
      · rw [if_neg e3, if_neg (by omega)]
theorem RevTo.done {t R : List Sl} {k : Nat} (h : RevTo t R k) (hk : t.length ≤ 2 * k + 1) : R = t.reverse := by
  obtain ⟨h1, h2⟩ := h
  apply List.ext_getElem
  · simp [h1]
  · intro i hi hi'
    have h3 := h2 i (by omega)
    have h4 : nthS R i = R[i] := by simp [nthS, hi]
    have h5 : nthS t (t.length - 1 - i) = t[t.length - 1 - i] := by
      have : t.length - 1 - i < t.length := by omega
      simp [nthS, this]
    rw [List.getElem_reverse, ← h4, h3, ← h5]
    split
    · rfl
    · congr 1
      omega
theorem all_rev {w : World} {I : Nat → Prop} {t : List Sl} (h : (dAll t).φ w I) : (dAll t.reverse).φ w I := fun s hs => h s (List.mem_reverse.1 hs)
theorem lsts_rev {t : List Sl} : lsts t.reverse = (lsts t).reverse := by simp [lsts]
end Go.Proofs.YtobgdeffhdefeaaDoor
/- What cornicelaw11.shown asks. -/
namespace Go.Proofs.YtobgdeffhdefeaaDoor
set_option linter.unusedSimpArgs false
set_option linter.unusedVariables false
abbrev starN : Nd := ⟨17, 0, 0, ⟨#[]⟩⟩
abbrev prfN : Nd := ⟨28, 0, 0, ⟨#[]⟩⟩
theorem chk_sp : chk [starN, prfN] = 0 := by rfl
theorem prfL_sp : prfL [starN, prfN] = [(0, 1)] := by rfl
theorem rep_sp : repP [starN, prfN] (prfL [starN, prfN]) = [tick] := by rw [prfL_sp]; rfl
theorem sml_sp : sml [starN, prfN] := fun k hk => by
  have : k = 0 ∨ k = 1 := by simp at hk; omega
  rcases this with rfl | rfl <;> decide
end Go.Proofs.YtobgdeffhdefeaaDoor
/- What is erased, stripped, and the proofs: trees. -/
namespace Go.Proofs.YtobgdeffhdefeaaDoor
set_option linter.unusedSimpArgs false
set_option linter.unusedVariables false
mutual
/-- The proofs of a tree, the last one first, as places. -/
def prT (o : Nat) : T → List (Int × Int)
  | .mk n l => if n.K = 28 then [((o : Int), ((o + (T.flats l).length : Nat) : Int))] else prTs o l
def prTs (o : Nat) : List T → List (Int × Int)
  | [] => []
  | t :: l => prTs (o + t.flat.length) l ++ prT o t
end
mutual
/-- The tree, erased. -/
def erT : T → T
  | .mk n l => if n.K = 28 then .mk tick [] else .mk n (erTs l)
def erTs : List T → List T
  | [] => []
  | t :: l => erT t :: erTs l
end
mutual
/-- The proofs, in their order. -/
def prfT : T → List (List Nd)
  | .mk n l => if n.K = 28 then [T.flats l ++ [n]] else prfTs l
def prfTs : List T → List (List Nd)
  | [] => []
  | t :: l => prfT t ++ prfTs l
end
mutual
/-- The tree without marks. -/
def stT : T → T
  | .mk n l => if n.K = 28 then stH l else .mk n (stTs l)
def stH : List T → T
  | [] => .mk tick []
  | t :: _ => stT t
def stTs : List T → List T
  | [] => []
  | t :: l => stT t :: stTs l
end
theorem many_28 {n : Nd} (h : n.K = 28) : many n = 1 := by simp [many, binds, h, shp]
theorem wf_cons {t : T} {l : List T} (h : T.wfs (t :: l) = true) : t.wf = true ∧ T.wfs l = true := by simpa [T.wfs] using h
theorem wf_parts {n : Nd} {l : List T} (h : (T.mk n l).wf = true) : right n = true ∧ many n = l.length ∧ T.wfs l = true := by
  rw [T.wf_mk] at h
  simp only [Bool.and_eq_true, beq_iff_eq] at h
  exact ⟨h.1.1, h.1.2, h.2⟩
/-- The node that is met behind so many. -/
theorem nth_met {t u v : List Nd} {n : Nd} (h : t = u ++ [n] ++ v) : nth t (t.length - (v.length + 1)) = n ∧ t.length - (v.length + 1) = u.length := by
  subst h
  have : (u ++ [n] ++ v).length - (v.length + 1) = u.length := by simp
  rw [this]
  exact ⟨by simp [nth], rfl⟩
theorem prS_snoc (t : List Nd) (k : Nat) : prS t (k + 1) = prStep t k (prS t k) := rfl
mutual
/-- Within a proof: a tree is passed, and the proof is over where no more is needed. -/
theorem prS_inT (t : List Nd) (L : List (Int × Int)) (r : Int) (hr : 0 ≤ r) : ∀ (x : T) (u v : List Nd) (n : Int), x.wf = true → t = u ++ x.flat ++ v → prS t v.length = (L, r, n) → 1 ≤ n →
    prS t (v.length + x.flat.length) = if 1 < n then (L, r, n - 1) else (L ++ [((u.length : Int), r)], -1, 0)
  | .mk m l, u, v, n, hw, ht, hs, hn => by
    obtain ⟨h1, h2, h3⟩ := wf_parts hw
    have ht' : t = (u ++ T.flats l) ++ [m] ++ v := by rw [ht, T.flat_mk]; simp
    obtain ⟨hm, hp⟩ := nth_met ht'
    have hst : prS t (v.length + 1) = prStep t v.length (L, r, n) := by rw [prS_snoc, hs]
    have hb : ((bindsR m).length : Int) = l.length := by rw [bindsR_eq h1, ← h2]; rfl
    unfold prStep at hst
    simp only [show ¬ r < 0 by omega, false_and, if_false, hm, hb] at hst
    rw [T.flat_mk, List.length_append, List.length_singleton, show v.length + ((T.flats l).length + 1) = ([m] ++ v).length + (T.flats l).length by simp; omega]
    cases l with
    | nil =>
      rw [hp] at hst
      simp only [T.flats_nil, List.length_nil, Nat.add_zero, List.length_append, List.length_singleton] at hst ⊢
      rw [show 1 + v.length = v.length + 1 by omega, hst]
      by_cases h : 1 < n
      · rw [if_pos (by omega), if_pos h]
        simp
      · rw [if_neg (by omega), if_neg h]
        simp
        omega
    | cons y l =>
      simp only [List.length_cons] at hst
      rw [if_pos (by omega)] at hst
      have hv : ([m] ++ v).length = v.length + 1 := by simp
      have := prS_inTs t L r hr (y :: l) u ([m] ++ v) (n + ((y :: l).length : Int) - 1) h3 (by rw [ht']; simp) (by rw [hv, hst]; simp) (by simp; omega) (by simp)
      rw [this]
      by_cases h : 1 < n
      · rw [if_pos (by simp; omega), if_pos h]
        congr 2
        simp
        omega
      · rw [if_neg (by simp; omega), if_neg h]
theorem prS_inTs (t : List Nd) (L : List (Int × Int)) (r : Int) (hr : 0 ≤ r) : ∀ (l : List T) (u v : List Nd) (n : Int), T.wfs l = true → t = u ++ T.flats l ++ v → prS t v.length = (L, r, n) → (l.length : Int) ≤ n → l ≠ [] →
    prS t (v.length + (T.flats l).length) = if (l.length : Int) < n then (L, r, n - l.length) else (L ++ [((u.length : Int), r)], -1, 0)
  | [], _, _, _, _, _, _, _, h => absurd rfl h
  | [y], u, v, n, hw, ht, hs, hn, _ => by
    have := prS_inT t L r hr y u v n (wf_cons hw).1 (by rw [ht, T.flats_one]) hs (by simpa using hn)
    rw [T.flats_one]
    simpa using this
  | y :: z :: l, u, v, n, hw, ht, hs, hn, _ => by
    obtain ⟨h1, h2⟩ := wf_cons hw
    have ih := prS_inTs t L r hr (z :: l) (u ++ y.flat) v n h2 (by rw [ht, T.flats_cons]; simp) hs (by simp at hn ⊢; omega) (by simp)
    rw [if_pos (by simp at hn ⊢; omega)] at ih
    have := prS_inT t L r hr y u (T.flats (z :: l) ++ v) (n - ((z :: l).length : Int)) h1 (by rw [ht, T.flats_cons]; simp) (by rw [List.length_append, Nat.add_comm, ih]) (by simp at hn ⊢; omega)
    rw [T.flats_cons, List.length_append, show v.length + (y.flat.length + (T.flats (z :: l)).length) = (T.flats (z :: l) ++ v).length + y.flat.length by simp; omega, this]
    simp only [List.length_cons] at hn ⊢
    by_cases h : ((l.length + 1 + 1 : Nat) : Int) < n
    · rw [if_pos h, if_pos (by omega)]
      congr 2
      omega
    · rw [if_neg h, if_neg (by omega)]
end
mutual
/-- Beside proofs: the proofs of a tree are found, the last one first. -/
theorem prS_T (t : List Nd) : ∀ (x : T) (u v : List Nd), x.wf = true → t = u ++ x.flat ++ v → (prS t v.length).2.1 < 0 →
    (prS t (v.length + x.flat.length)).1 = (prS t v.length).1 ++ prT u.length x ∧ (prS t (v.length + x.flat.length)).2.1 < 0
  | .mk m l, u, v, hw, ht, hs => by
    obtain ⟨h1, h2, h3⟩ := wf_parts hw
    have ht' : t = (u ++ T.flats l) ++ [m] ++ v := by rw [ht, T.flat_mk]; simp
    obtain ⟨hm, hp⟩ := nth_met ht'
    have hb : ((bindsR m).length : Int) = l.length := by rw [bindsR_eq h1, ← h2]; rfl
    have hv : ([m] ++ v).length = v.length + 1 := by simp
    rw [T.flat_mk, List.length_append, List.length_singleton, show v.length + ((T.flats l).length + 1) = ([m] ++ v).length + (T.flats l).length by rw [hv]; omega]
    by_cases hk : m.K = 28
    · have hl := h2
      rw [many_28 hk] at hl
      match l, hl with
      | [y], _ =>
        have hst : prS t (v.length + 1) = ((prS t v.length).1, ((u.length + (T.flats [y]).length : Nat) : Int), 1) := by
          rw [prS_snoc]
          unfold prStep
          rw [hm]
          simp only [hs, true_and, if_true, hk, hb, hp]
          simp
        have := prS_inTs t (prS t v.length).1 ((u.length + (T.flats [y]).length : Nat) : Int) (by omega) [y] u ([m] ++ v) 1 h3 (by rw [ht']; simp) (by rw [hv]; exact hst) (by simp) (by simp)
        rw [this]
        simp [prT, hk]
    · have hst : prS t (v.length + 1) = prS t v.length := by
        rw [prS_snoc]
        unfold prStep
        rw [hm, if_pos ⟨hs, hk⟩]
      have := prS_Ts t l u ([m] ++ v) h3 (by rw [ht']; simp) (by rw [hv, hst]; exact hs)
      rw [hv, hst] at this
      rw [hv]
      simpa [prT, hk] using this
theorem prS_Ts (t : List Nd) : ∀ (l : List T) (u v : List Nd), T.wfs l = true → t = u ++ T.flats l ++ v → (prS t v.length).2.1 < 0 →
    (prS t (v.length + (T.flats l).length)).1 = (prS t v.length).1 ++ prTs u.length l ∧ (prS t (v.length + (T.flats l).length)).2.1 < 0
  | [], u, v, _, _, hs => by simp [T.flats_nil, prTs, hs]
  | y :: l, u, v, hw, ht, hs => by
    obtain ⟨h1, h2⟩ := wf_cons hw
    have ih := prS_Ts t l (u ++ y.flat) v h2 (by rw [ht, T.flats_cons]; simp) hs
    have := prS_T t y u (T.flats l ++ v) h1 (by rw [ht, T.flats_cons]; simp) (by rw [List.length_append, Nat.add_comm]; exact ih.2)
    rw [T.flats_cons, List.length_append, show v.length + (y.flat.length + (T.flats l).length) = (T.flats l ++ v).length + y.flat.length by simp; omega]
    refine ⟨?_, this.2⟩
    rw [this.1, List.length_append, Nat.add_comm (T.flats l).length, ih.1]
    simp [prTs]
end
theorem prfL_tree {x : T} (h : x.wf = true) : prfL x.flat = prT 0 x := by
  have := (prS_T x.flat x [] [] h (by simp) (by simp [prS])).1
  simpa [prfL, prS] using this
mutual
theorem repP_T : ∀ (x : T) (u v : List Nd), (prT u.length x).foldl repF (u ++ x.flat ++ v) = u ++ (erT x).flat ++ v
  | .mk m l, u, v => by
    by_cases hk : m.K = 28
    · simp only [prT, erT, hk, if_true, List.foldl_cons, List.foldl_nil, repF, T.flat_mk, Int.toNat_natCast, T.flats_nil, List.nil_append]
      have e1 : u.length + (T.flats l).length + 1 = (u ++ (T.flats l ++ [m])).length := by simp; omega
      rw [e1, List.drop_left' rfl, List.append_assoc u, List.take_left' rfl]
    · simp only [prT, erT, hk, if_false, T.flat_mk]
      have := repP_Ts l u ([m] ++ v)
      simpa using this
theorem repP_Ts : ∀ (l : List T) (u v : List Nd), (prTs u.length l).foldl repF (u ++ T.flats l ++ v) = u ++ T.flats (erTs l) ++ v
  | [], u, v => by simp [prTs, erTs, T.flats_nil]
  | y :: l, u, v => by
    simp only [prTs, erTs, T.flats_cons, List.foldl_append]
    have h1 := repP_Ts l (u ++ y.flat) v
    have h2 := repP_T y u (T.flats (erTs l) ++ v)
    rw [List.length_append] at h1
    rw [show u ++ (y.flat ++ T.flats l) ++ v = u ++ y.flat ++ T.flats l ++ v by simp, h1, show u ++ y.flat ++ T.flats (erTs l) ++ v = u ++ y.flat ++ (T.flats (erTs l) ++ v) by simp, h2]
    simp
end
theorem erase_tree {x : T} (h : x.wf = true) : repP x.flat (prfL x.flat) = (erT x).flat := by
  rw [prfL_tree h]
  have := repP_T x [] []
  simpa [repP] using this
mutual
theorem prfs_T (t : List Nd) : ∀ (x : T) (u v : List Nd), t = u ++ x.flat ++ v → (prfsOf t (prT u.length x)) = (prfT x).reverse
  | .mk m l, u, v, ht => by
    by_cases hk : m.K = 28
    · simp only [prT, prfT, hk, if_true, prfsOf, List.map_cons, List.map_nil, Int.toNat_natCast, List.reverse_singleton]
      rw [ht, T.flat_mk, List.append_assoc, List.drop_left' rfl, show u.length + (T.flats l).length + 1 - u.length = (T.flats l ++ [m]).length by simp; omega, List.take_left' rfl]
    · simp only [prT, prfT, hk, if_false]
      exact prfs_Ts t l u ([m] ++ v) (by rw [ht, T.flat_mk]; simp)
theorem prfs_Ts (t : List Nd) : ∀ (l : List T) (u v : List Nd), t = u ++ T.flats l ++ v → (prfsOf t (prTs u.length l)) = (prfTs l).reverse
  | [], u, v, _ => by simp [prTs, prfTs, prfsOf]
  | y :: l, u, v, ht => by
    have h1 := prfs_Ts t l (u ++ y.flat) v (by rw [ht, T.flats_cons]; simp)
    have h2 := prfs_T t y u (T.flats l ++ v) (by rw [ht, T.flats_cons]; simp)
    rw [List.length_append] at h1
    simp only [prTs, prfTs, List.reverse_append]
    rw [← h1, ← h2]
    simp [prfsOf]
end
theorem proofs_tree {x : T} (h : x.wf = true) : (prfsOf x.flat (prfL x.flat)).reverse = prfT x := by
  rw [prfL_tree h]
  have := prfs_T x.flat x [] [] (by simp)
  simp only [List.length_nil] at this
  rw [this, List.reverse_reverse]
theorem right_tick : right tick = true := by decide
mutual
theorem erT_ok : ∀ x : T, x.wf = true → (erT x).wf = true ∧ (erT x).deep ≤ x.deep ∧ (erT x).flat.length ≤ x.flat.length
  | .mk m l, hw => by
    obtain ⟨h1, h2, h3⟩ := wf_parts hw
    by_cases hk : m.K = 28
    · simp only [erT, hk, if_true, T.wf_mk, T.wfs, T.deep, T.deeps, T.flat_mk, T.flats_nil, List.length_append, List.length_nil, List.length_singleton, Bool.and_true]
      refine ⟨by decide, by omega, by omega⟩
    · obtain ⟨i1, i2, i3, i4⟩ := erTs_ok l h3
      simp only [erT, hk, if_false, T.wf_mk, T.deep, T.flat_mk, List.length_append, List.length_singleton, Bool.and_eq_true, beq_iff_eq]
      exact ⟨⟨⟨h1, by omega⟩, i1⟩, by omega, by omega⟩
theorem erTs_ok : ∀ l : List T, T.wfs l = true → T.wfs (erTs l) = true ∧ T.deeps (erTs l) ≤ T.deeps l ∧ (T.flats (erTs l)).length ≤ (T.flats l).length ∧ (erTs l).length = l.length
  | [], _ => by simp [erTs, T.wfs]
  | y :: l, hw => by
    obtain ⟨h1, h2⟩ := wf_cons hw
    obtain ⟨a1, a2, a3⟩ := erT_ok y h1
    obtain ⟨b1, b2, b3, b4⟩ := erTs_ok l h2
    simp only [erTs, T.wfs, T.deeps, T.flats_cons, List.length_append, List.length_cons, a1, b1, Bool.and_self, true_and]
    refine ⟨by omega, by omega, by omega⟩
end
mutual
theorem stT_ok : ∀ x : T, x.wf = true → (stT x).wf = true ∧ (stT x).deep ≤ x.deep ∧ (stT x).flat = x.flat.filter nPrf
  | .mk m l, hw => by
    obtain ⟨h1, h2, h3⟩ := wf_parts hw
    by_cases hk : m.K = 28
    · have hl := h2
      rw [many_28 hk] at hl
      match l, hl with
      | [y], _ =>
        obtain ⟨a1, a2, a3⟩ := stT_ok y (wf_cons h3).1
        simp only [stT, stH, hk, if_true, T.deep, T.deeps, T.flat_mk, T.flats_one, List.filter_append]
        refine ⟨a1, by omega, ?_⟩
        rw [a3]
        simp [nPrf, isPrf, hk]
    · obtain ⟨i1, i2, i3, i4⟩ := stTs_ok l h3
      simp only [stT, hk, if_false, T.wf_mk, T.deep, T.flat_mk, Bool.and_eq_true, beq_iff_eq, List.filter_append]
      refine ⟨⟨⟨h1, by omega⟩, i1⟩, by omega, ?_⟩
      rw [i3]
      simp [nPrf, isPrf, hk]
theorem stTs_ok : ∀ l : List T, T.wfs l = true → T.wfs (stTs l) = true ∧ T.deeps (stTs l) ≤ T.deeps l ∧ T.flats (stTs l) = (T.flats l).filter nPrf ∧ (stTs l).length = l.length
  | [], _ => by simp [stTs, T.wfs, T.flats_nil]
  | y :: l, hw => by
    obtain ⟨h1, h2⟩ := wf_cons hw
    obtain ⟨a1, a2, a3⟩ := stT_ok y h1
    obtain ⟨b1, b2, b3, b4⟩ := stTs_ok l h2
    simp only [stTs, T.wfs, T.deeps, T.flats_cons, List.length_cons, a1, b1, Bool.and_self, true_and, List.filter_append, a3, b3, b4, and_true]
    omega
end
mutual
theorem erT_no : ∀ x : T, ∀ n ∈ (erT x).flat, n.K ≠ 28
  | .mk m l => by
    by_cases hk : m.K = 28
    · simp [erT, hk, T.flat_mk, T.flats_nil]
    · simp only [erT, hk, if_false, T.flat_mk, List.mem_append, List.mem_singleton]
      rintro n (h | rfl)
      · exact erTs_no l n h
      · exact hk
theorem erTs_no : ∀ l : List T, ∀ n ∈ T.flats (erTs l), n.K ≠ 28
  | [] => by simp [erTs, T.flats_nil]
  | y :: l => by
    simp only [erTs, T.flats_cons, List.mem_append]
    rintro n (h | h)
    · exact erT_no y n h
    · exact erTs_no l n h
end
mutual
theorem erT_in : ∀ x : T, ∀ n ∈ (erT x).flat, n = tick ∨ n ∈ x.flat
  | .mk m l => by
    by_cases hk : m.K = 28
    · simp [erT, hk, T.flat_mk, T.flats_nil]
    · simp only [erT, hk, if_false, T.flat_mk, List.mem_append, List.mem_singleton]
      rintro n (h | rfl)
      · rcases erTs_in l n h with h | h
        · exact .inl h
        · exact .inr (.inl h)
      · exact .inr (.inr rfl)
theorem erTs_in : ∀ l : List T, ∀ n ∈ T.flats (erTs l), n = tick ∨ n ∈ T.flats l
  | [] => by simp [erTs, T.flats_nil]
  | y :: l => by
    simp only [erTs, T.flats_cons, List.mem_append]
    rintro n (h | h)
    · rcases erT_in y n h with h | h
      · exact .inl h
      · exact .inr (.inl h)
    · rcases erTs_in l n h with h | h
      · exact .inl h
      · exact .inr (.inr h)
end
mutual
theorem prT_none : ∀ (x : T) (o : Nat), (∀ n ∈ x.flat, n.K ≠ 28) → prT o x = []
  | .mk m l, o, h => by
    have hk : m.K ≠ 28 := h m (by simp [T.flat_mk])
    simp only [prT, hk, if_false]
    exact prTs_none l o (fun n hn => h n (by simp [T.flat_mk, hn]))
theorem prTs_none : ∀ (l : List T) (o : Nat), (∀ n ∈ T.flats l, n.K ≠ 28) → prTs o l = []
  | [], _, _ => by simp [prTs]
  | y :: l, o, h => by
    simp only [prTs]
    rw [prTs_none l _ (fun n hn => h n (by simp [T.flats_cons, hn])), prT_none y o (fun n hn => h n (by simp [T.flats_cons, hn]))]
    rfl
end
def lenM (l : List (List Nd)) : Nat := (l.map fun p => p.length - 1).sum
def ticks (t : List Nd) : Nat := t.countP fun n => decide (n.K = 29)
theorem ticks_append (a b : List Nd) : ticks (a ++ b) = ticks a + ticks b := by simp [ticks]
theorem lenM_append (a b : List (List Nd)) : lenM (a ++ b) = lenM a + lenM b := by simp [lenM]
mutual
theorem erT_len : ∀ x : T, (erT x).flat.length + lenM (prfT x) = x.flat.length ∧ (prfT x).length ≤ ticks (erT x).flat ∧ ∀ p ∈ prfT x, p ≠ [] ∧ (nth p (p.length - 1)).K = 28
  | .mk m l => by
    by_cases hk : m.K = 28
    · simp [erT, prfT, hk, T.flat_mk, T.flats_nil, lenM, ticks, nth]
      omega
    · obtain ⟨i1, i2, i3⟩ := erTs_len l
      simp only [erT, prfT, hk, if_false, T.flat_mk, List.length_append, List.length_singleton, ticks_append]
      exact ⟨by omega, by omega, i3⟩
theorem erTs_len : ∀ l : List T, (T.flats (erTs l)).length + lenM (prfTs l) = (T.flats l).length ∧ (prfTs l).length ≤ ticks (T.flats (erTs l)) ∧ ∀ p ∈ prfTs l, p ≠ [] ∧ (nth p (p.length - 1)).K = 28
  | [] => by simp [erTs, prfTs, T.flats_nil, lenM]
  | y :: l => by
    obtain ⟨a1, a2, a3⟩ := erT_len y
    obtain ⟨b1, b2, b3⟩ := erTs_len l
    simp only [erTs, prfTs, T.flats_cons, List.length_append, ticks_append, lenM_append]
    refine ⟨by omega, by omega, fun p hp => ?_⟩
    rcases List.mem_append.1 hp with h | h
    · exact a3 p h
    · exact b3 p h
end
end Go.Proofs.YtobgdeffhdefeaaDoor
/- Where terms begin, and the parts of one: plain lists. -/
namespace Go.Proofs.YtobgdeffhdefeaaDoor
set_option linter.unusedSimpArgs false
set_option linter.unusedVariables false
/-- Where the term begins that ends at a place. -/
def frL (t : List Nd) (e : Nat) : Nat := match scanT [] (t.take (e + 1)) with
  | some st => (T.flats st.dropLast).length
  | none => 0
/-- Where the last so many terms ahead of a place begin. -/
def posL (t : List Nd) (e j : Nat) : Nat := match scanT [] (t.take e) with
  | some st => (T.flats (st.take (st.length - j))).length
  | none => 0
theorem scan_take {t : List Nd} {st : List T} (h : scanT [] t = some st) (k : Nat) : ∃ s, scanT [] (t.take k) = some s := by
  have h1 := h
  rw [← List.take_append_drop k t, scanT_append] at h1
  cases hs : scanT [] (t.take k) with
  | none => rw [hs] at h1; cases h1
  | some s => exact ⟨s, rfl⟩
theorem meas_scan {t : List Nd} (h : measB t = true) (k : Nat) : ∃ s, scanT [] (t.take k) = some s := by
  obtain ⟨x, hs, _⟩ := measB_tree h
  exact scan_take hs k
theorem treeOf_meas {t : List Nd} (h : measB t = true) : (treeOf t).wf = true ∧ (treeOf t).flat = t := by
  obtain ⟨x, _, _, hw, hf⟩ := measB_tree h
  rw [← hf, treeOf_flat hw]
  exact ⟨hw, rfl⟩
theorem meas_flat {x : T} (h : x.wf = true) : measB x.flat = true := by
  unfold measB
  rw [scanT_tree [] x h]
  rfl
theorem meas_chk {t : List Nd} (h : chk t = 0) : measB t = true := by
  obtain ⟨x, hw, rfl, _⟩ := chk_ok.1 h
  exact meas_flat hw
theorem meas_pos {t : List Nd} (h : measB t = true) : 0 < t.length := by
  obtain ⟨x, _, _, _, rfl⟩ := measB_tree h
  exact T.flat_pos x
theorem scan_prefix {st : List T} (hw : T.wfs st = true) (m : Nat) : scanT [] (T.flats (st.take m)) = some (st.take m) := by
  have h2 : T.wfs (st.take m) = true := (T.wfs_iff _).2 fun x hx => (T.wfs_iff _).1 hw x (List.mem_of_mem_take hx)
  simpa using scanT_trees [] _ h2
theorem flats_take_pre (st : List T) (m : Nat) : T.flats st = T.flats (st.take m) ++ T.flats (st.drop m) := by rw [← T.flats_append, List.take_append_drop]
theorem posL_zero {t : List Nd} {e : Nat} (h : measB t = true) (he : e ≤ t.length) : posL t e 0 = e := by
  obtain ⟨st, hs⟩ := meas_scan h e
  unfold posL
  rw [hs]
  simp only [Nat.sub_zero, List.take_length]
  rw [(scanT_flat hs (by simp [T.wfs])).1]
  simp [T.flats_nil, he]
theorem meas_at {t : List Nd} {e : Nat} {st : List T} (h : measB t = true) (he : e < t.length) (hs : scanT [] (t.take e) = some st) : right (nth t e) = true ∧ many (nth t e) ≤ st.length :=
  measB_at h hs he
theorem right_at {t : List Nd} {e : Nat} (h : measB t = true) (he : e < t.length) : right (nth t e) = true := by
  obtain ⟨st, hs⟩ := meas_scan h e
  exact (meas_at h he hs).1
theorem posL_step {t : List Nd} {e j : Nat} (h : measB t = true) (he : e < t.length) (hj : j < many (nth t e)) : 0 < posL t e j ∧ posL t e j ≤ e ∧ frL t (posL t e j - 1) = posL t e (j + 1) ∧ posL t e (j + 1) < posL t e j := by
  obtain ⟨st, hs⟩ := meas_scan h e
  obtain ⟨_, hm⟩ := meas_at h he hs
  obtain ⟨hf, hw⟩ := scanT_flat hs (by simp [T.wfs])
  simp only [T.flats_nil, List.nil_append] at hf
  have hp : ∀ i, posL t e i = (T.flats (st.take (st.length - i))).length := fun i => by unfold posL; rw [hs]
  have hle : ∀ i, (T.flats (st.take i)).length ≤ e := fun i => by
    have h1 := congrArg List.length (flats_take_pre st i)
    rw [hf, List.length_take, List.length_append] at h1
    omega
  have hsnoc : st.take (st.length - j) = st.take (st.length - (j + 1)) ++ [st[st.length - (j + 1)]'(by omega)] := by
    rw [show st.length - j = st.length - (j + 1) + 1 by omega, List.take_add_one, List.getElem?_eq_getElem (by omega)]
    rfl
  have hlen : posL t e j = posL t e (j + 1) + (st[st.length - (j + 1)]'(by omega)).flat.length := by
    rw [hp, hp, hsnoc, T.flats_append, T.flats_one, List.length_append]
  have hpos := T.flat_pos (st[st.length - (j + 1)]'(by omega))
  refine ⟨by omega, by rw [hp]; exact hle _, ?_, by omega⟩
  unfold frL
  have htk : t.take (posL t e j - 1 + 1) = T.flats (st.take (st.length - j)) := by
    rw [show posL t e j - 1 + 1 = posL t e j by omega, hp]
    have h2 := flats_take_pre st (st.length - j)
    rw [hf] at h2
    have h3 := congrArg (List.take (T.flats (st.take (st.length - j))).length) h2
    rw [List.take_take, List.take_left' rfl, Nat.min_eq_left (hle _)] at h3
    exact h3
  rw [htk, scan_prefix hw, hsnoc]
  simp only [List.dropLast_concat]
  rw [hp]
theorem posL_end {t : List Nd} {e : Nat} (h : measB t = true) (he : e < t.length) : posL t e (many (nth t e)) = frL t e := by
  obtain ⟨st, hs⟩ := meas_scan h e
  obtain ⟨hr, hm⟩ := meas_at h he hs
  have h1 := scan_step hs he
  unfold posL frL
  rw [hs, h1]
  unfold pushT
  rw [if_pos (by simp [hr, hm])]
  simp
/-- The parts of a term. -/
def ptL (t : List Nd) : List (List Nd) := (treeOf t).args.map T.flat
theorem tree_parts {t : List Nd} (h : measB t = true) : ∃ n l, treeOf t = .mk n l ∧ right n = true ∧ many n = l.length ∧ T.wfs l = true ∧ t = T.flats l ++ [n] ∧ nth t (t.length - 1) = n ∧ (T.flats l).length = t.length - 1 ∧ scanT [] (t.take (t.length - 1)) = some l := by
  obtain ⟨hw, hf⟩ := treeOf_meas h
  rcases hx : treeOf t with ⟨n, l⟩
  rw [hx] at hw hf
  obtain ⟨h1, h2, h3⟩ := wf_parts hw
  rw [T.flat_mk] at hf
  have hl : (T.flats l).length = t.length - 1 := by rw [← hf]; simp
  refine ⟨n, l, rfl, h1, h2, h3, hf.symm, ?_, hl, ?_⟩
  · rw [← hl, ← hf]
    simp [nth]
  · rw [← hl, ← hf, List.take_left' rfl]
    simpa using scanT_trees [] l h3
theorem posL_root {t : List Nd} (h : measB t = true) (j : Nat) : posL t (t.length - 1) j = (T.flats ((treeOf t).args.take ((treeOf t).args.length - j))).length := by
  obtain ⟨n, l, hx, _, _, _, _, _, _, hs⟩ := tree_parts h
  unfold posL
  rw [hs, hx]
  rfl
theorem root_many {t : List Nd} (h : measB t = true) : many (nth t (t.length - 1)) = (treeOf t).args.length := by
  obtain ⟨n, l, hx, _, h2, _, _, h4, _, _⟩ := tree_parts h
  rw [h4, h2, hx]
  rfl
/-- The last so many parts. -/
def ptD (t : List Nd) (j : Nat) : List (List Nd) := ((treeOf t).args.drop ((treeOf t).args.length - j)).map T.flat
theorem ptD_zero (t : List Nd) : ptD t 0 = [] := by simp [ptD]
theorem ptD_length {t : List Nd} {j : Nat} (h : measB t = true) (hj : j ≤ many (nth t (t.length - 1))) : (ptD t j).length = j := by
  rw [root_many h] at hj
  simp [ptD]
  omega
theorem ptD_all {t : List Nd} (h : measB t = true) : ptD t (many (nth t (t.length - 1))) = ptL t := by
  rw [root_many h]
  simp [ptD, ptL]
theorem ptD_step {t : List Nd} {j a b : Nat} (h : measB t = true) (hj : j < many (nth t (t.length - 1))) (ha : a = posL t (t.length - 1) (j + 1)) (hb : b = posL t (t.length - 1) j) : (t.drop a).take (b - a) :: ptD t j = ptD t (j + 1) := by
  have hm := root_many h
  obtain ⟨n, l, hx, _, h2, _, h4, _, _, _⟩ := tree_parts h
  rw [posL_root h] at ha hb
  rw [hm, hx] at hj
  unfold ptD
  rw [hx] at ha hb ⊢
  simp only [T.args] at ha hb hj ⊢
  have h1 : l.length - (j + 1) < l.length := by omega
  have hd : l.drop (l.length - (j + 1)) = l[l.length - (j + 1)] :: l.drop (l.length - j) := by
    rw [List.drop_eq_getElem_cons h1, show l.length - (j + 1) + 1 = l.length - j by omega]
  have hsnoc : l.take (l.length - j) = l.take (l.length - (j + 1)) ++ [l[l.length - (j + 1)]] := by
    rw [show l.length - j = l.length - (j + 1) + 1 by omega, List.take_add_one, List.getElem?_eq_getElem h1]
    rfl
  have hall : T.flats l = T.flats (l.take (l.length - (j + 1))) ++ (l[l.length - (j + 1)].flat ++ T.flats (l.drop (l.length - j))) := by
    rw [flats_take_pre l (l.length - (j + 1)), hd, T.flats_cons]
  rw [hd, List.map_cons]
  congr 1
  have hb' : b - a = l[l.length - (j + 1)].flat.length := by
    rw [ha, hb, hsnoc, T.flats_append, T.flats_one, List.length_append]
    omega
  rw [hb', ha, h4, hall, List.append_assoc, List.drop_left' rfl, List.append_assoc, List.take_left' rfl]
/-- A part is one tree less. -/
theorem ptL_mem {t p : List Nd} (h : measB t = true) (hp : p ∈ ptL t) : measB p = true ∧ p.length < t.length ∧ (∀ n ∈ p, n ∈ t) := by
  obtain ⟨n, l, hx, _, h2, h3, h4, _, h6, _⟩ := tree_parts h
  unfold ptL at hp
  rw [hx] at hp
  obtain ⟨y, hy, rfl⟩ := List.mem_map.1 hp
  simp only [T.args] at hy
  have hw := (T.wfs_iff l).1 h3 y hy
  obtain ⟨a, b, rfl⟩ := List.append_of_mem hy
  refine ⟨meas_flat hw, ?_, fun m hm => ?_⟩
  · have := meas_pos h
    rw [T.flats_append, T.flats_cons] at h6
    simp only [List.length_append] at h6
    omega
  · rw [h4, T.flats_append, T.flats_cons]
    simp [hm]
theorem ptL_length {t : List Nd} (h : measB t = true) : (ptL t).length = many (nth t (t.length - 1)) := by rw [root_many h]; simp [ptL]
theorem ptL_at {t : List Nd} {k : Nat} (h : measB t = true) (hk : k < (ptL t).length) : ∃ p ∈ ptL t, (ptL t)[k]? = some p := ⟨_, List.getElem_mem hk, List.getElem?_eq_getElem hk⟩
theorem sml_sub {t p : List Nd} (h : sml t) (hp : ∀ n ∈ p, n ∈ t) : sml p := fun k hk => by
  have h1 := hp _ (nth_mem hk)
  obtain ⟨i, hi, he⟩ := List.getElem_of_mem h1
  have h2 := h i hi
  have : nth t i = t[i] := by simp [nth, hi]
  rw [this, he] at h2
  exact h2
end Go.Proofs.YtobgdeffhdefeaaDoor
/- The document's own words of terms: parts, what is made of them; plain lists. -/
namespace Go.Proofs.YtobgdeffhdefeaaDoor
set_option linter.unusedSimpArgs false
set_option linter.unusedVariables false
section
variable {w0 w : World} {Z M : Nat → Prop} {m : List Res} {ds ds' : List Dat}
theorem St.sub (h : St w0 Z M w m ds) (hd : ∀ d ∈ ds', d ∈ ds) : St w0 Z M w m ds' := ⟨h.os, h.tape, h.output, h.size, h.old, h.hold, h.own, h.apart, fun d hx => h.dat d (hd d hx)⟩
theorem sub_nil : ∀ d ∈ ([] : List Dat), d ∈ ds := fun _ h => by cases h
theorem sub_cons {d : Dat} {l : List Dat} {i : Nat} (h : ds[i]? = some d) (hl : ∀ x ∈ l, x ∈ ds) : ∀ x ∈ d :: l, x ∈ ds := fun x hx => by
  rcases List.mem_cons.1 hx with rfl | hx
  · exact List.mem_of_getElem? h
  · exact hl x hx
end
def nthL (l : List (List Nd)) (k : Nat) : List Nd := l.getD k []
theorem lsts_app (a b : List Sl) : lsts (a ++ b) = lsts a ++ lsts b := by simp [lsts]
theorem lsts_one {A : Option Addr} {c : Nat} {L : List Nd} : lsts [((A, c, L) : Sl)] = [L] := rfl
theorem lsts_len (a : List Sl) : (lsts a).length = a.length := by simp [lsts]
theorem lsts_nth (a : List Sl) (k : Nat) : (nthS a k).2.2 = nthL (lsts a) k := by
  unfold nthS nthL lsts
  rw [List.getD_eq_getElem?_getD, List.getD_eq_getElem?_getD, List.getElem?_map]
  cases a[k]? <;> rfl
theorem nthL_mem {l : List (List Nd)} {k : Nat} (h : k < l.length) : nthL l k ∈ l := by
  have : nthL l k = l[k] := by simp [nthL, h]
  rw [this]
  exact List.getElem_mem h
theorem take_nthL {l : List (List Nd)} {k : Nat} (h : k < l.length) : l.take (k + 1) = l.take k ++ [nthL l k] := by
  rw [List.take_add_one, List.getElem?_eq_getElem h]
  simp [nthL, h]
/-- A part of a term, by its number. -/
theorem part_at {t : List Nd} {Ls : List Sl} {k : Nat} (h : measB t = true) (hs : sml t) (hL : lsts Ls = ptL t) (hk : k < Ls.length) :
    (nthS Ls k).2.2 = nthL (ptL t) k ∧ k < (ptL t).length ∧ measB (nthS Ls k).2.2 = true ∧ (nthS Ls k).2.2.length < t.length ∧ sml (nthS Ls k).2.2 ∧ 0 < (nthS Ls k).2.2.length := by
  have e := lsts_nth Ls k
  rw [hL] at e
  have hk' : k < (ptL t).length := by rw [← hL, lsts_len]; exact hk
  obtain ⟨h1, h2, h3⟩ := ptL_mem h (nthL_mem hk')
  rw [e]
  exact ⟨rfl, hk', h1, h2, sml_sub hs h3, meas_pos h1⟩
theorem parts_step {t : List Nd} {Ls : List Sl} {A : Option Addr} {c k a b : Nat} (hb : measB t = true) (hL : lsts Ls = ptD t k) (hk : k < many (nth t (t.length - 1))) (ha : a = posL t (t.length - 1) (k + 1)) (hbb : b = posL t (t.length - 1) k) :
    lsts ([((A, c, (t.drop a).take (b - a)) : Sl)] ++ Ls) = ptD t (k + 1) := by
  rw [lsts_app, lsts_one, hL, ← ptD_step hb hk ha hbb]
  rfl
/-- What is made of a root and parts. -/
theorem flats_flatten (l : List T) : (l.map T.flat).flatten = T.flats l := by
  induction l with
  | nil => simp [T.flats_nil]
  | cons t l ih => simp [T.flats_cons, ih]
theorem flatten_le {l : List (List Nd)} {b : Nat} (h : ∀ p ∈ l, p.length ≤ b) : l.flatten.length ≤ l.length * b := by
  induction l with
  | nil => simp
  | cons p l ih =>
    have h1 := h p (by simp)
    have h2 := ih (fun q hq => h q (by simp [hq]))
    simp only [List.flatten_cons, List.length_append, List.length_cons, Nat.add_mul]
    omega
theorem lsts_bd {Ls : List Sl} {L : List (List Nd)} {b : Nat} (h : lsts Ls = L) (hb : ∀ p ∈ L, p.length ≤ b) : ∀ s ∈ Ls, s.2.2.length ≤ b := fun s hs => hb _ (by rw [← h]; exact List.mem_map_of_mem hs)
/-! ### What is erased -/
def erL (t : List Nd) : List Nd := (erT (treeOf t)).flat
def prL (t : List Nd) : List (List Nd) := prfT (treeOf t)
theorem erTs_map (l : List T) : erTs l = l.map erT := by
  induction l with
  | nil => rfl
  | cons t l ih => simp [erTs, ih]
theorem prfTs_map (l : List T) : prfTs l = (l.map prfT).flatten := by
  induction l with
  | nil => rfl
  | cons t l ih => simp [prfTs, ih]
theorem map_tree {β : Type} {l : List T} (h : T.wfs l = true) (f : T → β) : (l.map T.flat).map (fun p => f (treeOf p)) = l.map f := by
  rw [List.map_map]
  refine List.map_congr_left fun y hy => ?_
  simp only [Function.comp]
  rw [treeOf_flat ((T.wfs_iff l).1 h y hy)]
theorem erL_prf {t : List Nd} (h : measB t = true) (hk : (nth t (t.length - 1)).K = 28) : erL t = [tick] := by
  obtain ⟨n, l, hx, _, _, _, _, h5, _, _⟩ := tree_parts h
  rw [h5] at hk
  simp [erL, hx, erT, hk, T.flat_mk, T.flats_nil]
theorem erL_parts {t : List Nd} (h : measB t = true) (hk : ¬ (nth t (t.length - 1)).K = 28) : erL t = ((ptL t).map erL).flatten ++ [nth t (t.length - 1)] := by
  obtain ⟨n, l, hx, _, _, h3, _, h5, _, _⟩ := tree_parts h
  rw [h5] at hk ⊢
  have h6 : (ptL t).map erL = l.map (fun y => (erT y).flat) := by
    unfold ptL
    rw [hx]
    exact map_tree h3 (fun y => (erT y).flat)
  rw [h6]
  unfold erL
  rw [hx]
  simp only [erT, hk, if_false, T.flat_mk, erTs_map]
  rw [← flats_flatten, List.map_map]
  rfl
theorem prL_prf {t : List Nd} (h : measB t = true) (hk : (nth t (t.length - 1)).K = 28) : prL t = [t] := by
  obtain ⟨n, l, hx, _, _, _, h4, h5, _, _⟩ := tree_parts h
  rw [h5] at hk
  unfold prL
  rw [hx]
  simp [prfT, hk]
  exact h4.symm
theorem prL_parts {t : List Nd} (h : measB t = true) (hk : ¬ (nth t (t.length - 1)).K = 28) : prL t = ((ptL t).map prL).flatten := by
  obtain ⟨n, l, hx, _, _, h3, _, h5, _, _⟩ := tree_parts h
  rw [h5] at hk
  have h6 : (ptL t).map prL = l.map prfT := by
    unfold ptL
    rw [hx]
    exact map_tree h3 prfT
  rw [h6]
  unfold prL
  rw [hx]
  simp [prfT, hk, prfTs_map]
theorem erL_len {t : List Nd} (h : measB t = true) : (erL t).length ≤ t.length := by
  obtain ⟨hw, hf⟩ := treeOf_meas h
  have := (erT_ok _ hw).2.2
  rw [hf] at this
  exact this
theorem era_eq {t : List Nd} (h : measB t = true) : repP t (prfL t) = erL t := by
  obtain ⟨hw, hf⟩ := treeOf_meas h
  have := erase_tree hw
  rw [hf] at this
  exact this
theorem prf_eq {t : List Nd} (h : measB t = true) : (prfsOf t (prfL t)).reverse = prL t := by
  obtain ⟨hw, hf⟩ := treeOf_meas h
  have := proofs_tree hw
  rw [hf] at this
  exact this
theorem map_take_step {f : List Nd → List Nd} {t : List Nd} {Ls : List Sl} {A : Option Addr} {c k : Nat} {L : List Nd} (hL : lsts Ls = ((ptL t).take k).map f) (hk : k < (ptL t).length) (he : L = f (nthL (ptL t) k)) :
    lsts (Ls ++ [((A, c, L) : Sl)]) = ((ptL t).take (k + 1)).map f := by
  rw [lsts_app, lsts_one, hL, take_nthL hk, List.map_append, he]
  rfl
theorem erL_bd {t : List Nd} (h : measB t = true) : ∀ p ∈ (ptL t).map erL, p.length ≤ t.length := fun p hp => by
  obtain ⟨q, hq, rfl⟩ := List.mem_map.1 hp
  obtain ⟨h1, h2, _⟩ := ptL_mem h hq
  have := erL_len h1
  omega
theorem ptL_le {t : List Nd} (h : measB t = true) : (ptL t).length ≤ 8 := by
  rw [ptL_length h]
  exact many_le (right_at h (by have := meas_pos h; omega))
end Go.Proofs.YtobgdeffhdefeaaDoor
/- What is erased, stripped, and the proofs, of terms: lists. -/
namespace Go.Proofs.YtobgdeffhdefeaaDoor
set_option linter.unusedSimpArgs false
set_option linter.unusedVariables false
def erA (t : List Nd) : List Nd := if chk t = 0 then erL t else []
def stA (t : List Nd) : List Nd := if chk t = 0 then t.filter nPrf else []
def prA (t : List Nd) : List (List Nd) := if chk t = 0 then prL t else []
theorem erA_ok {t : List Nd} (h : chk t = 0) : erA t = erL t := if_pos h
theorem erA_no {t : List Nd} (h : ¬ chk t = 0) : erA t = [] := if_neg h
theorem stA_ok {t : List Nd} (h : chk t = 0) : stA t = t.filter nPrf := if_pos h
theorem stA_no {t : List Nd} (h : ¬ chk t = 0) : stA t = [] := if_neg h
theorem prA_ok {t : List Nd} (h : chk t = 0) : prA t = prL t := if_pos h
theorem prA_no {t : List Nd} (h : ¬ chk t = 0) : prA t = [] := if_neg h
theorem sml_mem {t : List Nd} : sml t ↔ ∀ n ∈ t, n.S.size < 1000000 := by
  constructor
  · intro h n hn
    obtain ⟨i, hi, rfl⟩ := List.getElem_of_mem hn
    have := h i hi
    simpa [nth, hi] using this
  · intro h k hk
    exact h _ (nth_mem hk)
theorem chk_flat {x : T} (hw : x.wf = true) (hd : x.deep ≤ 60) (hl : x.flat.length ≤ 4000) : chk x.flat = 0 := chk_ok.2 ⟨x, hw, rfl, hl, hd⟩
theorem lenM_mem {l : List (List Nd)} {p : List Nd} (h : p ∈ l) : p.length - 1 ≤ lenM l := by
  induction l with
  | nil => cases h
  | cons q l ih =>
    simp only [lenM, List.map_cons, List.sum_cons]
    rcases List.mem_cons.1 h with rfl | h
    · omega
    · have := ih h
      simp only [lenM] at this
      omega
theorem erL_facts {t : List Nd} (hc : chk t = 0) (hs : sml t) : sml (erL t) ∧ chk (erL t) = 0 ∧ (erL t).length ≤ t.length ∧ erL (erL t) = erL t ∧ (∀ k, k < (erL t).length → (nth (erL t) k).K ≠ 28) := by
  obtain ⟨hw, hf, hd, hl⟩ := treeOf_ok hc
  obtain ⟨h1, h2, h3⟩ := erT_ok _ hw
  rw [hf] at h3
  have hno := erT_no (treeOf t)
  have hfix : ∀ x : T, (∀ n ∈ x.flat, n.K ≠ 28) → erT x = x := by
    have both : (∀ x : T, (∀ n ∈ x.flat, n.K ≠ 28) → erT x = x) := by
      intro x
      refine T.rec (motive_1 := fun x => (∀ n ∈ x.flat, n.K ≠ 28) → erT x = x) (motive_2 := fun l => (∀ n ∈ T.flats l, n.K ≠ 28) → erTs l = l) ?_ ?_ ?_ x
      · intro n l ih h
        have hk : n.K ≠ 28 := h n (by simp [T.flat_mk])
        simp only [erT, hk, if_false]
        rw [ih (fun m hm => h m (by simp [T.flat_mk, hm]))]
      · intro _; rfl
      · intro y l ih1 ih2 h
        simp only [erTs]
        rw [ih1 (fun m hm => h m (by simp [T.flats_cons, hm])), ih2 (fun m hm => h m (by simp [T.flats_cons, hm]))]
    exact both
  refine ⟨sml_mem.2 fun n hn => ?_, chk_flat h1 (by omega) (by show (erT (treeOf t)).flat.length ≤ 4000; omega), h3, ?_, fun k hk => hno _ (nth_mem hk)⟩
  · rcases erT_in _ n hn with rfl | h
    · decide
    · rw [hf] at h
      exact sml_mem.1 hs n h
  · show (erT (treeOf (erT (treeOf t)).flat)).flat = (erT (treeOf t)).flat
    rw [treeOf_flat h1, hfix _ hno]
theorem twice_facts {t : List Nd} (hc : chk t = 0) (hs : sml t) :
    (sml (erA t) ∧ chk (erA t) = 0 ∧ (erA t).length ≤ t.length ∧ erA (erA t) = erA t ∧ (∀ k, k < (erA t).length → (nth (erA t) k).K ≠ 28)) ∧
    (sml (stA t) ∧ chk (stA t) = 0 ∧ (stA t).length ≤ t.length) ∧
    ((prA t).length ≤ ticks (erA t) ∧ (erA t).length + lenM (prA t) = t.length ∧ ∀ p ∈ prA t, 0 < p.length ∧ p.length ≤ t.length ∧ (nth p (p.length - 1)).K = 28) := by
  obtain ⟨hw, hf, hd, hl⟩ := treeOf_ok hc
  obtain ⟨h1, h2, h3, h4, h5⟩ := erL_facts hc hs
  obtain ⟨s1, s2, s3⟩ := stT_ok _ hw
  rw [hf] at s3
  obtain ⟨p1, p2, p3⟩ := erT_len (treeOf t)
  rw [hf] at p1
  rw [erA_ok hc, stA_ok hc, prA_ok hc, erA_ok h2]
  refine ⟨⟨h1, h2, h3, h4, h5⟩, ⟨?_, ?_, List.length_filter_le _ _⟩, p2, p1, fun p hp => ?_⟩
  · exact sml_mem.2 fun n hn => sml_mem.1 hs n ((List.mem_filter.1 hn).1)
  · rw [← s3]
    refine chk_flat s1 (by omega) ?_
    rw [s3]
    have := List.length_filter_le nPrf t
    omega
  · obtain ⟨q1, q2⟩ := p3 p hp
    have q3 : p.length - 1 ≤ lenM (prfT (treeOf t)) := lenM_mem hp
    have q4 : 0 < p.length := List.length_pos_iff.2 q1
    have q5 : 0 < (erT (treeOf t)).flat.length := T.flat_pos _
    have : p.length ≤ t.length := by omega
    exact ⟨q4, this, q2⟩
theorem era_sp : erA [starN, prfN] = [tick] := by rw [erA_ok chk_sp, ← era_eq (meas_chk chk_sp), rep_sp]
theorem prA_at {t : List Nd} {Ls : List Sl} {j : Nat} (hL : lsts Ls = prA t) (hj : j < Ls.length) : (nthS Ls j).2.2 ∈ prA t ∧ (nthS Ls j).2.2 = nthL (prA t) j ∧ j < (prA t).length := by
  have h1 : j < (prA t).length := by rw [← hL, lsts_len]; exact hj
  rw [lsts_nth, hL]
  exact ⟨nthL_mem h1, rfl, h1⟩
theorem erA_le (t : List Nd) : (erA t).length ≤ t.length := by
  by_cases h : chk t = 0
  · rw [erA_ok h]; exact erL_len (meas_chk h)
  · rw [erA_no h]; simp
theorem stA_le (t : List Nd) : (stA t).length ≤ t.length := by
  by_cases h : chk t = 0
  · rw [stA_ok h]; exact List.length_filter_le _ _
  · rw [stA_no h]; simp
theorem prfT_len (x : T) : (prfT x).length ≤ x.flat.length ∧ ∀ p ∈ prfT x, p.length ≤ x.flat.length := by
  obtain ⟨h1, h2, h3⟩ := erT_len x
  have h4 : ticks (erT x).flat ≤ (erT x).flat.length := List.countP_le_length
  refine ⟨by omega, fun p hp => ?_⟩
  have := lenM_mem hp
  have : 0 < (erT x).flat.length := T.flat_pos _
  omega
theorem prL_len {t : List Nd} (h : measB t = true) : (prL t).length ≤ t.length ∧ ∀ p ∈ prL t, p.length ≤ t.length := by
  have := prfT_len (treeOf t)
  rw [(treeOf_meas h).2] at this
  exact this
theorem prA_le (t : List Nd) : ∀ p ∈ prA t, p.length ≤ t.length := by
  by_cases h : chk t = 0
  · rw [prA_ok h]; exact (prL_len (meas_chk h)).2
  · rw [prA_no h]; simp
theorem prA_len (t : List Nd) : (prA t).length ≤ t.length := by
  by_cases h : chk t = 0
  · rw [prA_ok h]; exact (prL_len (meas_chk h)).1
  · rw [prA_no h]; simp
theorem flat_take_le {α : Type} {t : List Nd} {f : List Nd → List α} (h : measB t = true) (hf : ∀ p ∈ ptL t, (f p).length ≤ p.length) (k : Nat) : (((ptL t).take k).map f).flatten.length ≤ 8 * t.length := by
  have h8 := ptL_le h
  have h2 : ∀ l : List (List Nd), (∀ p ∈ l, (f p).length ≤ t.length) → (l.map f).flatten.length ≤ l.length * t.length := by
    intro l
    induction l with
    | nil => simp
    | cons p l ih =>
      intro hl
      have h1 := hl p (by simp)
      have h2 := ih (fun q hq => hl q (by simp [hq]))
      simp only [List.map_cons, List.flatten_cons, List.length_append, List.length_cons, Nat.add_mul]
      omega
  have h3 := h2 ((ptL t).take k) (fun p hp => by
    have hm := List.mem_of_mem_take hp
    have := hf p hm
    have := (ptL_mem h hm).2.1
    omega)
  have h4 : ((ptL t).take k).length ≤ 8 := by rw [List.length_take]; omega
  exact Nat.le_trans h3 (Nat.mul_le_mul_right _ h4)
theorem flat_take_step {t : List Nd} {Ls Ks : List Sl} {k : Nat} (hL : lsts Ls = (((ptL t).take k).map prL).flatten) (hk : k < (ptL t).length) (hK : lsts Ks = prL (nthL (ptL t) k)) :
    lsts (Ls ++ Ks) = (((ptL t).take (k + 1)).map prL).flatten := by
  rw [lsts_app, hL, take_nthL hk, List.map_append, List.flatten_append, hK]
  simp
theorem filter_step {t : List Nd} {k : Nat} (h : k < t.length) : (t.take (k + 1)).filter nPrf = (t.take k).filter nPrf ++ (if (nth t k).K = 28 then [] else [nth t k]) := by
  rw [take_nth h, List.filter_append]
  congr 1
  by_cases hk : (nth t k).K = 28 <;> simp [nPrf, isPrf, hk]
theorem ticks_step {t : List Nd} {k : Nat} (h : k < t.length) : ticks (t.take (k + 1)) = ticks (t.take k) + if (nth t k).K = 29 then 1 else 0 := by
  rw [take_nth h, ticks_append]
  congr 1
  unfold ticks
  by_cases hk : (nth t k).K = 29 <;> simp [hk]
theorem lenM_step {l : List (List Nd)} {k : Nat} (h : k < l.length) : lenM (l.take (k + 1)) = lenM (l.take k) + ((nthL l k).length - 1) := by
  rw [take_nthL h, lenM_append]
  simp [lenM]
end Go.Proofs.YtobgdeffhdefeaaDoor
/- Contracts of functions, one theorem each: what the call returns, and that nothing old is changed. Printed by gen.py. -/
namespace Go.Proofs.YtobgdeffhdefeaaDoor
open Go Go.RowKit
set_option linter.unusedSimpArgs false
set_option linter.unusedVariables false

set_option maxRecDepth 100000 in
set_option maxHeartbeats 1000000 in
theorem lv_calls (w0 : World) (Z : Nat → Prop) (hZ : ∀ k, Z k → k < w0.heap.size) (n : Int)  :
    Calls Tryd.prog 145 [.int .i64 n].toArray w0 (fun e w' => e = .returned (.bool (!decide (0 ≤ n ∧ n ≤ 9))) ∧ Fr none_ w0 w') := by
  have hstart : ∀ k, Z k → imm Z w0 [] w0 k ∧ w0.heap[k]? = w0.heap[k]? := fun k hk => ⟨⟨hZ k hk, fun _ => hk, fun _ h => by cases h⟩, rfl⟩
  have hS3 : St w0 Z none_ w0 [] [] := St.start w0 Z none_ _ (by
    intro d hd
    cases hd
    )
  refine c_enter Tryd.func145 rfl Tryd.ntmps145 rfl (fun a1 hR2 => ?_)
  refine wp_seq_k (fun K4 hK5 => ?_)
  refine c_region ?_
  refine r_assign (st_listV rfl) hR2 rfl rfl rfl (by decide) (fun a6 hR7 => ?_)
  refine wpList_nil ?_
  refine x_then_n (hK5 _ _ ?_)
  refine wp_seq_k (fun K8 hK9 => ?_)
  refine c_region ?_
  refine r_move (st_listV rfl) hR7 rfl rfl rfl (by decide) (fun a10 hR11 => ?_)
  refine r_lss (st_listV rfl) hR11 rfl rfl rfl rfl (by decide) (fun a12 hR13 => ?_)
  refine r_move (st_listV rfl) hR13 rfl rfl rfl (by decide) (fun a14 hR15 => ?_)
  refine l_join (fun ga gw => Reg ga 9 [(2, .bool false), (8, .bool ((decide ((n) < 0)) || (decide (9 < (n))))), (1000000, .bool false)] ∧ St w0 Z none_ gw [] []) 3 ?_ ?_
  · skip
    rcases Decidable.em ((n) < 0) with h16 | h16
    · skip
      have hR17 := hR15.setb (d := 5) (b := true) rfl (decide_eq_true h16)
      refine s_pass hR17 rfl (by decide) (want_f hR17 rfl rfl rfl (by decide) rfl rfl) (fun a18 hR19 => ?_)
      refine s_pass hR19 rfl (by decide) (want_f hR19 rfl rfl rfl (by decide) rfl rfl) (fun a20 hR21 => ?_)
      refine r_pick_t (st_listV rfl) hR21 rfl rfl rfl rfl (by decide) (fun a22 hR23 => ?_)
      refine wpList_nil ?_
      exact x_then_n ⟨(Reg.cons hR23 (Reg.consb hR23 (Reg.cons hR23 (hR23.nil) rfl) rfl (by first | rfl | (simp only [decide_eq_true h16, if_pos h16, Bool.true_and, Bool.and_true, Bool.false_and, Bool.and_false, Bool.true_or, Bool.or_true, Bool.false_or, Bool.or_false, Bool.not_true, Bool.not_false, if_true, ite_true, ite_false, Bool.false_eq_true]; done) | (simp [h16]; done) | (simp [h16]; omega))) rfl), hS3⟩
    · skip
      have hR24 := hR15.setb (d := 5) (b := false) rfl (decide_eq_false h16)
      refine r_move (st_listV_w (want_t hR24 rfl rfl rfl (by decide) rfl)) hR24 rfl rfl rfl (by decide) (fun a25 hR26 => ?_)
      refine r_gtr (st_listV_w (want_t hR26 rfl rfl rfl (by decide) rfl)) hR26 rfl rfl rfl rfl (by decide) (fun a27 hR28 => ?_)
      refine r_pick_f (st_listV rfl) hR28 rfl rfl rfl rfl (by decide) (fun a29 hR30 => ?_)
      refine wpList_nil ?_
      exact x_then_n ⟨(Reg.cons hR30 (Reg.consb hR30 (Reg.cons hR30 (hR30.nil) rfl) rfl (by first | rfl | (simp only [decide_eq_false h16, if_neg h16, Bool.true_and, Bool.and_true, Bool.false_and, Bool.and_false, Bool.true_or, Bool.or_true, Bool.false_or, Bool.or_false, Bool.not_true, Bool.not_false, if_true, ite_true, ite_false, Bool.false_eq_true]; done) | (simp [h16]; done) | (simp [h16]; omega))) rfl), hS3⟩
  rintro a31 w32 ⟨hR33, hS34⟩
  refine r_assign (st_listV rfl) hR33 rfl rfl rfl (by decide) (fun a35 hR36 => ?_)
  refine wpList_nil ?_
  refine x_then_n (hK9 _ _ ?_)
  refine wp_ret ?_
  refine e_ret1 hR36 rfl rfl rfl ?_
  refine ⟨?_, hS34.fr⟩
  exact congrArg Ending.returned (ret_b (by first | rfl | omega | ( omega) | (simp []; done) | (simp [] at *; done) | (simp [] <;> omega) | (rw [Bool.eq_iff_iff]; simp [] <;> omega) | (rw [Bool.eq_iff_iff]; simp [] at * <;> omega)))

set_option maxRecDepth 100000 in
set_option maxHeartbeats 1000000 in
theorem lvIndex_calls (w0 : World) (Z : Nat → Prop) (hZ : ∀ k, Z k → k < w0.heap.size) (tA : Option Addr) (tc : Nat) (t : List Int) (ht : (dRow 1 tA t.length tc (encIs t)).φ w0 Z) (hl : t.length ≤ 1000000) :
    Calls Tryd.prog 148 [.slice tA t.length tc, .func (.func 145) #[] #[]].toArray w0 (fun e w' => e = .returned (.int .i64 (lvIndex t)) ∧ Fr none_ w0 w') := by
  have hstart : ∀ k, Z k → imm Z w0 [] w0 k ∧ w0.heap[k]? = w0.heap[k]? := fun k hk => ⟨⟨hZ k hk, fun _ => hk, fun _ h => by cases h⟩, rfl⟩
  have hS3 : St w0 Z none_ w0 [] [dRow 1 tA t.length tc (encIs t)] := St.start w0 Z none_ _ (by
    intro d hd
    simp only [List.mem_cons, List.not_mem_nil, or_false] at hd
    rcases hd with rfl
    · exact Dat.mono _ _ _ _ _ (Nat.le_refl _) ht hstart
    )
  refine c_enter Tryd.func148 rfl Tryd.ntmps148 rfl (fun a1 hR2 => ?_)
  refine wp_seq_k (fun K4 hK5 => ?_)
  refine c_region ?_
  refine r_assign (st_listV rfl) hR2 rfl rfl rfl (by decide) (fun a6 hR7 => ?_)
  refine wpList_nil ?_
  refine x_then_n (hK5 _ _ ?_)
  refine wp_seq_k (fun K8 hK9 => ?_)
  refine wp_seq_k (fun K10 hK11 => ?_)
  refine c_region ?_
  refine r_move (st_listV rfl) hR7 rfl rfl rfl (by decide) (fun a12 hR13 => ?_)
  refine r_len (st_listV rfl) hR13 rfl rfl rfl rfl Tryd.underlying66 (by decide) (fun a14 hR15 => ?_)
  refine r_move (st_listV rfl) hR15 rfl rfl rfl (by decide) (fun a16 hR17 => ?_)
  refine wpList_nil ?_
  refine x_then_n (hK11 _ _ ?_)
  refine wp_block ?_
  refine wp_loop_ghost (fun gn ga gw => ∃ k : Nat, (Reg ga 19 [(1000000, .bool false), (0, .slice tA t.length tc), (1, .func (.func 145) #[] #[]), (7, .int .i64 ((t.length : Nat) : Int)), (8, .int .i64 ((k : Nat) : Int))]) ∧ (St w0 Z none_ gw [] [dRow 1 tA t.length tc (encIs t)]) ∧ (k ≤ t.length) ∧ (lvIndex t = (let r := lvIndex (t.drop k); if r < 0 then r else r + (k : Int))) ∧ (t.length - k) = gn) _ ⟨0, (Reg.cons hR17 (Reg.cons hR17 (Reg.cons hR17 (Reg.cons hR17 (Reg.cons hR17 (hR17.nil) rfl) rfl) rfl) rfl) rfl), hS3, by omega, by simp, rfl⟩ ?_
  rintro r18 a19 w20 ⟨k, hR21, hS22, hk, hi, hn23⟩
  refine wp_seq_k (fun K24 hK25 => ?_)
  refine c_region ?_
  refine r_lss (st_listV rfl) hR21 rfl rfl rfl rfl (by decide) (fun a26 hR27 => ?_)
  refine wpList_nil ?_
  refine x_then_n (hK25 _ _ ?_)
  refine wp_seq_k (fun K28 hK29 => ?_)
  rcases Decidable.em (((k : Nat) : Int) < ((t.length : Nat) : Int)) with h30 | h30
  · skip
    have hR31 := hR27.setb (d := 9) (b := true) rfl (decide_eq_true h30)
    refine wp_cond_true (hR31.ev rfl) ?_
    refine wp_skip ?_
    refine x_then_n (hK29 _ _ ?_)
    refine wp_seq_k (fun K32 hK33 => ?_)
    refine wp_block ?_
    refine wp_seq_k (fun K34 hK35 => ?_)
    refine c_region ?_
    refine r_move (st_listV rfl) hR31 rfl rfl rfl (by decide) (fun a36 hR37 => ?_)
    refine r_assign (st_listV rfl) hR37 rfl rfl rfl (by decide) (fun a38 hR39 => ?_)
    refine wpList_nil ?_
    refine x_then_n (hK35 _ _ ?_)
    refine wp_seq_k (fun K40 hK41 => ?_)
    refine c_region ?_
    refine r_move (st_listV rfl) hR39 rfl rfl rfl (by decide) (fun a42 hR43 => ?_)
    refine r_move (st_listV rfl) hR43 rfl rfl rfl (by decide) (fun a44 hR45 => ?_)
    refine r_move (st_listV rfl) hR45 rfl rfl rfl (by decide) (fun a46 hR47 => ?_)
    refine m_index (i := k) (j := k * 1) (st_listV rfl) hR47 rfl rfl rfl rfl Tryd.underlying66 sz3 (by omega) (by omega) (ints_elem (t := t) (k := k) (hS22.row (i := 0) rfl).2 (by omega)).some_ rfl (by decide) (fun a48 hR49 => ?_)
    refine m_loadE (st_listV rfl) hR49 rfl rfl rfl 0 (k * 1) (ints_elem (t := t) (k := k) (hS22.row (i := 0) rfl).2 (by omega)) rfl rfl Tryd.underlying3 rfl (by decide) (fun a50 hR51 => ?_)
    have hS52 : St w0 Z none_ w20 [] [dRow 1 tA t.length tc (encIs t)] := hS22
    refine k_callV (xs := [.tmp 15]) (st_list rfl) hR51 rfl rfl rfl rfl (by decide) ok145 (lv_calls _ (imm Z w0 [] _) (fun _ h => h.1) ((nthI t k))) ?_
    rintro e59 w54 ⟨rfl, hf57⟩
    have hS60 := hS52.below hf57.below
    refine ⟨_, rfl, fun a53 hR55 => ?_⟩
    refine wpList_nil ?_
    refine x_then_n (hK41 _ _ ?_)
    rcases Bool.eq_false_or_eq_true (!decide (0 ≤ ((nthI t k)) ∧ ((nthI t k)) ≤ 9)) with h61 | h61
    · skip
      have h62 := not_t h61
      have h63 := of_decide_eq_false h62
      have hR64 := hR55.setb (d := 16) (b := true) rfl h61
      refine wp_cond_true (hR64.ev rfl) ?_
      refine wp_seq_k (fun K65 hK66 => ?_)
      refine c_region ?_
      refine r_move (st_listV rfl) hR64 rfl rfl rfl (by decide) (fun a67 hR68 => ?_)
      refine r_assign (st_listV rfl) hR68 rfl rfl rfl (by decide) (fun a69 hR70 => ?_)
      refine wpList_nil ?_
      refine x_then_n (hK66 _ _ ?_)
      refine wp_ret ?_
      refine x_block_r ?_
      refine x_then_r ?_
      refine x_then_r ?_
      refine x_block_r ?_
      refine x_then_r ?_
      refine e_ret1 hR70 rfl rfl rfl ?_
      refine ⟨?_, hS60.fr⟩
      exact congrArg Ending.returned (ret_i (by first | exact (lvIndex_here (k := k) hi (by omega) (by intro h0; have q := h63; simp at q; omega)).symm | exact (lvIndex_none hi (by omega)).symm))
    · skip
      have h71 := not_f h61
      have h72 := of_decide_eq_true h71
      have hR73 := hR55.setb (d := 16) (b := false) rfl h61
      refine wp_cond_false (hR73.ev rfl) ?_
      refine wp_skip ?_
      refine x_block_n ?_
      refine x_then_n (hK33 _ _ ?_)
      refine c_region ?_
      refine r_add (z := ((k + 1 : Nat) : Int)) (st_listV rfl) hR73 rfl rfl rfl rfl (by decide) (by omega) (by omega) (by omega) (fun a74 hR75 => ?_)
      refine r_move (st_listV rfl) hR75 rfl rfl rfl (by decide) (fun a76 hR77 => ?_)
      refine wpList_nil ?_
      exact ⟨_, by omega, k + 1, (Reg.cons hR77 (Reg.cons hR77 (Reg.cons hR77 (Reg.cons hR77 (Reg.cons hR77 (hR77.nil) rfl) rfl) rfl) rfl) rfl), hS60, by omega, lvIndex_step hi (by omega) (by have q := h72; simpa using q), rfl⟩
  · skip
    have hR78 := hR27.setb (d := 9) (b := false) rfl (decide_eq_false h30)
    refine wp_cond_false (hR78.ev rfl) ?_
    refine wp_exit ?_
    refine x_then_e ?_
    refine x_then_e ?_
    refine x_block_eq ?_
    refine x_then_n (hK9 _ _ ?_)
    refine wp_seq_k (fun K79 hK80 => ?_)
    refine c_region ?_
    refine r_assign (st_listV rfl) hR78 rfl rfl rfl (by decide) (fun a81 hR82 => ?_)
    refine wpList_nil ?_
    refine x_then_n (hK80 _ _ ?_)
    refine wp_ret ?_
    refine e_ret1 hR82 rfl rfl rfl ?_
    refine ⟨?_, hS22.fr⟩
    exact congrArg Ending.returned (ret_i (by first | exact (lvIndex_here (k := k) hi (by omega) (by intro h0; have q := h30; simp at q; omega)).symm | exact (lvIndex_none hi (by omega)).symm))

set_option maxRecDepth 100000 in
set_option maxHeartbeats 1000000 in
theorem lvContains_calls (w0 : World) (Z : Nat → Prop) (hZ : ∀ k, Z k → k < w0.heap.size) (tA : Option Addr) (tc : Nat) (t : List Int) (ht : (dRow 1 tA t.length tc (encIs t)).φ w0 Z) (hl : t.length ≤ 1000000) :
    Calls Tryd.prog 144 [.slice tA t.length tc, .func (.func 145) #[] #[]].toArray w0 (fun e w' => e = .returned (.bool (decide (0 ≤ lvIndex t))) ∧ Fr none_ w0 w') := by
  have hstart : ∀ k, Z k → imm Z w0 [] w0 k ∧ w0.heap[k]? = w0.heap[k]? := fun k hk => ⟨⟨hZ k hk, fun _ => hk, fun _ h => by cases h⟩, rfl⟩
  have hS3 : St w0 Z none_ w0 [] [dRow 1 tA t.length tc (encIs t)] := St.start w0 Z none_ _ (by
    intro d hd
    simp only [List.mem_cons, List.not_mem_nil, or_false] at hd
    rcases hd with rfl
    · exact Dat.mono _ _ _ _ _ (Nat.le_refl _) ht hstart
    )
  refine c_enter Tryd.func144 rfl Tryd.ntmps144 rfl (fun a1 hR2 => ?_)
  refine wp_seq_k (fun K4 hK5 => ?_)
  refine c_region ?_
  refine r_assign (st_listV rfl) hR2 rfl rfl rfl (by decide) (fun a6 hR7 => ?_)
  refine wpList_nil ?_
  refine x_then_n (hK5 _ _ ?_)
  refine wp_seq_k (fun K8 hK9 => ?_)
  refine c_region ?_
  refine r_move (st_listV rfl) hR7 rfl rfl rfl (by decide) (fun a10 hR11 => ?_)
  refine r_move (st_listV rfl) hR11 rfl rfl rfl (by decide) (fun a12 hR13 => ?_)
  have hS14 : St w0 Z none_ w0 [] [dRow 1 tA t.length tc (encIs t)] := hS3
  refine k_call (xs := [.tmp 5, .tmp 6]) (st_list rfl) hR13 rfl rfl rfl (by decide) ok148 (lvIndex_calls _ (imm Z w0 [] _) (fun _ h => h.1) tA tc t (hS14.get (i := 0) rfl) (by first | assumption | omega | (simp; done) | (simp; omega))) ?_
  rintro e21 w16 ⟨rfl, hf19⟩
  have hS22 := hS14.below hf19.below
  refine ⟨_, rfl, fun a15 hR17 => ?_⟩
  refine r_geq (st_listV rfl) hR17 rfl rfl rfl rfl (by decide) (fun a23 hR24 => ?_)
  refine r_assign (st_listV rfl) hR24 rfl rfl rfl (by decide) (fun a25 hR26 => ?_)
  refine wpList_nil ?_
  refine x_then_n (hK9 _ _ ?_)
  refine wp_ret ?_
  refine e_ret1 hR26 rfl rfl rfl ?_
  refine ⟨?_, hS22.fr⟩
  exact congrArg Ending.returned (ret_b (by first | rfl | omega | ( omega) | (simp []; done) | (simp [] at *; done) | (simp [] <;> omega) | (rw [Bool.eq_iff_iff]; simp [] <;> omega) | (rw [Bool.eq_iff_iff]; simp [] at * <;> omega)))

set_option maxRecDepth 100000 in
set_option maxHeartbeats 1000000 in
theorem lvAll_calls (w0 : World) (Z : Nat → Prop) (hZ : ∀ k, Z k → k < w0.heap.size) (tA : Option Addr) (tc : Nat) (t : List Int) (ht : (dRow 1 tA t.length tc (encIs t)).φ w0 Z) (hl : t.length ≤ 1000000) :
    Calls Tryd.prog 138 [.slice tA t.length tc].toArray w0 (fun e w' => e = .returned (.bool (!decide (0 ≤ lvIndex t))) ∧ Fr none_ w0 w') := by
  have hstart : ∀ k, Z k → imm Z w0 [] w0 k ∧ w0.heap[k]? = w0.heap[k]? := fun k hk => ⟨⟨hZ k hk, fun _ => hk, fun _ h => by cases h⟩, rfl⟩
  have hS3 : St w0 Z none_ w0 [] [dRow 1 tA t.length tc (encIs t)] := St.start w0 Z none_ _ (by
    intro d hd
    simp only [List.mem_cons, List.not_mem_nil, or_false] at hd
    rcases hd with rfl
    · exact Dat.mono _ _ _ _ _ (Nat.le_refl _) ht hstart
    )
  refine c_enter Tryd.func138 rfl Tryd.ntmps138 rfl (fun a1 hR2 => ?_)
  refine wp_seq_k (fun K4 hK5 => ?_)
  refine c_region ?_
  refine r_assign (st_listV rfl) hR2 rfl rfl rfl (by decide) (fun a6 hR7 => ?_)
  refine wpList_nil ?_
  refine x_then_n (hK5 _ _ ?_)
  refine wp_seq_k (fun K8 hK9 => ?_)
  refine c_region ?_
  refine r_move (st_listV rfl) hR7 rfl rfl rfl (by decide) (fun a10 hR11 => ?_)
  have hS12 : St w0 Z none_ w0 [] [dRow 1 tA t.length tc (encIs t)] := hS3
  refine k_call (xs := [.tmp 3, .func 145]) (st_list rfl) hR11 rfl rfl rfl (by decide) ok144 (lvContains_calls _ (imm Z w0 [] _) (fun _ h => h.1) tA tc t (hS12.get (i := 0) rfl) (by first | assumption | omega | (simp; done) | (simp; omega))) ?_
  rintro e19 w14 ⟨rfl, hf17⟩
  have hS20 := hS12.below hf17.below
  refine ⟨_, rfl, fun a13 hR15 => ?_⟩
  refine r_not (st_listV rfl) hR15 rfl rfl rfl (by decide) (fun a21 hR22 => ?_)
  refine r_assign (st_listV rfl) hR22 rfl rfl rfl (by decide) (fun a23 hR24 => ?_)
  refine wpList_nil ?_
  refine x_then_n (hK9 _ _ ?_)
  refine wp_ret ?_
  refine e_ret1 hR24 rfl rfl rfl ?_
  refine ⟨?_, hS20.fr⟩
  exact congrArg Ending.returned (ret_b (by first | rfl | omega | ( omega) | (simp []; done) | (simp [] at *; done) | (simp [] <;> omega) | (rw [Bool.eq_iff_iff]; simp [] <;> omega) | (rw [Bool.eq_iff_iff]; simp [] at * <;> omega)))

set_option maxRecDepth 100000 in
set_option maxHeartbeats 1000000 in
theorem lvCheck_calls (w0 : World) (Z : Nat → Prop) (hZ : ∀ k, Z k → k < w0.heap.size) (n : Int)  :
    Calls Tryd.prog 129 [.int .i64 n].toArray w0 (fun e w' => e = .returned (.int .i64 (lvChk n)) ∧ Fr none_ w0 w') := by
  have hstart : ∀ k, Z k → imm Z w0 [] w0 k ∧ w0.heap[k]? = w0.heap[k]? := fun k hk => ⟨⟨hZ k hk, fun _ => hk, fun _ h => by cases h⟩, rfl⟩
  have hS3 : St w0 Z none_ w0 [] [] := St.start w0 Z none_ _ (by
    intro d hd
    cases hd
    )
  refine c_enter Tryd.func129 rfl Tryd.ntmps129 rfl (fun a1 hR2 => ?_)
  refine wp_seq_k (fun K4 hK5 => ?_)
  refine c_region ?_
  refine r_assign (st_listV rfl) hR2 rfl rfl rfl (by decide) (fun a6 hR7 => ?_)
  refine wpList_nil ?_
  refine x_then_n (hK5 _ _ ?_)
  refine wp_seq_k (fun K8 hK9 => ?_)
  refine wp_seq_k (fun K10 hK11 => ?_)
  refine c_region ?_
  refine r_move (st_listV rfl) hR7 rfl rfl rfl (by decide) (fun a12 hR13 => ?_)
  refine m_buildSlice (ps := [(0, .tmp 3)]) (cs := [.int .i64 (n)]) (st_listV rfl) hR13 hS3 rfl rfl rfl Tryd.underlying66 zi3 rfl rfl (by kernel_rfl) rfl (by decide) (fun a14 w15 g16 hR17 hS18 => ?_)
  have hS19 : St w0 Z none_ w15 [.row (some ⟨g16, 0, none⟩) 1 1 3 1 (encIs ([(n)]))] [] := hS18
  have hc23 := own_cap (hS19.res (i := 0) rfl)
  obtain ⟨hS20, hrow21⟩ := hS19.row_data (i := 0) rfl (fun _ h => h)
  have hS22 := hS20.data (dRow 1 (some ⟨g16, 0, none⟩) 1 1 (encIs ([(n)]))) ⟨hc23, hrow21⟩
  refine k_call (xs := [.tmp 4]) (st_list rfl) hR17 rfl rfl rfl (by decide) ok138 (lvAll_calls _ (imm Z w0 [] _) (fun _ h => h.1) (some ⟨g16, 0, none⟩) 1 ([(n)]) (hS22.get (i := 0) rfl) (by first | assumption | omega | (simp; done) | (simp; omega))) ?_
  rintro e30 w25 ⟨rfl, hf28⟩
  have hS31 := hS22.below hf28.below
  refine ⟨_, rfl, fun a24 hR26 => ?_⟩
  refine r_not (st_listV rfl) hR26 rfl rfl rfl (by decide) (fun a32 hR33 => ?_)
  refine wpList_nil ?_
  refine x_then_n (hK11 _ _ ?_)
  rcases Bool.eq_false_or_eq_true (!decide (0 ≤ lvIndex ([(n)]))) with h34 | h34
  · skip
    have h35 := not_t h34
    have h36 := of_decide_eq_false h35
    have hR37 := hR33.setb (d := 6) (b := false) rfl (by rw [h34]; rfl)
    refine wp_cond_false (hR37.ev rfl) ?_
    refine wp_skip ?_
    refine x_then_n (hK9 _ _ ?_)
    refine wp_seq_k (fun K38 hK39 => ?_)
    refine c_region ?_
    refine r_assign (st_listV rfl) hR37 rfl rfl rfl (by decide) (fun a40 hR41 => ?_)
    refine wpList_nil ?_
    refine x_then_n (hK39 _ _ ?_)
    refine wp_ret ?_
    refine e_ret1 hR41 rfl rfl rfl ?_
    refine ⟨?_, hS31.fr⟩
    exact congrArg Ending.returned (ret_i (by exact (lvChk_good (by have q := h36; simpa using q)).symm))
  · skip
    have h42 := not_f h34
    have h43 := of_decide_eq_true h42
    have hR44 := hR33.setb (d := 6) (b := true) rfl (by rw [h34]; rfl)
    refine wp_cond_true (hR44.ev rfl) ?_
    refine wp_seq_k (fun K45 hK46 => ?_)
    refine c_region ?_
    refine r_assign (st_listV rfl) hR44 rfl rfl rfl (by decide) (fun a47 hR48 => ?_)
    refine wpList_nil ?_
    refine x_then_n (hK46 _ _ ?_)
    refine wp_ret ?_
    refine x_then_r ?_
    refine e_ret1 hR48 rfl rfl rfl ?_
    refine ⟨?_, hS31.fr⟩
    exact congrArg Ending.returned (ret_i (by exact (lvChk_bad (by have q := h43; simpa using q)).symm))

set_option maxRecDepth 100000 in
set_option maxHeartbeats 1000000 in
theorem most_calls (w0 : World) (Z : Nat → Prop) (hZ : ∀ k, Z k → k < w0.heap.size) (k : Int)  :
    Calls Tryd.prog 130 [.int .i64 k].toArray w0 (fun e w' => e = .returned (.int .i64 (most k)) ∧ Fr none_ w0 w') := by
  have hstart : ∀ k, Z k → imm Z w0 [] w0 k ∧ w0.heap[k]? = w0.heap[k]? := fun k hk => ⟨⟨hZ k hk, fun _ => hk, fun _ h => by cases h⟩, rfl⟩
  have hS3 : St w0 Z none_ w0 [] [] := St.start w0 Z none_ _ (by
    intro d hd
    cases hd
    )
  refine c_enter Tryd.func130 rfl Tryd.ntmps130 rfl (fun a1 hR2 => ?_)
  refine wp_seq_k (fun K4 hK5 => ?_)
  refine c_region ?_
  refine r_assign (st_listV rfl) hR2 rfl rfl rfl (by decide) (fun a6 hR7 => ?_)
  refine wpList_nil ?_
  refine x_then_n (hK5 _ _ ?_)
  refine wp_seq_k (fun K8 hK9 => ?_)
  refine wp_seq_k (fun K10 hK11 => ?_)
  refine c_region ?_
  refine r_move (st_listV rfl) hR7 rfl rfl rfl (by decide) (fun a12 hR13 => ?_)
  refine wpList_nil ?_
  refine x_then_n (hK11 _ _ ?_)
  refine wp_block ?_
  refine wp_seq_k (fun K14 hK15 => ?_)
  refine c_region ?_
  refine r_eql (st_listV rfl) hR13 rfl rfl rfl rfl (by decide) (fun a16 hR17 => ?_)
  refine r_assign (st_listV rfl) hR17 rfl rfl rfl (by decide) (fun a18 hR19 => ?_)
  refine wpList_nil ?_
  refine x_then_n (hK15 _ _ ?_)
  rcases Decidable.em ((k) = 0) with h20 | h20
  · skip
    have hR21 := hR19.setb (d := 4) (b := true) rfl (decide_eq_true h20)
    refine wp_cond_true (hR21.ev rfl) ?_
    refine wp_seq_k (fun K22 hK23 => ?_)
    refine c_region ?_
    refine r_assign (st_listV rfl) hR21 rfl rfl rfl (by decide) (fun a24 hR25 => ?_)
    refine wpList_nil ?_
    refine x_then_n (hK23 _ _ ?_)
    refine wp_ret ?_
    refine x_block_r ?_
    refine x_then_r ?_
    refine e_ret1 hR25 rfl rfl rfl ?_
    refine ⟨?_, hS3.fr⟩
    exact congrArg Ending.returned (ret_i (by have q0 := h20; (try simp at q0);  unfold most; (repeat' split) <;> omega))
  · skip
    have hR26 := hR19.setb (d := 4) (b := false) rfl (decide_eq_false h20)
    refine wp_cond_false (hR26.ev rfl) ?_
    refine c_join (fun ga gw => Reg ga 9 [(2, .int .i64 0), (6, .bool ((decide ((k) = 3)) || (decide ((k) = 6)))), (1000000, .bool false)] ∧ St w0 Z none_ gw [] []) ?_ ?_
    · skip
      refine wp_seq_k (fun K27 hK28 => ?_)
      refine c_region ?_
      refine r_eql (st_listV rfl) hR26 rfl rfl rfl rfl (by decide) (fun a29 hR30 => ?_)
      refine r_assign (st_listV rfl) hR30 rfl rfl rfl (by decide) (fun a31 hR32 => ?_)
      refine wpList_nil ?_
      refine x_then_n (hK28 _ _ ?_)
      rcases Decidable.em ((k) = 3) with h33 | h33
      · skip
        have hR34 := hR32.setb (d := 6) (b := true) rfl (decide_eq_true h33)
        refine wp_cond_true (hR34.ev rfl) ?_
        refine wp_skip ?_
        exact x_then_n ⟨(Reg.cons hR34 (Reg.consb hR34 (Reg.cons hR34 (hR34.nil) rfl) rfl (by first | rfl | (simp only [decide_eq_true h33, if_pos h33, Bool.true_and, Bool.and_true, Bool.false_and, Bool.and_false, Bool.true_or, Bool.or_true, Bool.false_or, Bool.or_false, Bool.not_true, Bool.not_false, if_true, ite_true, ite_false, Bool.false_eq_true]; done) | (simp [h33]; done) | (simp [h33]; omega))) rfl), hS3⟩
      · skip
        have hR35 := hR32.setb (d := 6) (b := false) rfl (decide_eq_false h33)
        refine wp_cond_false (hR35.ev rfl) ?_
        refine c_region ?_
        refine r_eql (st_listV rfl) hR35 rfl rfl rfl rfl (by decide) (fun a36 hR37 => ?_)
        refine r_assign (st_listV rfl) hR37 rfl rfl rfl (by decide) (fun a38 hR39 => ?_)
        refine wpList_nil ?_
        exact x_then_n ⟨(Reg.cons hR39 (Reg.consb hR39 (Reg.cons hR39 (hR39.nil) rfl) rfl (by first | rfl | (simp only [decide_eq_false h33, if_neg h33, Bool.true_and, Bool.and_true, Bool.false_and, Bool.and_false, Bool.true_or, Bool.or_true, Bool.false_or, Bool.or_false, Bool.not_true, Bool.not_false, if_true, ite_true, ite_false, Bool.false_eq_true]; done) | (simp [h33]; done) | (simp [h33]; omega))) rfl), hS3⟩
    rintro a40 w41 ⟨hR42, hS43⟩
    rcases Bool.eq_false_or_eq_true (((decide ((k) = 3)) || (decide ((k) = 6)))) with h44 | h44
    · skip
      have hq45 := h44
      try simp only [Bool.or_eq_true, Bool.and_eq_true, Bool.not_eq_true', Bool.not_eq_false', decide_eq_true_eq, decide_eq_false_iff_not, Bool.or_eq_false_iff, Bool.and_eq_false_iff] at hq45
      have hR46 := hR42.setb (d := 6) (b := true) rfl h44
      refine wp_cond_true (hR46.ev rfl) ?_
      refine wp_seq_k (fun K47 hK48 => ?_)
      refine c_region ?_
      refine r_assign (st_listV rfl) hR46 rfl rfl rfl (by decide) (fun a49 hR50 => ?_)
      refine wpList_nil ?_
      refine x_then_n (hK48 _ _ ?_)
      refine wp_ret ?_
      refine x_block_r ?_
      refine x_then_r ?_
      refine e_ret1 hR50 rfl rfl rfl ?_
      refine ⟨?_, hS43.fr⟩
      exact congrArg Ending.returned (ret_i (by have q0 := h20; (try simp at q0); have q1 := h44; (try simp at q1);  unfold most; (repeat' split) <;> omega))
    · skip
      have h51 := or_fl h44
      have h52 := of_decide_eq_false h51
      have h53 := or_fr h44
      have h54 := of_decide_eq_false h53
      have hR55 := hR42.setb (d := 6) (b := false) rfl h44
      refine wp_cond_false (hR55.ev rfl) ?_
      refine wp_skip ?_
      refine x_block_n ?_
      refine x_then_n (hK9 _ _ ?_)
      refine wp_seq_k (fun K56 hK57 => ?_)
      refine c_region ?_
      refine r_assign (st_listV rfl) hR55 rfl rfl rfl (by decide) (fun a58 hR59 => ?_)
      refine wpList_nil ?_
      refine x_then_n (hK57 _ _ ?_)
      refine wp_ret ?_
      refine e_ret1 hR59 rfl rfl rfl ?_
      refine ⟨?_, hS43.fr⟩
      exact congrArg Ending.returned (ret_i (by have q0 := h20; (try simp at q0); have q1 := h44; (try simp at q1); have q2 := h52; (try simp at q2); have q3 := h54; (try simp at q3);  unfold most; (repeat' split) <;> omega))

set_option maxRecDepth 100000 in
set_option maxHeartbeats 1000000 in
theorem many_calls (w0 : World) (Z : Nat → Prop) (hZ : ∀ k, Z k → k < w0.heap.size) (n : Nd) (hShp : Shapes w0 Z) (hr : right n = true) :
    Calls Tryd.prog 126 [.agg #[.int .i64 (n.K), .int .i64 (n.N), .int .i64 (n.M), .string n.S]].toArray w0 (fun e w' => e = .returned (.int .i64 ((many n : Nat) : Int)) ∧ Fr none_ w0 w') := by
  have hstart : ∀ k, Z k → imm Z w0 [] w0 k ∧ w0.heap[k]? = w0.heap[k]? := fun k hk => ⟨⟨hZ k hk, fun _ => hk, fun _ h => by cases h⟩, rfl⟩
  have hS3 : St w0 Z none_ w0 [] [dShapes] := St.start w0 Z none_ _ (by
    intro d hd
    simp only [List.mem_cons, List.not_mem_nil, or_false] at hd
    rcases hd with rfl
    · exact Dat.mono _ _ _ _ _ (Nat.le_refl _) hShp hstart
    )
  obtain ⟨hK1, hK2⟩ := right_K hr
  refine c_enter Tryd.func126 rfl Tryd.ntmps126 rfl (fun a1 hR2 => ?_)
  refine wp_seq_k (fun K4 hK5 => ?_)
  refine c_region ?_
  refine m_box (cs := [.int .i64 (n.K), .int .i64 (n.N), .int .i64 (n.M), .string n.S]) (st_listV rfl) hR2 hS3 rfl rfl rfl rfl (by decide) (fun a6 w7 g8 hR9 hS10 => ?_)
  refine r_assign (st_listV rfl) hR9 rfl rfl rfl (by decide) (fun a11 hR12 => ?_)
  refine wpList_nil ?_
  refine x_then_n (hK5 _ _ ?_)
  refine wp_seq_k (fun K13 hK14 => ?_)
  refine wp_seq_k (fun K15 hK16 => ?_)
  refine c_region ?_
  refine m_field (j' := 0) (st_listV rfl) hR12 rfl rfl rfl Tryd.underlying32 rfl sz3 rfl rfl (by decide) (fun a17 hR18 => ?_)
  refine m_load (i := 0) (st_listV rfl) hR18 hS10 rfl rfl rfl rfl rfl Tryd.underlying3 rfl (by decide) (fun a19 hR20 => ?_)
  refine wpList_nil ?_
  refine x_then_n (hK16 _ _ ?_)
  refine wp_block ?_
  refine wp_seq_k (fun K21 hK22 => ?_)
  refine c_region ?_
  refine r_eql (st_listV rfl) hR20 rfl rfl rfl rfl (by decide) (fun a23 hR24 => ?_)
  refine r_assign (st_listV rfl) hR24 rfl rfl rfl (by decide) (fun a25 hR26 => ?_)
  refine wpList_nil ?_
  refine x_then_n (hK22 _ _ ?_)
  rcases Decidable.em ((n.K) = 26) with h27 | h27
  · skip
    have hR28 := hR26.setb (d := 5) (b := true) rfl (decide_eq_true h27)
    refine wp_cond_true (hR28.ev rfl) ?_
    refine wp_seq_k (fun K29 hK30 => ?_)
    refine c_region ?_
    refine m_field (j' := 2) (st_listV rfl) hR28 rfl rfl rfl Tryd.underlying32 rfl sz3 rfl rfl (by decide) (fun a31 hR32 => ?_)
    refine m_load (i := 0) (st_listV rfl) hR32 hS10 rfl rfl rfl rfl rfl Tryd.underlying3 rfl (by decide) (fun a33 hR34 => ?_)
    refine r_assign (st_listV rfl) hR34 rfl rfl rfl (by decide) (fun a35 hR36 => ?_)
    refine wpList_nil ?_
    refine x_then_n (hK30 _ _ ?_)
    refine wp_ret ?_
    refine x_block_r ?_
    refine x_then_r ?_
    refine e_ret1 hR36 rfl rfl rfl ?_
    refine ⟨?_, hS10.fr⟩
    exact congrArg Ending.returned (ret_i (by first | exact many_con hr (by omega) | exact many_elim hr (by omega) | exact many_oth (by omega) (by omega)))
  · skip
    have hR37 := hR26.setb (d := 5) (b := false) rfl (decide_eq_false h27)
    refine wp_cond_false (hR37.ev rfl) ?_
    refine wp_seq_k (fun K38 hK39 => ?_)
    refine c_region ?_
    refine r_eql (st_listV rfl) hR37 rfl rfl rfl rfl (by decide) (fun a40 hR41 => ?_)
    refine r_assign (st_listV rfl) hR41 rfl rfl rfl (by decide) (fun a42 hR43 => ?_)
    refine wpList_nil ?_
    refine x_then_n (hK39 _ _ ?_)
    rcases Decidable.em ((n.K) = 27) with h44 | h44
    · skip
      obtain ⟨he1, he2⟩ := right_elim hr h44
      have hR45 := hR43.setb (d := 9) (b := true) rfl (decide_eq_true h44)
      refine wp_cond_true (hR45.ev rfl) ?_
      refine wp_seq_k (fun K46 hK47 => ?_)
      refine c_region ?_
      refine m_field (j' := 2) (st_listV rfl) hR45 rfl rfl rfl Tryd.underlying32 rfl sz3 rfl rfl (by decide) (fun a48 hR49 => ?_)
      refine m_load (i := 0) (st_listV rfl) hR49 hS10 rfl rfl rfl rfl rfl Tryd.underlying3 rfl (by decide) (fun a50 hR51 => ?_)
      refine r_add (z := (n.M + 2)) (st_listV rfl) hR51 rfl rfl rfl rfl (by decide) (by omega) (by omega) (by omega) (fun a52 hR53 => ?_)
      refine r_assign (st_listV rfl) hR53 rfl rfl rfl (by decide) (fun a54 hR55 => ?_)
      refine wpList_nil ?_
      refine x_then_n (hK47 _ _ ?_)
      refine wp_ret ?_
      refine x_block_r ?_
      refine x_then_r ?_
      refine e_ret1 hR55 rfl rfl rfl ?_
      refine ⟨?_, hS10.fr⟩
      exact congrArg Ending.returned (ret_i (by first | exact many_con hr (by omega) | exact many_elim hr (by omega) | exact many_oth (by omega) (by omega)))
    · skip
      have hR56 := hR43.setb (d := 9) (b := false) rfl (decide_eq_false h44)
      refine wp_cond_false (hR56.ev rfl) ?_
      refine wp_skip ?_
      refine x_block_n ?_
      refine x_then_n (hK14 _ _ ?_)
      refine wp_seq_k (fun K57 hK58 => ?_)
      refine c_region ?_
      refine m_field (j' := 0) (st_listV rfl) hR56 rfl rfl rfl Tryd.underlying32 rfl sz3 rfl rfl (by decide) (fun a59 hR60 => ?_)
      refine m_load (i := 0) (st_listV rfl) hR60 hS10 rfl rfl rfl rfl rfl Tryd.underlying3 rfl (by decide) (fun a61 hR62 => ?_)
      refine m_indexA (i := ((n.K)).toNat) (j := (((n.K)).toNat) * 4) (st_listV rfl) hR62 rfl rfl rfl rfl Tryd.underlying130 sz129 (by omega) (by omega) rfl (by decide) (fun a63 hR64 => ?_)
      refine m_fieldE (j' := (((n.K)).toNat) * 4) (st_listV rfl) hR64 rfl rfl rfl rfl Tryd.underlying129 rfl sz66 rfl rfl (by decide) (fun a65 hR66 => ?_)
      obtain ⟨A67, c68, hd69, he70⟩ := shapes_at (hS10.get (i := 0) rfl) (((n.K)).toNat) (by omega)
      have hS71 := hS10.data (dRow 1 A67 (shp (((n.K)).toNat)).b.length c68 (encIs (shp (((n.K)).toNat)).b)) hd69
      refine m_loadE (st_listV rfl) hR66 rfl rfl rfl 0 ((((n.K)).toNat) * 4) he70 rfl rfl Tryd.underlying66 rfl (by decide) (fun a72 hR73 => ?_)
      refine r_len (st_listV rfl) hR73 rfl rfl rfl rfl Tryd.underlying66 (by decide) (fun a74 hR75 => ?_)
      refine r_assign (st_listV rfl) hR75 rfl rfl rfl (by decide) (fun a76 hR77 => ?_)
      refine wpList_nil ?_
      refine x_then_n (hK58 _ _ ?_)
      refine wp_ret ?_
      refine e_ret1 hR77 rfl rfl rfl ?_
      refine ⟨?_, hS71.fr⟩
      exact congrArg Ending.returned (ret_i (by first | exact many_con hr (by omega) | exact many_elim hr (by omega) | exact many_oth (by omega) (by omega)))

set_option maxRecDepth 100000 in
set_option maxHeartbeats 1000000 in
theorem name_calls (w0 : World) (Z : Nat → Prop) (hZ : ∀ k, Z k → k < w0.heap.size) (s : ByteArray) (hs : s.size < 1000000) :
    Calls Tryd.prog 128 [.string s].toArray w0 (fun e w' => e = .returned (.bool (nameOk s)) ∧ Fr none_ w0 w') := by
  have hstart : ∀ k, Z k → imm Z w0 [] w0 k ∧ w0.heap[k]? = w0.heap[k]? := fun k hk => ⟨⟨hZ k hk, fun _ => hk, fun _ h => by cases h⟩, rfl⟩
  have hS3 : St w0 Z none_ w0 [] [] := St.start w0 Z none_ _ (by
    intro d hd
    cases hd
    )
  refine c_enter Tryd.func128 rfl Tryd.ntmps128 rfl (fun a1 hR2 => ?_)
  refine wp_seq_k (fun K4 hK5 => ?_)
  refine c_region ?_
  refine r_assign (st_listV rfl) hR2 rfl rfl rfl (by decide) (fun a6 hR7 => ?_)
  refine wpList_nil ?_
  refine x_then_n (hK5 _ _ ?_)
  refine wp_seq_k (fun K8 hK9 => ?_)
  refine wp_seq_k (fun K10 hK11 => ?_)
  refine c_region ?_
  refine r_move (st_listV rfl) hR7 rfl rfl rfl (by decide) (fun a12 hR13 => ?_)
  refine r_lenS (st_listV rfl) hR13 rfl rfl rfl rfl Tryd.underlying9 (by decide) (fun a14 hR15 => ?_)
  refine r_move (st_listV rfl) hR15 rfl rfl rfl (by decide) (fun a16 hR17 => ?_)
  refine wpList_nil ?_
  refine x_then_n (hK11 _ _ ?_)
  refine wp_block ?_
  refine wp_loop_ghost (fun gn ga gw => ∃ k : Nat, (Reg ga 48 [(1000000, .bool false), (0, .string s), (7, .int .i64 ((s.size : Nat) : Int)), (8, .int .i64 ((k : Nat) : Int))]) ∧ (St w0 Z none_ gw [] []) ∧ (k ≤ s.size) ∧ (nameTo s k) ∧ (s.size - k) = gn) _ ⟨0, (Reg.cons hR17 (Reg.cons hR17 (Reg.cons hR17 (Reg.cons hR17 (hR17.nil) rfl) rfl) rfl) rfl), hS3, by omega, nameTo_zero s, rfl⟩ ?_
  rintro r18 a19 w20 ⟨k, hR21, hS22, hk, hi, hn23⟩
  refine wp_seq_k (fun K24 hK25 => ?_)
  refine c_region ?_
  refine r_lss (st_listV rfl) hR21 rfl rfl rfl rfl (by decide) (fun a26 hR27 => ?_)
  refine wpList_nil ?_
  refine x_then_n (hK25 _ _ ?_)
  refine wp_seq_k (fun K28 hK29 => ?_)
  rcases Decidable.em (((k : Nat) : Int) < ((s.size : Nat) : Int)) with h30 | h30
  · skip
    have hR31 := hR27.setb (d := 9) (b := true) rfl (decide_eq_true h30)
    refine wp_cond_true (hR31.ev rfl) ?_
    refine wp_skip ?_
    refine x_then_n (hK29 _ _ ?_)
    refine wp_seq_k (fun K32 hK33 => ?_)
    refine wp_block ?_
    refine wp_seq_k (fun K34 hK35 => ?_)
    refine c_region ?_
    refine r_move (st_listV rfl) hR31 rfl rfl rfl (by decide) (fun a36 hR37 => ?_)
    refine r_assign (st_listV rfl) hR37 rfl rfl rfl (by decide) (fun a38 hR39 => ?_)
    refine wpList_nil ?_
    refine x_then_n (hK35 _ _ ?_)
    refine wp_seq_k (fun K40 hK41 => ?_)
    refine c_region ?_
    refine r_move (st_listV rfl) hR39 rfl rfl rfl (by decide) (fun a42 hR43 => ?_)
    refine r_move (st_listV rfl) hR43 rfl rfl rfl (by decide) (fun a44 hR45 => ?_)
    refine r_byte (i := k) (st_listV rfl) hR45 rfl rfl rfl rfl Tryd.underlying9 (by omega) (by omega) (by decide) (fun a46 hR47 => ?_)
    refine r_assign (st_listV rfl) hR47 rfl rfl rfl (by decide) (fun a48 hR49 => ?_)
    refine wpList_nil ?_
    refine x_then_n (hK41 _ _ ?_)
    refine wp_seq_k (fun K50 hK51 => ?_)
    refine c_region ?_
    refine r_move (st_listV rfl) hR49 rfl rfl rfl (by decide) (fun a52 hR53 => ?_)
    refine r_int (v := .int .u8 ((orB (byteAt s k) 32 : Nat) : Int)) (st_listV rfl) hR53 rfl rfl rfl rfl (by decide) (run_or8 (a := byteAt s k) (b := 32) (by first | exact byteAt_lt _ _ | omega) (by first | exact byteAt_lt _ _ | omega)) (fun a54 hR55 => ?_)
    refine r_geq (st_listV rfl) hR55 rfl rfl rfl rfl (by decide) (fun a56 hR57 => ?_)
    refine r_move (st_listV rfl) hR57 rfl rfl rfl (by decide) (fun a58 hR59 => ?_)
    refine l_join (fun ga gw => Reg ga 48 [(0, .string s), (3, .int .i64 ((k : Nat) : Int)), (4, .int .u8 ((byteAt s k : Nat) : Int)), (7, .int .i64 ((s.size : Nat) : Int)), (8, .int .i64 ((k : Nat) : Int)), (21, .bool ((decide (97 ≤ ((orB (byteAt s k) 32 : Nat) : Int))) && (decide (((orB (byteAt s k) 32 : Nat) : Int) ≤ 122)))), (1000000, .bool false)] ∧ St w0 Z none_ gw [] []) 4 ?_ ?_
    · skip
      rcases Decidable.em (97 ≤ ((orB (byteAt s k) 32 : Nat) : Int)) with h60 | h60
      · skip
        have hR61 := hR59.setb (d := 17) (b := true) rfl (decide_eq_true h60)
        refine r_move (st_listV_w (want_t hR61 rfl rfl rfl (by decide) rfl)) hR61 rfl rfl rfl (by decide) (fun a62 hR63 => ?_)
        refine r_int (v := .int .u8 ((orB (byteAt s k) 32 : Nat) : Int)) (st_listV_w (want_t hR63 rfl rfl rfl (by decide) rfl)) hR63 rfl rfl rfl rfl (by decide) (run_or8 (a := byteAt s k) (b := 32) (by first | exact byteAt_lt _ _ | omega) (by first | exact byteAt_lt _ _ | omega)) (fun a64 hR65 => ?_)
        refine r_leq (st_listV_w (want_t hR65 rfl rfl rfl (by decide) rfl)) hR65 rfl rfl rfl rfl (by decide) (fun a66 hR67 => ?_)
        refine r_pick_t (st_listV rfl) hR67 rfl rfl rfl rfl (by decide) (fun a68 hR69 => ?_)
        refine wpList_nil ?_
        exact x_then_n ⟨(Reg.cons hR69 (Reg.cons hR69 (Reg.cons hR69 (Reg.cons hR69 (Reg.cons hR69 (Reg.consb hR69 (Reg.cons hR69 (hR69.nil) rfl) rfl (by first | rfl | (simp only [decide_eq_true h60, if_pos h60, Bool.true_and, Bool.and_true, Bool.false_and, Bool.and_false, Bool.true_or, Bool.or_true, Bool.false_or, Bool.or_false, Bool.not_true, Bool.not_false, if_true, ite_true, ite_false, Bool.false_eq_true]; done) | (simp [h60]; done) | (simp [h60]; omega))) rfl) rfl) rfl) rfl) rfl), hS22⟩
      · skip
        have hR70 := hR59.setb (d := 17) (b := false) rfl (decide_eq_false h60)
        refine s_pass hR70 rfl (by decide) (want_f hR70 rfl rfl rfl (by decide) rfl rfl) (fun a71 hR72 => ?_)
        refine s_pass hR72 rfl (by decide) (want_f hR72 rfl rfl rfl (by decide) rfl rfl) (fun a73 hR74 => ?_)
        refine s_pass hR74 rfl (by decide) (want_f hR74 rfl rfl rfl (by decide) rfl rfl) (fun a75 hR76 => ?_)
        refine r_pick_f (st_listV rfl) hR76 rfl rfl rfl rfl (by decide) (fun a77 hR78 => ?_)
        refine wpList_nil ?_
        exact x_then_n ⟨(Reg.cons hR78 (Reg.cons hR78 (Reg.cons hR78 (Reg.cons hR78 (Reg.cons hR78 (Reg.consb hR78 (Reg.cons hR78 (hR78.nil) rfl) rfl (by first | rfl | (simp only [decide_eq_false h60, if_neg h60, Bool.true_and, Bool.and_true, Bool.false_and, Bool.and_false, Bool.true_or, Bool.or_true, Bool.false_or, Bool.or_false, Bool.not_true, Bool.not_false, if_true, ite_true, ite_false, Bool.false_eq_true]; done) | (simp [h60]; done) | (simp [h60]; omega))) rfl) rfl) rfl) rfl) rfl), hS22⟩
    rintro a79 w80 ⟨hR81, hS82⟩
    refine r_move (st_listV rfl) hR81 rfl rfl rfl (by decide) (fun a83 hR84 => ?_)
    refine l_join (fun ga gw => Reg ga 48 [(0, .string s), (3, .int .i64 ((k : Nat) : Int)), (4, .int .u8 ((byteAt s k : Nat) : Int)), (7, .int .i64 ((s.size : Nat) : Int)), (8, .int .i64 ((k : Nat) : Int)), (25, .bool (((decide (97 ≤ ((orB (byteAt s k) 32 : Nat) : Int))) && (decide (((orB (byteAt s k) 32 : Nat) : Int) ≤ 122))) || (decide (((byteAt s k : Nat) : Int) = 95)))), (1000000, .bool false)] ∧ St w0 Z none_ gw [] []) 3 ?_ ?_
    · skip
      rcases Bool.eq_false_or_eq_true (((decide (97 ≤ ((orB (byteAt s k) 32 : Nat) : Int))) && (decide (((orB (byteAt s k) 32 : Nat) : Int) ≤ 122)))) with h85 | h85
      · skip
        have h86 := and_tl h85
        have h87 := of_decide_eq_true h86
        have h88 := and_tr h85
        have h89 := of_decide_eq_true h88
        have hR90 := hR84.setb (d := 22) (b := true) rfl h85
        refine s_pass hR90 rfl (by decide) (want_f hR90 rfl rfl rfl (by decide) rfl rfl) (fun a91 hR92 => ?_)
        refine s_pass hR92 rfl (by decide) (want_f hR92 rfl rfl rfl (by decide) rfl rfl) (fun a93 hR94 => ?_)
        refine r_pick_t (st_listV rfl) hR94 rfl rfl rfl rfl (by decide) (fun a95 hR96 => ?_)
        refine wpList_nil ?_
        exact x_then_n ⟨(Reg.cons hR96 (Reg.cons hR96 (Reg.cons hR96 (Reg.cons hR96 (Reg.cons hR96 (Reg.consb hR96 (Reg.cons hR96 (hR96.nil) rfl) rfl (by first | rfl | (simp only [h85, Bool.true_and, Bool.and_true, Bool.false_and, Bool.and_false, Bool.true_or, Bool.or_true, Bool.false_or, Bool.or_false, Bool.not_true, Bool.not_false, if_true, ite_true, ite_false, Bool.false_eq_true]; done) | (simp [h85]; done) | (simp [h85]; omega))) rfl) rfl) rfl) rfl) rfl), hS82⟩
      · skip
        have hq97 := h85
        try simp only [Bool.or_eq_true, Bool.and_eq_true, Bool.not_eq_true', Bool.not_eq_false', decide_eq_true_eq, decide_eq_false_iff_not, Bool.or_eq_false_iff, Bool.and_eq_false_iff] at hq97
        have hR98 := hR84.setb (d := 22) (b := false) rfl h85
        refine r_move (st_listV_w (want_t hR98 rfl rfl rfl (by decide) rfl)) hR98 rfl rfl rfl (by decide) (fun a99 hR100 => ?_)
        refine r_eql (st_listV_w (want_t hR100 rfl rfl rfl (by decide) rfl)) hR100 rfl rfl rfl rfl (by decide) (fun a101 hR102 => ?_)
        refine r_pick_f (st_listV rfl) hR102 rfl rfl rfl rfl (by decide) (fun a103 hR104 => ?_)
        refine wpList_nil ?_
        exact x_then_n ⟨(Reg.cons hR104 (Reg.cons hR104 (Reg.cons hR104 (Reg.cons hR104 (Reg.cons hR104 (Reg.consb hR104 (Reg.cons hR104 (hR104.nil) rfl) rfl (by first | rfl | (simp only [h85, Bool.true_and, Bool.and_true, Bool.false_and, Bool.and_false, Bool.true_or, Bool.or_true, Bool.false_or, Bool.or_false, Bool.not_true, Bool.not_false, if_true, ite_true, ite_false, Bool.false_eq_true]; done) | (simp [h85]; done) | (simp [h85]; omega))) rfl) rfl) rfl) rfl) rfl), hS82⟩
    rintro a105 w106 ⟨hR107, hS108⟩
    refine r_assign (st_listV rfl) hR107 rfl rfl rfl (by decide) (fun a109 hR110 => ?_)
    refine wpList_nil ?_
    refine x_then_n (hK51 _ _ ?_)
    refine wp_seq_k (fun K111 hK112 => ?_)
    refine c_region ?_
    refine r_move (st_listV rfl) hR110 rfl rfl rfl (by decide) (fun a113 hR114 => ?_)
    refine r_not (st_listV rfl) hR114 rfl rfl rfl (by decide) (fun a115 hR116 => ?_)
    refine r_move (st_listV rfl) hR116 rfl rfl rfl (by decide) (fun a117 hR118 => ?_)
    refine l_join (fun ga gw => Reg ga 48 [(0, .string s), (7, .int .i64 ((s.size : Nat) : Int)), (8, .int .i64 ((k : Nat) : Int)), (39, .bool ((!(((decide (97 ≤ ((orB (byteAt s k) 32 : Nat) : Int))) && (decide (((orB (byteAt s k) 32 : Nat) : Int) ≤ 122))) || (decide (((byteAt s k : Nat) : Int) = 95)))) && ((decide (((k : Nat) : Int) = 0)) || ((decide (((byteAt s k : Nat) : Int) < 48)) || (decide (57 < ((byteAt s k : Nat) : Int))))))), (1000000, .bool false)] ∧ St w0 Z none_ gw [] []) 11 ?_ ?_
    · skip
      rcases Bool.eq_false_or_eq_true ((((decide (97 ≤ ((orB (byteAt s k) 32 : Nat) : Int))) && (decide (((orB (byteAt s k) 32 : Nat) : Int) ≤ 122))) || (decide (((byteAt s k : Nat) : Int) = 95)))) with h119 | h119
      · skip
        have hq120 := h119
        try simp only [Bool.or_eq_true, Bool.and_eq_true, Bool.not_eq_true', Bool.not_eq_false', decide_eq_true_eq, decide_eq_false_iff_not, Bool.or_eq_false_iff, Bool.and_eq_false_iff] at hq120
        have hR121 := hR118.setb (d := 28) (b := false) rfl (by rw [h119]; rfl)
        refine s_pass hR121 rfl (by decide) (want_f hR121 rfl rfl rfl (by decide) rfl rfl) (fun a122 hR123 => ?_)
        refine s_pass hR123 rfl (by decide) (want_f hR123 rfl rfl rfl (by decide) rfl rfl) (fun a124 hR125 => ?_)
        refine s_pass hR125 rfl (by decide) (want_f hR125 rfl rfl rfl (by decide) rfl rfl) (fun a126 hR127 => ?_)
        refine s_pass hR127 rfl (by decide) (want_u hR127 rfl rfl rfl (by decide) rfl) (fun a128 hR129 => ?_)
        refine s_pass hR129 rfl (by decide) (want_u hR129 rfl rfl rfl (by decide) rfl) (fun a130 hR131 => ?_)
        refine s_pass hR131 rfl (by decide) (want_f hR131 rfl rfl rfl (by decide) rfl rfl) (fun a132 hR133 => ?_)
        refine s_pass hR133 rfl (by decide) (want_f hR133 rfl rfl rfl (by decide) rfl rfl) (fun a134 hR135 => ?_)
        refine s_pass hR135 rfl (by decide) (want_u hR135 rfl rfl rfl (by decide) rfl) (fun a136 hR137 => ?_)
        refine s_pass hR137 rfl (by decide) (want_u hR137 rfl rfl rfl (by decide) rfl) (fun a138 hR139 => ?_)
        refine s_pass hR139 rfl (by decide) (want_f hR139 rfl rfl rfl (by decide) rfl rfl) (fun a140 hR141 => ?_)
        refine r_pick_f (st_listV rfl) hR141 rfl rfl rfl rfl (by decide) (fun a142 hR143 => ?_)
        refine wpList_nil ?_
        exact x_then_n ⟨(Reg.cons hR143 (Reg.cons hR143 (Reg.cons hR143 (Reg.consb hR143 (Reg.cons hR143 (hR143.nil) rfl) rfl (by first | rfl | (simp only [h119, Bool.true_and, Bool.and_true, Bool.false_and, Bool.and_false, Bool.true_or, Bool.or_true, Bool.false_or, Bool.or_false, Bool.not_true, Bool.not_false, if_true, ite_true, ite_false, Bool.false_eq_true]; done) | (simp [h119]; done) | (simp [h119]; omega))) rfl) rfl) rfl), hS108⟩
      · skip
        have h144 := or_fl h119
        have hq145 := h144
        try simp only [Bool.or_eq_true, Bool.and_eq_true, Bool.not_eq_true', Bool.not_eq_false', decide_eq_true_eq, decide_eq_false_iff_not, Bool.or_eq_false_iff, Bool.and_eq_false_iff] at hq145
        have h146 := or_fr h119
        have h147 := of_decide_eq_false h146
        have hR148 := hR118.setb (d := 28) (b := true) rfl (by rw [h119]; rfl)
        refine r_move (st_listV_w (want_t hR148 rfl rfl rfl (by decide) rfl)) hR148 rfl rfl rfl (by decide) (fun a149 hR150 => ?_)
        refine r_eql (st_listV_w (want_t hR150 rfl rfl rfl (by decide) rfl)) hR150 rfl rfl rfl rfl (by decide) (fun a151 hR152 => ?_)
        refine r_move (st_listV_w (want_t hR152 rfl rfl rfl (by decide) rfl)) hR152 rfl rfl rfl (by decide) (fun a153 hR154 => ?_)
        rcases Decidable.em (((k : Nat) : Int) = 0) with h155 | h155
        · skip
          have hR156 := hR154.setb (d := 31) (b := true) rfl (decide_eq_true h155)
          refine s_pass hR156 rfl (by decide) (want_f hR156 rfl rfl rfl (by decide) rfl rfl) (fun a157 hR158 => ?_)
          refine s_pass hR158 rfl (by decide) (want_f hR158 rfl rfl rfl (by decide) rfl rfl) (fun a159 hR160 => ?_)
          refine r_pick_t (st_listV_w (want_t hR160 rfl rfl rfl (by decide) rfl)) hR160 rfl rfl rfl rfl (by decide) (fun a161 hR162 => ?_)
          refine r_move (st_listV_w (want_t hR162 rfl rfl rfl (by decide) rfl)) hR162 rfl rfl rfl (by decide) (fun a163 hR164 => ?_)
          refine s_pass hR164 rfl (by decide) (want_f hR164 rfl rfl rfl (by decide) rfl rfl) (fun a165 hR166 => ?_)
          refine s_pass hR166 rfl (by decide) (want_f hR166 rfl rfl rfl (by decide) rfl rfl) (fun a167 hR168 => ?_)
          refine r_pick_t (st_listV_w (want_t hR168 rfl rfl rfl (by decide) rfl)) hR168 rfl rfl rfl rfl (by decide) (fun a169 hR170 => ?_)
          refine r_pick_t (st_listV rfl) hR170 rfl rfl rfl rfl (by decide) (fun a171 hR172 => ?_)
          refine wpList_nil ?_
          exact x_then_n ⟨(Reg.cons hR172 (Reg.cons hR172 (Reg.cons hR172 (Reg.consb hR172 (Reg.cons hR172 (hR172.nil) rfl) rfl (by first | rfl | (simp only [h119, decide_eq_true h155, if_pos h155, Bool.true_and, Bool.and_true, Bool.false_and, Bool.and_false, Bool.true_or, Bool.or_true, Bool.false_or, Bool.or_false, Bool.not_true, Bool.not_false, if_true, ite_true, ite_false, Bool.false_eq_true]; done) | (simp [h119, h155]; done) | (simp [h119, h155]; omega))) rfl) rfl) rfl), hS108⟩
        · skip
          have hR173 := hR154.setb (d := 31) (b := false) rfl (decide_eq_false h155)
          refine r_move (st_listV_w (want_t hR173 rfl rfl rfl (by decide) rfl)) hR173 rfl rfl rfl (by decide) (fun a174 hR175 => ?_)
          refine r_lss (st_listV_w (want_t hR175 rfl rfl rfl (by decide) rfl)) hR175 rfl rfl rfl rfl (by decide) (fun a176 hR177 => ?_)
          refine r_pick_f (st_listV_w (want_t hR177 rfl rfl rfl (by decide) rfl)) hR177 rfl rfl rfl rfl (by decide) (fun a178 hR179 => ?_)
          refine r_move (st_listV_w (want_t hR179 rfl rfl rfl (by decide) rfl)) hR179 rfl rfl rfl (by decide) (fun a180 hR181 => ?_)
          rcases Decidable.em (((byteAt s k : Nat) : Int) < 48) with h182 | h182
          · skip
            have hR183 := hR181.setb (d := 35) (b := true) rfl (decide_eq_true h182)
            refine s_pass hR183 rfl (by decide) (want_f hR183 rfl rfl rfl (by decide) rfl rfl) (fun a184 hR185 => ?_)
            refine s_pass hR185 rfl (by decide) (want_f hR185 rfl rfl rfl (by decide) rfl rfl) (fun a186 hR187 => ?_)
            refine r_pick_t (st_listV_w (want_t hR187 rfl rfl rfl (by decide) rfl)) hR187 rfl rfl rfl rfl (by decide) (fun a188 hR189 => ?_)
            refine r_pick_t (st_listV rfl) hR189 rfl rfl rfl rfl (by decide) (fun a190 hR191 => ?_)
            refine wpList_nil ?_
            exact x_then_n ⟨(Reg.cons hR191 (Reg.cons hR191 (Reg.cons hR191 (Reg.consb hR191 (Reg.cons hR191 (hR191.nil) rfl) rfl (by first | rfl | (simp only [h119, decide_eq_false h155, if_neg h155, decide_eq_true h182, if_pos h182, Bool.true_and, Bool.and_true, Bool.false_and, Bool.and_false, Bool.true_or, Bool.or_true, Bool.false_or, Bool.or_false, Bool.not_true, Bool.not_false, if_true, ite_true, ite_false, Bool.false_eq_true]; done) | (simp [h119, h155, h182]; done) | (simp [h119, h155, h182]; omega))) rfl) rfl) rfl), hS108⟩
          · skip
            have hR192 := hR181.setb (d := 35) (b := false) rfl (decide_eq_false h182)
            refine r_move (st_listV_w (want_t hR192 rfl rfl rfl (by decide) rfl)) hR192 rfl rfl rfl (by decide) (fun a193 hR194 => ?_)
            refine r_gtr (st_listV_w (want_t hR194 rfl rfl rfl (by decide) rfl)) hR194 rfl rfl rfl rfl (by decide) (fun a195 hR196 => ?_)
            refine r_pick_f (st_listV_w (want_t hR196 rfl rfl rfl (by decide) rfl)) hR196 rfl rfl rfl rfl (by decide) (fun a197 hR198 => ?_)
            refine r_pick_t (st_listV rfl) hR198 rfl rfl rfl rfl (by decide) (fun a199 hR200 => ?_)
            refine wpList_nil ?_
            exact x_then_n ⟨(Reg.cons hR200 (Reg.cons hR200 (Reg.cons hR200 (Reg.consb hR200 (Reg.cons hR200 (hR200.nil) rfl) rfl (by first | rfl | (simp only [h119, decide_eq_false h155, if_neg h155, decide_eq_false h182, if_neg h182, Bool.true_and, Bool.and_true, Bool.false_and, Bool.and_false, Bool.true_or, Bool.or_true, Bool.false_or, Bool.or_false, Bool.not_true, Bool.not_false, if_true, ite_true, ite_false, Bool.false_eq_true]; done) | (simp [h119, h155, h182]; done) | (simp [h119, h155, h182]; omega))) rfl) rfl) rfl), hS108⟩
    rintro a201 w202 ⟨hR203, hS204⟩
    refine wpList_nil ?_
    refine x_then_n (hK112 _ _ ?_)
    rcases Bool.eq_false_or_eq_true (((!(((decide (97 ≤ ((orB (byteAt s k) 32 : Nat) : Int))) && (decide (((orB (byteAt s k) 32 : Nat) : Int) ≤ 122))) || (decide (((byteAt s k : Nat) : Int) = 95)))) && ((decide (((k : Nat) : Int) = 0)) || ((decide (((byteAt s k : Nat) : Int) < 48)) || (decide (57 < ((byteAt s k : Nat) : Int))))))) with h205 | h205
    · skip
      have h206 := and_tl h205
      have h207 := not_t h206
      have h208 := or_fl h207
      have hq209 := h208
      try simp only [Bool.or_eq_true, Bool.and_eq_true, Bool.not_eq_true', Bool.not_eq_false', decide_eq_true_eq, decide_eq_false_iff_not, Bool.or_eq_false_iff, Bool.and_eq_false_iff] at hq209
      have h210 := or_fr h207
      have h211 := of_decide_eq_false h210
      have h212 := and_tr h205
      have hq213 := h212
      try simp only [Bool.or_eq_true, Bool.and_eq_true, Bool.not_eq_true', Bool.not_eq_false', decide_eq_true_eq, decide_eq_false_iff_not, Bool.or_eq_false_iff, Bool.and_eq_false_iff] at hq213
      have hR214 := hR203.setb (d := 39) (b := true) rfl h205
      refine wp_cond_true (hR214.ev rfl) ?_
      refine wp_seq_k (fun K215 hK216 => ?_)
      refine c_region ?_
      refine r_assign (st_listV rfl) hR214 rfl rfl rfl (by decide) (fun a217 hR218 => ?_)
      refine wpList_nil ?_
      refine x_then_n (hK216 _ _ ?_)
      refine wp_ret ?_
      refine x_block_r ?_
      refine x_then_r ?_
      refine x_then_r ?_
      refine x_block_r ?_
      refine x_then_r ?_
      refine e_ret1 hR218 rfl rfl rfl ?_
      refine ⟨?_, hS204.fr⟩
      exact congrArg Ending.returned (ret_b (by first | exact (name_bad (k := k) (by omega) (by have q0 := h30; (try simp at q0); have q1 := h205; (try simp at q1); have q2 := h211; (try simp at q2);  unfold okC; omega)).symm | (rw [name_end hi (by omega)]; done) | (rw [name_end hi (by omega)]; simp [h30, h205, h211])))
    · skip
      have hq219 := h205
      try simp only [Bool.or_eq_true, Bool.and_eq_true, Bool.not_eq_true', Bool.not_eq_false', decide_eq_true_eq, decide_eq_false_iff_not, Bool.or_eq_false_iff, Bool.and_eq_false_iff] at hq219
      have hR220 := hR203.setb (d := 39) (b := false) rfl h205
      refine wp_cond_false (hR220.ev rfl) ?_
      refine wp_skip ?_
      refine x_block_n ?_
      refine x_then_n (hK33 _ _ ?_)
      refine c_region ?_
      refine r_add (z := ((k + 1 : Nat) : Int)) (st_listV rfl) hR220 rfl rfl rfl rfl (by decide) (by omega) (by omega) (by omega) (fun a221 hR222 => ?_)
      refine r_move (st_listV rfl) hR222 rfl rfl rfl (by decide) (fun a223 hR224 => ?_)
      refine wpList_nil ?_
      exact ⟨_, by omega, k + 1, (Reg.cons hR224 (Reg.cons hR224 (Reg.cons hR224 (Reg.cons hR224 (hR224.nil) rfl) rfl) rfl) rfl), hS204, by omega, nameTo_step hi (by have q0 := h30; (try simp at q0); have q1 := h205; (try simp at q1);  unfold okC; omega), rfl⟩
  · skip
    have hR225 := hR27.setb (d := 9) (b := false) rfl (decide_eq_false h30)
    refine wp_cond_false (hR225.ev rfl) ?_
    refine wp_exit ?_
    refine x_then_e ?_
    refine x_then_e ?_
    refine x_block_eq ?_
    refine x_then_n (hK9 _ _ ?_)
    refine wp_seq_k (fun K226 hK227 => ?_)
    refine c_region ?_
    refine r_move (st_listV rfl) hR225 rfl rfl rfl (by decide) (fun a228 hR229 => ?_)
    refine r_neqS (st_listV rfl) hR229 rfl rfl rfl rfl (by decide) (fun a230 hR231 => ?_)
    refine r_move (st_listV rfl) hR231 rfl rfl rfl (by decide) (fun a232 hR233 => ?_)
    refine l_join (fun ga gw => Reg ga 48 [(47, .bool ((!(decide (s = (⟨#[]⟩ : ByteArray)))) && (decide (((s.size : Nat) : Int) ≤ 16)))), (1000000, .bool false)] ∧ St w0 Z none_ gw [] []) 4 ?_ ?_
    · skip
      rcases Decidable.em (s = (⟨#[]⟩ : ByteArray)) with h234 | h234
      · skip
        have hR235 := hR233.setb (d := 43) (b := false) rfl (by rw [(decide_eq_true h234)]; rfl)
        refine s_pass hR235 rfl (by decide) (want_f hR235 rfl rfl rfl (by decide) rfl rfl) (fun a236 hR237 => ?_)
        refine s_pass hR237 rfl (by decide) (want_f hR237 rfl rfl rfl (by decide) rfl rfl) (fun a238 hR239 => ?_)
        refine s_pass hR239 rfl (by decide) (want_f hR239 rfl rfl rfl (by decide) rfl rfl) (fun a240 hR241 => ?_)
        refine r_pick_f (st_listV rfl) hR241 rfl rfl rfl rfl (by decide) (fun a242 hR243 => ?_)
        refine wpList_nil ?_
        exact x_then_n ⟨(Reg.consb hR243 (Reg.cons hR243 (hR243.nil) rfl) rfl (by first | rfl | (simp only [decide_eq_true h234, if_pos h234, Bool.true_and, Bool.and_true, Bool.false_and, Bool.and_false, Bool.true_or, Bool.or_true, Bool.false_or, Bool.or_false, Bool.not_true, Bool.not_false, if_true, ite_true, ite_false, Bool.false_eq_true]; done) | (simp [h234]; done) | (simp [h234]; omega))), hS22⟩
      · skip
        have hR244 := hR233.setb (d := 43) (b := true) rfl (by rw [(decide_eq_false h234)]; rfl)
        refine r_move (st_listV_w (want_t hR244 rfl rfl rfl (by decide) rfl)) hR244 rfl rfl rfl (by decide) (fun a245 hR246 => ?_)
        refine r_lenS (st_listV_w (want_t hR246 rfl rfl rfl (by decide) rfl)) hR246 rfl rfl rfl rfl Tryd.underlying9 (by decide) (fun a247 hR248 => ?_)
        refine r_leq (st_listV_w (want_t hR248 rfl rfl rfl (by decide) rfl)) hR248 rfl rfl rfl rfl (by decide) (fun a249 hR250 => ?_)
        refine r_pick_t (st_listV rfl) hR250 rfl rfl rfl rfl (by decide) (fun a251 hR252 => ?_)
        refine wpList_nil ?_
        exact x_then_n ⟨(Reg.consb hR252 (Reg.cons hR252 (hR252.nil) rfl) rfl (by first | rfl | (simp only [decide_eq_false h234, if_neg h234, Bool.true_and, Bool.and_true, Bool.false_and, Bool.and_false, Bool.true_or, Bool.or_true, Bool.false_or, Bool.or_false, Bool.not_true, Bool.not_false, if_true, ite_true, ite_false, Bool.false_eq_true]; done) | (simp [h234]; done) | (simp [h234]; omega))), hS22⟩
    rintro a253 w254 ⟨hR255, hS256⟩
    refine r_assign (st_listV rfl) hR255 rfl rfl rfl (by decide) (fun a257 hR258 => ?_)
    refine wpList_nil ?_
    refine x_then_n (hK227 _ _ ?_)
    refine wp_ret ?_
    refine e_ret1 hR258 rfl rfl rfl ?_
    refine ⟨?_, hS256.fr⟩
    exact congrArg Ending.returned (ret_b (by first | exact (name_bad (k := k) (by omega) (by have q0 := h30; (try simp at q0);  unfold okC; omega)).symm | (rw [name_end hi (by omega)]; done) | (rw [name_end hi (by omega)]; simp [h30])))
end Go.Proofs.YtobgdeffhdefeaaDoor
/- Contracts of functions, one theorem each: what the call returns, and that nothing old is changed. Printed by gen.py. -/
namespace Go.Proofs.YtobgdeffhdefeaaDoor
open Go Go.RowKit
set_option linter.unusedSimpArgs false
set_option linter.unusedVariables false

set_option maxRecDepth 100000 in
set_option maxHeartbeats 1000000 in
theorem right_calls (w0 : World) (Z : Nat → Prop) (hZ : ∀ k, Z k → k < w0.heap.size) (n : Nd) (hShp : Shapes w0 Z) (hs : n.S.size < 1000000) :
    Calls Tryd.prog 112 [.agg #[.int .i64 (n.K), .int .i64 (n.N), .int .i64 (n.M), .string n.S]].toArray w0 (fun e w' => e = .returned (.bool (right n)) ∧ Fr none_ w0 w') := by
  have hstart : ∀ k, Z k → imm Z w0 [] w0 k ∧ w0.heap[k]? = w0.heap[k]? := fun k hk => ⟨⟨hZ k hk, fun _ => hk, fun _ h => by cases h⟩, rfl⟩
  have hS3 : St w0 Z none_ w0 [] [dShapes] := St.start w0 Z none_ _ (by
    intro d hd
    simp only [List.mem_cons, List.not_mem_nil, or_false] at hd
    rcases hd with rfl
    · exact Dat.mono _ _ _ _ _ (Nat.le_refl _) hShp hstart
    )
  refine c_enter Tryd.func112 rfl Tryd.ntmps112 rfl (fun a1 hR2 => ?_)
  refine wp_seq_k (fun K4 hK5 => ?_)
  refine c_region ?_
  refine m_box (cs := [.int .i64 (n.K), .int .i64 (n.N), .int .i64 (n.M), .string n.S]) (st_listV rfl) hR2 hS3 rfl rfl rfl rfl (by decide) (fun a6 w7 g8 hR9 hS10 => ?_)
  refine r_assign (st_listV rfl) hR9 rfl rfl rfl (by decide) (fun a11 hR12 => ?_)
  refine wpList_nil ?_
  refine x_then_n (hK5 _ _ ?_)
  refine wp_seq_k (fun K13 hK14 => ?_)
  refine wp_seq_k (fun K15 hK16 => ?_)
  refine c_region ?_
  refine m_field (j' := 0) (st_listV rfl) hR12 rfl rfl rfl Tryd.underlying32 rfl sz3 rfl rfl (by decide) (fun a17 hR18 => ?_)
  refine m_load (i := 0) (st_listV rfl) hR18 hS10 rfl rfl rfl rfl rfl Tryd.underlying3 rfl (by decide) (fun a19 hR20 => ?_)
  refine r_lss (st_listV rfl) hR20 rfl rfl rfl rfl (by decide) (fun a21 hR22 => ?_)
  refine r_move (st_listV rfl) hR22 rfl rfl rfl (by decide) (fun a23 hR24 => ?_)
  refine l_join (fun ga gw => Reg ga 110 [(1, .pointer (some ⟨g8, 0, none⟩)), (2, .bool false), (11, .bool ((decide ((n.K) < 0)) || (decide (30 ≤ (n.K))))), (1000000, .bool false)] ∧ St w0 Z none_ gw [.box g8 32 [.int .i64 (n.K), .int .i64 (n.N), .int .i64 (n.M), .string n.S]] [dShapes]) 4 ?_ ?_
  · skip
    rcases Decidable.em ((n.K) < 0) with h25 | h25
    · skip
      have hR26 := hR24.setb (d := 7) (b := true) rfl (decide_eq_true h25)
      refine s_pass hR26 rfl (by decide) (want_f hR26 rfl rfl rfl (by decide) rfl rfl) (fun a27 hR28 => ?_)
      refine s_pass hR28 rfl (by decide) (want_f hR28 rfl rfl rfl (by decide) rfl rfl) (fun a29 hR30 => ?_)
      refine s_pass hR30 rfl (by decide) (want_f hR30 rfl rfl rfl (by decide) rfl rfl) (fun a31 hR32 => ?_)
      refine r_pick_t (st_listV rfl) hR32 rfl rfl rfl rfl (by decide) (fun a33 hR34 => ?_)
      refine wpList_nil ?_
      exact x_then_n ⟨(Reg.cons hR34 (Reg.cons hR34 (Reg.consb hR34 (Reg.cons hR34 (hR34.nil) rfl) rfl (by first | rfl | (simp only [decide_eq_true h25, if_pos h25, Bool.true_and, Bool.and_true, Bool.false_and, Bool.and_false, Bool.true_or, Bool.or_true, Bool.false_or, Bool.or_false, Bool.not_true, Bool.not_false, if_true, ite_true, ite_false, Bool.false_eq_true]; done) | (simp [h25]; done) | (simp [h25]; omega))) rfl) rfl), hS10⟩
    · skip
      have hR35 := hR24.setb (d := 7) (b := false) rfl (decide_eq_false h25)
      refine m_field (j' := 0) (st_listV_w (want_t hR35 rfl rfl rfl (by decide) rfl)) hR35 rfl rfl rfl Tryd.underlying32 rfl sz3 rfl rfl (by decide) (fun a36 hR37 => ?_)
      refine m_load (i := 0) (st_listV_w (want_t hR37 rfl rfl rfl (by decide) rfl)) hR37 hS10 rfl rfl rfl rfl rfl Tryd.underlying3 rfl (by decide) (fun a38 hR39 => ?_)
      refine r_geq (st_listV_w (want_t hR39 rfl rfl rfl (by decide) rfl)) hR39 rfl rfl rfl rfl (by decide) (fun a40 hR41 => ?_)
      refine r_pick_f (st_listV rfl) hR41 rfl rfl rfl rfl (by decide) (fun a42 hR43 => ?_)
      refine wpList_nil ?_
      exact x_then_n ⟨(Reg.cons hR43 (Reg.cons hR43 (Reg.consb hR43 (Reg.cons hR43 (hR43.nil) rfl) rfl (by first | rfl | (simp only [decide_eq_false h25, if_neg h25, Bool.true_and, Bool.and_true, Bool.false_and, Bool.and_false, Bool.true_or, Bool.or_true, Bool.false_or, Bool.or_false, Bool.not_true, Bool.not_false, if_true, ite_true, ite_false, Bool.false_eq_true]; done) | (simp [h25]; done) | (simp [h25]; omega))) rfl) rfl), hS10⟩
  rintro a44 w45 ⟨hR46, hS47⟩
  refine wpList_nil ?_
  refine x_then_n (hK16 _ _ ?_)
  rcases Bool.eq_false_or_eq_true (((decide ((n.K) < 0)) || (decide (30 ≤ (n.K))))) with h48 | h48
  · skip
    have hq49 := h48
    try simp only [Bool.or_eq_true, Bool.and_eq_true, Bool.not_eq_true', Bool.not_eq_false', decide_eq_true_eq, decide_eq_false_iff_not, Bool.or_eq_false_iff, Bool.and_eq_false_iff] at hq49
    have hR50 := hR46.setb (d := 11) (b := true) rfl h48
    refine wp_cond_true (hR50.ev rfl) ?_
    refine wp_seq_k (fun K51 hK52 => ?_)
    refine c_region ?_
    refine r_assign (st_listV rfl) hR50 rfl rfl rfl (by decide) (fun a53 hR54 => ?_)
    refine wpList_nil ?_
    refine x_then_n (hK52 _ _ ?_)
    refine wp_ret ?_
    refine x_then_r ?_
    refine e_ret1 hR54 rfl rfl rfl ?_
    refine ⟨?_, hS47.fr⟩
    exact congrArg Ending.returned (ret_b (by exact (right_bad (by omega)).symm))
  · skip
    have h55 := or_fl h48
    have h56 := of_decide_eq_false h55
    have h57 := or_fr h48
    have h58 := of_decide_eq_false h57
    have hR59 := hR46.setb (d := 11) (b := false) rfl h48
    refine wp_cond_false (hR59.ev rfl) ?_
    refine wp_skip ?_
    refine x_then_n (hK14 _ _ ?_)
    refine wp_seq_k (fun K60 hK61 => ?_)
    refine c_region ?_
    refine m_field (j' := 0) (st_listV rfl) hR59 rfl rfl rfl Tryd.underlying32 rfl sz3 rfl rfl (by decide) (fun a62 hR63 => ?_)
    refine m_load (i := 0) (st_listV rfl) hR63 hS47 rfl rfl rfl rfl rfl Tryd.underlying3 rfl (by decide) (fun a64 hR65 => ?_)
    refine m_indexA (i := ((n.K)).toNat) (j := (((n.K)).toNat) * 4) (st_listV rfl) hR65 rfl rfl rfl rfl Tryd.underlying130 sz129 (by omega) (by omega) rfl (by decide) (fun a66 hR67 => ?_)
    obtain ⟨A68, c69, hd70, he71⟩ := shapes_at (hS47.get (i := 0) rfl) (((n.K)).toNat) (by omega)
    have hS72 := hS47.data (dRow 1 A68 (shp (((n.K)).toNat)).b.length c69 (encIs (shp (((n.K)).toNat)).b)) hd70
    refine m_loadEN (st_listV rfl) hR67 rfl rfl rfl he71 Tryd.underlying129 rfl sz129 (by decide) (fun a73 hR74 => ?_)
    refine m_alloc (cs := [.slice none 0 0, .bool false, .bool false, .bool false]) (st_listV rfl) hR74 hS72 rfl rfl ze129 rfl (by decide) (fun a75 w76 g77 hR78 hS79 => ?_)
    refine m_store (i := 1) (cs' := [.slice A68 ((shp (((n.K)).toNat)).b.length) c69, .bool ((shp (((n.K)).toNat)).n), .bool ((shp (((n.K)).toNat)).m), .bool ((shp (((n.K)).toNat)).s)]) (st_list rfl) hR78 hS79 rfl rfl rfl rfl rfl sz129 rfl rfl rfl (fun a80 w81 hR82 hS83 => ?_)
    refine wpList_nil ?_
    refine x_then_n (hK61 _ _ ?_)
    refine wp_seq_k (fun K84 hK85 => ?_)
    refine wp_block ?_
    refine c_join (fun ga gw => Reg ga 110 [(1, .pointer (some ⟨g8, 0, none⟩)), (2, .bool false), (3, .pointer (some ⟨g77, 0, none⟩)), (16, .bool (((!((shp (((n.K)).toNat)).n)) && (!(decide ((n.N) = 0)))) || (((!((shp (((n.K)).toNat)).m)) && (!(decide ((n.M) = 0)))) || (((!((shp (((n.K)).toNat)).s)) && (!(decide (n.S = (⟨#[]⟩ : ByteArray))))) || (((shp (((n.K)).toNat)).s) && (!(nameOk n.S))))))), (1000000, .bool false)] ∧ St w0 Z none_ gw [.box g8 32 [.int .i64 (n.K), .int .i64 (n.N), .int .i64 (n.M), .string n.S], .box g77 129 [.slice A68 ((shp (((n.K)).toNat)).b.length) c69, .bool ((shp (((n.K)).toNat)).n), .bool ((shp (((n.K)).toNat)).m), .bool ((shp (((n.K)).toNat)).s)]] [dShapes, dRow 1 A68 (shp (((n.K)).toNat)).b.length c69 (encIs (shp (((n.K)).toNat)).b)]) ?_ ?_
    · skip
      refine wp_seq_k (fun K86 hK87 => ?_)
      refine c_region ?_
      refine m_field (j' := 1) (st_listV rfl) hR82 rfl rfl rfl Tryd.underlying129 rfl sz4 rfl rfl (by decide) (fun a88 hR89 => ?_)
      refine m_load (i := 1) (st_listV rfl) hR89 hS83 rfl rfl rfl rfl rfl Tryd.underlying4 rfl (by decide) (fun a90 hR91 => ?_)
      refine r_not (st_listV rfl) hR91 rfl rfl rfl (by decide) (fun a92 hR93 => ?_)
      refine r_move (st_listV rfl) hR93 rfl rfl rfl (by decide) (fun a94 hR95 => ?_)
      refine l_join (fun ga gw => Reg ga 110 [(1, .pointer (some ⟨g8, 0, none⟩)), (2, .bool false), (3, .pointer (some ⟨g77, 0, none⟩)), (24, .bool ((!((shp (((n.K)).toNat)).n)) && (!(decide ((n.N) = 0))))), (1000000, .bool false)] ∧ St w0 Z none_ gw [.box g8 32 [.int .i64 (n.K), .int .i64 (n.N), .int .i64 (n.M), .string n.S], .box g77 129 [.slice A68 ((shp (((n.K)).toNat)).b.length) c69, .bool ((shp (((n.K)).toNat)).n), .bool ((shp (((n.K)).toNat)).m), .bool ((shp (((n.K)).toNat)).s)]] [dShapes, dRow 1 A68 (shp (((n.K)).toNat)).b.length c69 (encIs (shp (((n.K)).toNat)).b)]) 4 ?_ ?_
      · skip
        rcases Bool.eq_false_or_eq_true ((shp (((n.K)).toNat)).n) with h96 | h96
        · skip
          have hR97 := hR95.setb (d := 20) (b := false) rfl (by rw [h96]; rfl)
          refine s_pass hR97 rfl (by decide) (want_f hR97 rfl rfl rfl (by decide) rfl rfl) (fun a98 hR99 => ?_)
          refine s_pass hR99 rfl (by decide) (want_f hR99 rfl rfl rfl (by decide) rfl rfl) (fun a100 hR101 => ?_)
          refine s_pass hR101 rfl (by decide) (want_f hR101 rfl rfl rfl (by decide) rfl rfl) (fun a102 hR103 => ?_)
          refine r_pick_f (st_listV rfl) hR103 rfl rfl rfl rfl (by decide) (fun a104 hR105 => ?_)
          refine wpList_nil ?_
          exact x_then_n ⟨(Reg.cons hR105 (Reg.cons hR105 (Reg.cons hR105 (Reg.consb hR105 (Reg.cons hR105 (hR105.nil) rfl) rfl (by first | rfl | (simp only [h96, Bool.true_and, Bool.and_true, Bool.false_and, Bool.and_false, Bool.true_or, Bool.or_true, Bool.false_or, Bool.or_false, Bool.not_true, Bool.not_false, if_true, ite_true, ite_false, Bool.false_eq_true]; done) | (simp [h96]; done) | (simp [h96]; omega))) rfl) rfl) rfl), hS83⟩
        · skip
          have hR106 := hR95.setb (d := 20) (b := true) rfl (by rw [h96]; rfl)
          refine m_field (j' := 1) (st_listV_w (want_t hR106 rfl rfl rfl (by decide) rfl)) hR106 rfl rfl rfl Tryd.underlying32 rfl sz3 rfl rfl (by decide) (fun a107 hR108 => ?_)
          refine m_load (i := 0) (st_listV_w (want_t hR108 rfl rfl rfl (by decide) rfl)) hR108 hS83 rfl rfl rfl rfl rfl Tryd.underlying3 rfl (by decide) (fun a109 hR110 => ?_)
          refine r_neq (st_listV_w (want_t hR110 rfl rfl rfl (by decide) rfl)) hR110 rfl rfl rfl rfl (by decide) (fun a111 hR112 => ?_)
          refine r_pick_t (st_listV rfl) hR112 rfl rfl rfl rfl (by decide) (fun a113 hR114 => ?_)
          refine wpList_nil ?_
          exact x_then_n ⟨(Reg.cons hR114 (Reg.cons hR114 (Reg.cons hR114 (Reg.consb hR114 (Reg.cons hR114 (hR114.nil) rfl) rfl (by first | rfl | (simp only [h96, Bool.true_and, Bool.and_true, Bool.false_and, Bool.and_false, Bool.true_or, Bool.or_true, Bool.false_or, Bool.or_false, Bool.not_true, Bool.not_false, if_true, ite_true, ite_false, Bool.false_eq_true]; done) | (simp [h96]; done) | (simp [h96]; omega))) rfl) rfl) rfl), hS83⟩
      rintro a115 w116 ⟨hR117, hS118⟩
      refine r_assign (st_listV rfl) hR117 rfl rfl rfl (by decide) (fun a119 hR120 => ?_)
      refine wpList_nil ?_
      refine x_then_n (hK87 _ _ ?_)
      rcases Bool.eq_false_or_eq_true (((!((shp (((n.K)).toNat)).n)) && (!(decide ((n.N) = 0))))) with h121 | h121
      · skip
        have h122 := and_tl h121
        have h123 := not_t h122
        have h124 := and_tr h121
        have h125 := not_t h124
        have h126 := of_decide_eq_false h125
        have hR127 := hR120.setb (d := 16) (b := true) rfl h121
        refine wp_cond_true (hR127.ev rfl) ?_
        refine wp_skip ?_
        exact x_then_n ⟨(Reg.cons hR127 (Reg.cons hR127 (Reg.cons hR127 (Reg.consb hR127 (Reg.cons hR127 (hR127.nil) rfl) rfl (by first | rfl | (simp only [h121, Bool.true_and, Bool.and_true, Bool.false_and, Bool.and_false, Bool.true_or, Bool.or_true, Bool.false_or, Bool.or_false, Bool.not_true, Bool.not_false, if_true, ite_true, ite_false, Bool.false_eq_true]; done) | (simp [h121]; done) | (simp [h121]; omega))) rfl) rfl) rfl), hS118⟩
      · skip
        have hq128 := h121
        try simp only [Bool.or_eq_true, Bool.and_eq_true, Bool.not_eq_true', Bool.not_eq_false', decide_eq_true_eq, decide_eq_false_iff_not, Bool.or_eq_false_iff, Bool.and_eq_false_iff] at hq128
        have hR129 := hR120.setb (d := 16) (b := false) rfl h121
        refine wp_cond_false (hR129.ev rfl) ?_
        refine wp_seq_k (fun K130 hK131 => ?_)
        refine c_region ?_
        refine m_field (j' := 2) (st_listV rfl) hR129 rfl rfl rfl Tryd.underlying129 rfl sz4 rfl rfl (by decide) (fun a132 hR133 => ?_)
        refine m_load (i := 1) (st_listV rfl) hR133 hS118 rfl rfl rfl rfl rfl Tryd.underlying4 rfl (by decide) (fun a134 hR135 => ?_)
        refine r_not (st_listV rfl) hR135 rfl rfl rfl (by decide) (fun a136 hR137 => ?_)
        refine r_move (st_listV rfl) hR137 rfl rfl rfl (by decide) (fun a138 hR139 => ?_)
        refine l_join (fun ga gw => Reg ga 110 [(1, .pointer (some ⟨g8, 0, none⟩)), (2, .bool false), (3, .pointer (some ⟨g77, 0, none⟩)), (16, .bool false), (32, .bool ((!((shp (((n.K)).toNat)).m)) && (!(decide ((n.M) = 0))))), (1000000, .bool false)] ∧ St w0 Z none_ gw [.box g8 32 [.int .i64 (n.K), .int .i64 (n.N), .int .i64 (n.M), .string n.S], .box g77 129 [.slice A68 ((shp (((n.K)).toNat)).b.length) c69, .bool ((shp (((n.K)).toNat)).n), .bool ((shp (((n.K)).toNat)).m), .bool ((shp (((n.K)).toNat)).s)]] [dShapes, dRow 1 A68 (shp (((n.K)).toNat)).b.length c69 (encIs (shp (((n.K)).toNat)).b)]) 4 ?_ ?_
        · skip
          rcases Bool.eq_false_or_eq_true ((shp (((n.K)).toNat)).m) with h140 | h140
          · skip
            have hR141 := hR139.setb (d := 28) (b := false) rfl (by rw [h140]; rfl)
            refine s_pass hR141 rfl (by decide) (want_f hR141 rfl rfl rfl (by decide) rfl rfl) (fun a142 hR143 => ?_)
            refine s_pass hR143 rfl (by decide) (want_f hR143 rfl rfl rfl (by decide) rfl rfl) (fun a144 hR145 => ?_)
            refine s_pass hR145 rfl (by decide) (want_f hR145 rfl rfl rfl (by decide) rfl rfl) (fun a146 hR147 => ?_)
            refine r_pick_f (st_listV rfl) hR147 rfl rfl rfl rfl (by decide) (fun a148 hR149 => ?_)
            refine wpList_nil ?_
            exact x_then_n ⟨(Reg.cons hR149 (Reg.cons hR149 (Reg.cons hR149 (Reg.cons hR149 (Reg.consb hR149 (Reg.cons hR149 (hR149.nil) rfl) rfl (by first | rfl | (simp only [h140, Bool.true_and, Bool.and_true, Bool.false_and, Bool.and_false, Bool.true_or, Bool.or_true, Bool.false_or, Bool.or_false, Bool.not_true, Bool.not_false, if_true, ite_true, ite_false, Bool.false_eq_true]; done) | (simp [h140]; done) | (simp [h140]; omega))) rfl) rfl) rfl) rfl), hS118⟩
          · skip
            have hR150 := hR139.setb (d := 28) (b := true) rfl (by rw [h140]; rfl)
            refine m_field (j' := 2) (st_listV_w (want_t hR150 rfl rfl rfl (by decide) rfl)) hR150 rfl rfl rfl Tryd.underlying32 rfl sz3 rfl rfl (by decide) (fun a151 hR152 => ?_)
            refine m_load (i := 0) (st_listV_w (want_t hR152 rfl rfl rfl (by decide) rfl)) hR152 hS118 rfl rfl rfl rfl rfl Tryd.underlying3 rfl (by decide) (fun a153 hR154 => ?_)
            refine r_neq (st_listV_w (want_t hR154 rfl rfl rfl (by decide) rfl)) hR154 rfl rfl rfl rfl (by decide) (fun a155 hR156 => ?_)
            refine r_pick_t (st_listV rfl) hR156 rfl rfl rfl rfl (by decide) (fun a157 hR158 => ?_)
            refine wpList_nil ?_
            exact x_then_n ⟨(Reg.cons hR158 (Reg.cons hR158 (Reg.cons hR158 (Reg.cons hR158 (Reg.consb hR158 (Reg.cons hR158 (hR158.nil) rfl) rfl (by first | rfl | (simp only [h140, Bool.true_and, Bool.and_true, Bool.false_and, Bool.and_false, Bool.true_or, Bool.or_true, Bool.false_or, Bool.or_false, Bool.not_true, Bool.not_false, if_true, ite_true, ite_false, Bool.false_eq_true]; done) | (simp [h140]; done) | (simp [h140]; omega))) rfl) rfl) rfl) rfl), hS118⟩
        rintro a159 w160 ⟨hR161, hS162⟩
        refine r_assign (st_listV rfl) hR161 rfl rfl rfl (by decide) (fun a163 hR164 => ?_)
        refine wpList_nil ?_
        refine x_then_n (hK131 _ _ ?_)
        rcases Bool.eq_false_or_eq_true (((!((shp (((n.K)).toNat)).m)) && (!(decide ((n.M) = 0))))) with h165 | h165
        · skip
          have h166 := and_tl h165
          have h167 := not_t h166
          have h168 := and_tr h165
          have h169 := not_t h168
          have h170 := of_decide_eq_false h169
          have hR171 := hR164.setb (d := 16) (b := true) rfl h165
          refine wp_cond_true (hR171.ev rfl) ?_
          refine wp_skip ?_
          exact x_then_n ⟨(Reg.cons hR171 (Reg.cons hR171 (Reg.cons hR171 (Reg.consb hR171 (Reg.cons hR171 (hR171.nil) rfl) rfl (by first | rfl | (simp only [h121, h165, Bool.true_and, Bool.and_true, Bool.false_and, Bool.and_false, Bool.true_or, Bool.or_true, Bool.false_or, Bool.or_false, Bool.not_true, Bool.not_false, if_true, ite_true, ite_false, Bool.false_eq_true]; done) | (simp [h121, h165]; done) | (simp [h121, h165]; omega))) rfl) rfl) rfl), hS162⟩
        · skip
          have hq172 := h165
          try simp only [Bool.or_eq_true, Bool.and_eq_true, Bool.not_eq_true', Bool.not_eq_false', decide_eq_true_eq, decide_eq_false_iff_not, Bool.or_eq_false_iff, Bool.and_eq_false_iff] at hq172
          have hR173 := hR164.setb (d := 16) (b := false) rfl h165
          refine wp_cond_false (hR173.ev rfl) ?_
          refine wp_seq_k (fun K174 hK175 => ?_)
          refine c_region ?_
          refine m_field (j' := 3) (st_listV rfl) hR173 rfl rfl rfl Tryd.underlying129 rfl sz4 rfl rfl (by decide) (fun a176 hR177 => ?_)
          refine m_load (i := 1) (st_listV rfl) hR177 hS162 rfl rfl rfl rfl rfl Tryd.underlying4 rfl (by decide) (fun a178 hR179 => ?_)
          refine r_not (st_listV rfl) hR179 rfl rfl rfl (by decide) (fun a180 hR181 => ?_)
          refine r_move (st_listV rfl) hR181 rfl rfl rfl (by decide) (fun a182 hR183 => ?_)
          refine l_join (fun ga gw => Reg ga 110 [(1, .pointer (some ⟨g8, 0, none⟩)), (2, .bool false), (3, .pointer (some ⟨g77, 0, none⟩)), (16, .bool false), (40, .bool ((!((shp (((n.K)).toNat)).s)) && (!(decide (n.S = (⟨#[]⟩ : ByteArray)))))), (1000000, .bool false)] ∧ St w0 Z none_ gw [.box g8 32 [.int .i64 (n.K), .int .i64 (n.N), .int .i64 (n.M), .string n.S], .box g77 129 [.slice A68 ((shp (((n.K)).toNat)).b.length) c69, .bool ((shp (((n.K)).toNat)).n), .bool ((shp (((n.K)).toNat)).m), .bool ((shp (((n.K)).toNat)).s)]] [dShapes, dRow 1 A68 (shp (((n.K)).toNat)).b.length c69 (encIs (shp (((n.K)).toNat)).b)]) 4 ?_ ?_
          · skip
            rcases Bool.eq_false_or_eq_true ((shp (((n.K)).toNat)).s) with h184 | h184
            · skip
              have hR185 := hR183.setb (d := 36) (b := false) rfl (by rw [h184]; rfl)
              refine s_pass hR185 rfl (by decide) (want_f hR185 rfl rfl rfl (by decide) rfl rfl) (fun a186 hR187 => ?_)
              refine s_pass hR187 rfl (by decide) (want_f hR187 rfl rfl rfl (by decide) rfl rfl) (fun a188 hR189 => ?_)
              refine s_pass hR189 rfl (by decide) (want_f hR189 rfl rfl rfl (by decide) rfl rfl) (fun a190 hR191 => ?_)
              refine r_pick_f (st_listV rfl) hR191 rfl rfl rfl rfl (by decide) (fun a192 hR193 => ?_)
              refine wpList_nil ?_
              exact x_then_n ⟨(Reg.cons hR193 (Reg.cons hR193 (Reg.cons hR193 (Reg.cons hR193 (Reg.consb hR193 (Reg.cons hR193 (hR193.nil) rfl) rfl (by first | rfl | (simp only [h184, Bool.true_and, Bool.and_true, Bool.false_and, Bool.and_false, Bool.true_or, Bool.or_true, Bool.false_or, Bool.or_false, Bool.not_true, Bool.not_false, if_true, ite_true, ite_false, Bool.false_eq_true]; done) | (simp [h184]; done) | (simp [h184]; omega))) rfl) rfl) rfl) rfl), hS162⟩
            · skip
              have hR194 := hR183.setb (d := 36) (b := true) rfl (by rw [h184]; rfl)
              refine m_field (j' := 3) (st_listV_w (want_t hR194 rfl rfl rfl (by decide) rfl)) hR194 rfl rfl rfl Tryd.underlying32 rfl sz9 rfl rfl (by decide) (fun a195 hR196 => ?_)
              refine m_load (i := 0) (st_listV_w (want_t hR196 rfl rfl rfl (by decide) rfl)) hR196 hS162 rfl rfl rfl rfl rfl Tryd.underlying9 rfl (by decide) (fun a197 hR198 => ?_)
              refine r_neqS (st_listV_w (want_t hR198 rfl rfl rfl (by decide) rfl)) hR198 rfl rfl rfl rfl (by decide) (fun a199 hR200 => ?_)
              refine r_pick_t (st_listV rfl) hR200 rfl rfl rfl rfl (by decide) (fun a201 hR202 => ?_)
              refine wpList_nil ?_
              exact x_then_n ⟨(Reg.cons hR202 (Reg.cons hR202 (Reg.cons hR202 (Reg.cons hR202 (Reg.consb hR202 (Reg.cons hR202 (hR202.nil) rfl) rfl (by first | rfl | (simp only [h184, Bool.true_and, Bool.and_true, Bool.false_and, Bool.and_false, Bool.true_or, Bool.or_true, Bool.false_or, Bool.or_false, Bool.not_true, Bool.not_false, if_true, ite_true, ite_false, Bool.false_eq_true]; done) | (simp [h184]; done) | (simp [h184]; omega))) rfl) rfl) rfl) rfl), hS162⟩
          rintro a203 w204 ⟨hR205, hS206⟩
          refine r_assign (st_listV rfl) hR205 rfl rfl rfl (by decide) (fun a207 hR208 => ?_)
          refine wpList_nil ?_
          refine x_then_n (hK175 _ _ ?_)
          rcases Bool.eq_false_or_eq_true (((!((shp (((n.K)).toNat)).s)) && (!(decide (n.S = (⟨#[]⟩ : ByteArray)))))) with h209 | h209
          · skip
            have h210 := and_tl h209
            have h211 := not_t h210
            have h212 := and_tr h209
            have h213 := not_t h212
            have h214 := of_decide_eq_false h213
            have hR215 := hR208.setb (d := 16) (b := true) rfl h209
            refine wp_cond_true (hR215.ev rfl) ?_
            refine wp_skip ?_
            exact x_then_n ⟨(Reg.cons hR215 (Reg.cons hR215 (Reg.cons hR215 (Reg.consb hR215 (Reg.cons hR215 (hR215.nil) rfl) rfl (by first | rfl | (simp only [h121, h165, h209, Bool.true_and, Bool.and_true, Bool.false_and, Bool.and_false, Bool.true_or, Bool.or_true, Bool.false_or, Bool.or_false, Bool.not_true, Bool.not_false, if_true, ite_true, ite_false, Bool.false_eq_true]; done) | (simp [h121, h165, h209]; done) | (simp [h121, h165, h209]; omega))) rfl) rfl) rfl), hS206⟩
          · skip
            have hq216 := h209
            try simp only [Bool.or_eq_true, Bool.and_eq_true, Bool.not_eq_true', Bool.not_eq_false', decide_eq_true_eq, decide_eq_false_iff_not, Bool.or_eq_false_iff, Bool.and_eq_false_iff] at hq216
            have hR217 := hR208.setb (d := 16) (b := false) rfl h209
            refine wp_cond_false (hR217.ev rfl) ?_
            refine c_region ?_
            refine m_field (j' := 3) (st_listV rfl) hR217 rfl rfl rfl Tryd.underlying129 rfl sz4 rfl rfl (by decide) (fun a218 hR219 => ?_)
            refine m_load (i := 1) (st_listV rfl) hR219 hS206 rfl rfl rfl rfl rfl Tryd.underlying4 rfl (by decide) (fun a220 hR221 => ?_)
            refine r_move (st_listV rfl) hR221 rfl rfl rfl (by decide) (fun a222 hR223 => ?_)
            refine l_join (fun ga gw => Reg ga 110 [(1, .pointer (some ⟨g8, 0, none⟩)), (2, .bool false), (3, .pointer (some ⟨g77, 0, none⟩)), (16, .bool false), (48, .bool (((shp (((n.K)).toNat)).s) && (!(nameOk n.S)))), (1000000, .bool false)] ∧ St w0 Z none_ gw [.box g8 32 [.int .i64 (n.K), .int .i64 (n.N), .int .i64 (n.M), .string n.S], .box g77 129 [.slice A68 ((shp (((n.K)).toNat)).b.length) c69, .bool ((shp (((n.K)).toNat)).n), .bool ((shp (((n.K)).toNat)).m), .bool ((shp (((n.K)).toNat)).s)]] [dShapes, dRow 1 A68 (shp (((n.K)).toNat)).b.length c69 (encIs (shp (((n.K)).toNat)).b)]) 5 ?_ ?_
            · skip
              rcases Bool.eq_false_or_eq_true ((shp (((n.K)).toNat)).s) with h224 | h224
              · skip
                have hR225 := hR223.setb (d := 43) (b := true) rfl h224
                refine m_field (j' := 3) (st_listV_w (want_t hR225 rfl rfl rfl (by decide) rfl)) hR225 rfl rfl rfl Tryd.underlying32 rfl sz9 rfl rfl (by decide) (fun a226 hR227 => ?_)
                refine m_load (i := 0) (st_listV_w (want_t hR227 rfl rfl rfl (by decide) rfl)) hR227 hS206 rfl rfl rfl rfl rfl Tryd.underlying9 rfl (by decide) (fun a228 hR229 => ?_)
                have hS230 : St w0 Z none_ w204 [.box g8 32 [.int .i64 (n.K), .int .i64 (n.N), .int .i64 (n.M), .string n.S], .box g77 129 [.slice A68 ((shp (((n.K)).toNat)).b.length) c69, .bool ((shp (((n.K)).toNat)).n), .bool ((shp (((n.K)).toNat)).m), .bool ((shp (((n.K)).toNat)).s)]] [dShapes, dRow 1 A68 (shp (((n.K)).toNat)).b.length c69 (encIs (shp (((n.K)).toNat)).b)] := hS206
                refine k_call (xs := [.tmp 45]) (st_list_w (want_t hR229 rfl rfl rfl (by decide) rfl)) hR229 rfl rfl rfl (by decide) ok128 (name_calls _ (imm Z w0 [.box g8 32 [.int .i64 (n.K), .int .i64 (n.N), .int .i64 (n.M), .string n.S], .box g77 129 [.slice A68 ((shp (((n.K)).toNat)).b.length) c69, .bool ((shp (((n.K)).toNat)).n), .bool ((shp (((n.K)).toNat)).m), .bool ((shp (((n.K)).toNat)).s)]] _) (fun _ h => h.1) n.S (by first | assumption | omega | (simp; done) | (simp; omega))) ?_
                rintro e237 w232 ⟨rfl, hf235⟩
                have hS238 := hS230.below hf235.below
                refine ⟨_, rfl, fun a231 hR233 => ?_⟩
                refine r_not (st_listV_w (want_t hR233 rfl rfl rfl (by decide) rfl)) hR233 rfl rfl rfl (by decide) (fun a239 hR240 => ?_)
                refine r_pick_t (st_listV rfl) hR240 rfl rfl rfl rfl (by decide) (fun a241 hR242 => ?_)
                refine wpList_nil ?_
                exact x_then_n ⟨(Reg.cons hR242 (Reg.cons hR242 (Reg.cons hR242 (Reg.cons hR242 (Reg.consb hR242 (Reg.cons hR242 (hR242.nil) rfl) rfl (by first | rfl | (simp only [h224, Bool.true_and, Bool.and_true, Bool.false_and, Bool.and_false, Bool.true_or, Bool.or_true, Bool.false_or, Bool.or_false, Bool.not_true, Bool.not_false, if_true, ite_true, ite_false, Bool.false_eq_true]; done) | (simp [h224]; done) | (simp [h224]; omega))) rfl) rfl) rfl) rfl), hS238⟩
              · skip
                have hR243 := hR223.setb (d := 43) (b := false) rfl h224
                refine s_pass hR243 rfl (by decide) (want_f hR243 rfl rfl rfl (by decide) rfl rfl) (fun a244 hR245 => ?_)
                refine s_pass hR245 rfl (by decide) (want_f hR245 rfl rfl rfl (by decide) rfl rfl) (fun a246 hR247 => ?_)
                refine s_pass hR247 rfl (by decide) (want_f hR247 rfl rfl rfl (by decide) rfl rfl) (fun a248 hR249 => ?_)
                refine s_pass hR249 rfl (by decide) (want_f hR249 rfl rfl rfl (by decide) rfl rfl) (fun a250 hR251 => ?_)
                refine r_pick_f (st_listV rfl) hR251 rfl rfl rfl rfl (by decide) (fun a252 hR253 => ?_)
                refine wpList_nil ?_
                exact x_then_n ⟨(Reg.cons hR253 (Reg.cons hR253 (Reg.cons hR253 (Reg.cons hR253 (Reg.consb hR253 (Reg.cons hR253 (hR253.nil) rfl) rfl (by first | rfl | (simp only [h224, Bool.true_and, Bool.and_true, Bool.false_and, Bool.and_false, Bool.true_or, Bool.or_true, Bool.false_or, Bool.or_false, Bool.not_true, Bool.not_false, if_true, ite_true, ite_false, Bool.false_eq_true]; done) | (simp [h224]; done) | (simp [h224]; omega))) rfl) rfl) rfl) rfl), hS206⟩
            rintro a254 w255 ⟨hR256, hS257⟩
            refine r_assign (st_listV rfl) hR256 rfl rfl rfl (by decide) (fun a258 hR259 => ?_)
            refine wpList_nil ?_
            exact x_then_n ⟨(Reg.cons hR259 (Reg.cons hR259 (Reg.cons hR259 (Reg.consb hR259 (Reg.cons hR259 (hR259.nil) rfl) rfl (by first | rfl | (simp only [h121, h165, h209, Bool.true_and, Bool.and_true, Bool.false_and, Bool.and_false, Bool.true_or, Bool.or_true, Bool.false_or, Bool.or_false, Bool.not_true, Bool.not_false, if_true, ite_true, ite_false, Bool.false_eq_true]; done) | (simp [h121, h165, h209]; done) | (simp [h121, h165, h209]; omega))) rfl) rfl) rfl), hS257⟩
    rintro a260 w261 ⟨hR262, hS263⟩
    rcases Bool.eq_false_or_eq_true ((((!((shp (((n.K)).toNat)).n)) && (!(decide ((n.N) = 0)))) || (((!((shp (((n.K)).toNat)).m)) && (!(decide ((n.M) = 0)))) || (((!((shp (((n.K)).toNat)).s)) && (!(decide (n.S = (⟨#[]⟩ : ByteArray))))) || (((shp (((n.K)).toNat)).s) && (!(nameOk n.S))))))) with h264 | h264
    · skip
      have hq265 := h264
      try simp only [Bool.or_eq_true, Bool.and_eq_true, Bool.not_eq_true', Bool.not_eq_false', decide_eq_true_eq, decide_eq_false_iff_not, Bool.or_eq_false_iff, Bool.and_eq_false_iff] at hq265
      have hR266 := hR262.setb (d := 16) (b := true) rfl h264
      refine wp_cond_true (hR266.ev rfl) ?_
      refine wp_seq_k (fun K267 hK268 => ?_)
      refine c_region ?_
      refine r_assign (st_listV rfl) hR266 rfl rfl rfl (by decide) (fun a269 hR270 => ?_)
      refine wpList_nil ?_
      refine x_then_n (hK268 _ _ ?_)
      refine wp_ret ?_
      refine x_block_r ?_
      refine x_then_r ?_
      refine e_ret1 hR270 rfl rfl rfl ?_
      refine ⟨?_, hS263.fr⟩
      exact congrArg Ending.returned (ret_b (by first | exact (right_sort h264 (by assumption)).symm | exact (right_big h264).symm | (rw [right_con' h264 (by assumption)]; first | rfl | (simp <;> omega) | (simp [h48, h56, h58, h264]; done) | (rw [Bool.eq_iff_iff]; simp <;> omega)) | (rw [right_elim' h264 (by assumption)]; first | rfl | (simp <;> omega) | (simp [h48, h56, h58, h264]; done) | (rw [Bool.eq_iff_iff]; simp <;> omega)) | (rw [right_oth h264 (by omega) (by omega) (by assumption) (by assumption) (by assumption)]; first | rfl | (simp <;> omega) | (simp [h48, h56, h58, h264]; done) | (rw [Bool.eq_iff_iff]; simp <;> omega))))
    · skip
      have h271 := or_fl h264
      have hq272 := h271
      try simp only [Bool.or_eq_true, Bool.and_eq_true, Bool.not_eq_true', Bool.not_eq_false', decide_eq_true_eq, decide_eq_false_iff_not, Bool.or_eq_false_iff, Bool.and_eq_false_iff] at hq272
      have h273 := or_fr h264
      have h274 := or_fl h273
      have hq275 := h274
      try simp only [Bool.or_eq_true, Bool.and_eq_true, Bool.not_eq_true', Bool.not_eq_false', decide_eq_true_eq, decide_eq_false_iff_not, Bool.or_eq_false_iff, Bool.and_eq_false_iff] at hq275
      have h276 := or_fr h273
      have h277 := or_fl h276
      have hq278 := h277
      try simp only [Bool.or_eq_true, Bool.and_eq_true, Bool.not_eq_true', Bool.not_eq_false', decide_eq_true_eq, decide_eq_false_iff_not, Bool.or_eq_false_iff, Bool.and_eq_false_iff] at hq278
      have h279 := or_fr h276
      have hq280 := h279
      try simp only [Bool.or_eq_true, Bool.and_eq_true, Bool.not_eq_true', Bool.not_eq_false', decide_eq_true_eq, decide_eq_false_iff_not, Bool.or_eq_false_iff, Bool.and_eq_false_iff] at hq280
      have hR281 := hR262.setb (d := 16) (b := false) rfl h264
      refine wp_cond_false (hR281.ev rfl) ?_
      refine wp_seq_k (fun K282 hK283 => ?_)
      refine c_region ?_
      refine m_field (j' := 0) (st_listV rfl) hR281 rfl rfl rfl Tryd.underlying32 rfl sz3 rfl rfl (by decide) (fun a284 hR285 => ?_)
      refine m_load (i := 0) (st_listV rfl) hR285 hS263 rfl rfl rfl rfl rfl Tryd.underlying3 rfl (by decide) (fun a286 hR287 => ?_)
      refine r_eql (st_listV rfl) hR287 rfl rfl rfl rfl (by decide) (fun a288 hR289 => ?_)
      refine r_assign (st_listV rfl) hR289 rfl rfl rfl (by decide) (fun a290 hR291 => ?_)
      refine wpList_nil ?_
      refine x_then_n (hK283 _ _ ?_)
      rcases Decidable.em ((n.K) = 2) with h292 | h292
      · skip
        have hR293 := hR291.setb (d := 49) (b := true) rfl (decide_eq_true h292)
        refine wp_cond_true (hR293.ev rfl) ?_
        refine wp_seq_k (fun K294 hK295 => ?_)
        refine c_region ?_
        refine m_field (j' := 1) (st_listV rfl) hR293 rfl rfl rfl Tryd.underlying32 rfl sz3 rfl rfl (by decide) (fun a296 hR297 => ?_)
        refine m_load (i := 0) (st_listV rfl) hR297 hS263 rfl rfl rfl rfl rfl Tryd.underlying3 rfl (by decide) (fun a298 hR299 => ?_)
        have hS300 : St w0 Z none_ w261 [.box g8 32 [.int .i64 (n.K), .int .i64 (n.N), .int .i64 (n.M), .string n.S], .box g77 129 [.slice A68 ((shp (((n.K)).toNat)).b.length) c69, .bool ((shp (((n.K)).toNat)).n), .bool ((shp (((n.K)).toNat)).m), .bool ((shp (((n.K)).toNat)).s)]] [dShapes, dRow 1 A68 (shp (((n.K)).toNat)).b.length c69 (encIs (shp (((n.K)).toNat)).b)] := hS263
        refine k_call (xs := [.tmp 54]) (st_list rfl) hR299 rfl rfl rfl (by decide) ok129 (lvCheck_calls _ (imm Z w0 [.box g8 32 [.int .i64 (n.K), .int .i64 (n.N), .int .i64 (n.M), .string n.S], .box g77 129 [.slice A68 ((shp (((n.K)).toNat)).b.length) c69, .bool ((shp (((n.K)).toNat)).n), .bool ((shp (((n.K)).toNat)).m), .bool ((shp (((n.K)).toNat)).s)]] _) (fun _ h => h.1) (n.N)) ?_
        rintro e307 w302 ⟨rfl, hf305⟩
        have hS308 := hS300.below hf305.below
        refine ⟨_, rfl, fun a301 hR303 => ?_⟩
        refine r_eql (st_listV rfl) hR303 rfl rfl rfl rfl (by decide) (fun a309 hR310 => ?_)
        refine r_assign (st_listV rfl) hR310 rfl rfl rfl (by decide) (fun a311 hR312 => ?_)
        refine wpList_nil ?_
        refine x_then_n (hK295 _ _ ?_)
        refine wp_ret ?_
        refine x_block_r ?_
        refine x_then_r ?_
        refine e_ret1 hR312 rfl rfl rfl ?_
        refine ⟨?_, hS308.fr⟩
        exact congrArg Ending.returned (ret_b (by first | exact (right_sort h264 (by assumption)).symm | exact (right_big h264).symm | (rw [right_con' h264 (by assumption)]; first | rfl | (simp <;> omega) | (simp [h48, h56, h58, h264, h292]; done) | (rw [Bool.eq_iff_iff]; simp <;> omega)) | (rw [right_elim' h264 (by assumption)]; first | rfl | (simp <;> omega) | (simp [h48, h56, h58, h264, h292]; done) | (rw [Bool.eq_iff_iff]; simp <;> omega)) | (rw [right_oth h264 (by omega) (by omega) (by assumption) (by assumption) (by assumption)]; first | rfl | (simp <;> omega) | (simp [h48, h56, h58, h264, h292]; done) | (rw [Bool.eq_iff_iff]; simp <;> omega))))
      · skip
        have hR313 := hR291.setb (d := 49) (b := false) rfl (decide_eq_false h292)
        refine wp_cond_false (hR313.ev rfl) ?_
        refine wp_seq_k (fun K314 hK315 => ?_)
        refine c_region ?_
        refine m_field (j' := 0) (st_listV rfl) hR313 rfl rfl rfl Tryd.underlying32 rfl sz3 rfl rfl (by decide) (fun a316 hR317 => ?_)
        refine m_load (i := 0) (st_listV rfl) hR317 hS263 rfl rfl rfl rfl rfl Tryd.underlying3 rfl (by decide) (fun a318 hR319 => ?_)
        refine r_eql (st_listV rfl) hR319 rfl rfl rfl rfl (by decide) (fun a320 hR321 => ?_)
        refine r_assign (st_listV rfl) hR321 rfl rfl rfl (by decide) (fun a322 hR323 => ?_)
        refine wpList_nil ?_
        refine x_then_n (hK315 _ _ ?_)
        rcases Decidable.em ((n.K) = 26) with h324 | h324
        · skip
          have hR325 := hR323.setb (d := 57) (b := true) rfl (decide_eq_true h324)
          refine wp_cond_true (hR325.ev rfl) ?_
          refine wp_seq_k (fun K326 hK327 => ?_)
          obtain ⟨J328, hJ329, hS330⟩ := hS263.agree
          refine d_region2 (S := (fun x => (w261.heap.size ≤ x.heap.size ∧ ∀ k, J328 k → x.heap[k]? = w261.heap[k]?) ∧ (x.cell? ⟨g8, 0, none⟩ = some (.int .i64 (n.K))) ∧ (x.cell? ⟨g8, 1, none⟩ = some (.int .i64 (n.N))) ∧ (x.cell? ⟨g8, 2, none⟩ = some (.int .i64 (n.M))) ∧ (x.cell? ⟨g8, 3, none⟩ = some (.string n.S)) ∧ (True))) (n := 22) mixed rfl hS330 (pan_then (pan_block (pan_then pan_body))) (fun Q333 hP334 hN335 w331 hS332 => ?_)
          have hSw336 : (w261.heap.size ≤ w331.heap.size ∧ ∀ k, J328 k → w331.heap[k]? = w261.heap[k]?) ∧ (w331.cell? ⟨g8, 0, none⟩ = some (.int .i64 (n.K))) ∧ (w331.cell? ⟨g8, 1, none⟩ = some (.int .i64 (n.N))) ∧ (w331.cell? ⟨g8, 2, none⟩ = some (.int .i64 (n.M))) ∧ (w331.cell? ⟨g8, 3, none⟩ = some (.string n.S)) ∧ (True) := ⟨⟨(hS332.get (i := 2) rfl).1, fun k hk => ((hS332.get (i := 2) rfl).2 k hk).2⟩, (box_cell (hS332.res (i := 0) rfl) rfl), (box_cell (hS332.res (i := 0) rfl) rfl), (box_cell (hS332.res (i := 0) rfl) rfl), (box_cell (hS332.res (i := 0) rfl) rfl), trivial⟩
          refine d_take (i := 0) rfl (by kernel_rfl) (by kernel_rfl) (by kernel_rfl) (fun c a w h => hP334 c _ _ _ _ h) rfl (by decide) hR325 (want_n rfl) (fun x hx => m_field (j' := 1) (st_yield hR325 rfl (by decide)) hR325 rfl rfl rfl Tryd.underlying32 rfl sz3 rfl rfl (by decide) (fun _ h => ⟨h.get _ _ (by decide) rfl, rfl⟩)) hSw336 (fun a337 hR338 => ?_)
          refine d_take (i := 1) rfl (by kernel_rfl) (by kernel_rfl) (by kernel_rfl) (fun c a w h => hP334 c _ _ _ _ h) rfl (by decide) hR338 (want_n rfl) (fun x hx => m_loadC (st_yield hR338 rfl (by decide)) hR338 rfl rfl rfl hx.2.2.1 Tryd.underlying3 rfl (by decide) (fun _ h => ⟨h.get _ _ (by decide) rfl, rfl⟩)) hSw336 (fun a339 hR340 => ?_)
          refine d_take (i := 2) rfl (by kernel_rfl) (by kernel_rfl) (by kernel_rfl) (fun c a w h => hP334 c _ _ _ _ h) rfl (by decide) hR340 (want_n rfl) (fun x hx => r_geq (st_yield hR340 rfl (by decide)) hR340 rfl rfl rfl rfl (by decide) (fun _ h => ⟨h.get _ _ (by decide) rfl, rfl⟩)) hSw336 (fun a341 hR342 => ?_)
          refine d_take (i := 3) rfl (by kernel_rfl) (by kernel_rfl) (by kernel_rfl) (fun c a w h => hP334 c _ _ _ _ h) rfl (by decide) hR342 (want_n rfl) (fun x hx => r_move (st_yield hR342 rfl (by decide)) hR342 rfl rfl rfl (by decide) (fun _ h => ⟨h.get _ _ (by decide) rfl, rfl⟩)) hSw336 (fun a343 hR344 => ?_)
          rcases Decidable.em (0 ≤ (n.N)) with h345 | h345
          · skip
            have hR346 := hR344.setb (d := 64) (b := true) rfl (decide_eq_true h345)
            refine d_take (i := 4) rfl (by kernel_rfl) (by kernel_rfl) (by kernel_rfl) (fun c a w h => hP334 c _ _ _ _ h) rfl (by decide) hR346 (want_t hR346 rfl rfl rfl (by decide) rfl) (fun x hx => m_field (j' := 1) (st_yield hR346 rfl (by decide)) hR346 rfl rfl rfl Tryd.underlying32 rfl sz3 rfl rfl (by decide) (fun _ h => ⟨h.get _ _ (by decide) rfl, rfl⟩)) hSw336 (fun a347 hR348 => ?_)
            refine d_take (i := 5) rfl (by kernel_rfl) (by kernel_rfl) (by kernel_rfl) (fun c a w h => hP334 c _ _ _ _ h) rfl (by decide) hR348 (want_t hR348 rfl rfl rfl (by decide) rfl) (fun x hx => m_loadC (st_yield hR348 rfl (by decide)) hR348 rfl rfl rfl hx.2.2.1 Tryd.underlying3 rfl (by decide) (fun _ h => ⟨h.get _ _ (by decide) rfl, rfl⟩)) hSw336 (fun a349 hR350 => ?_)
            refine d_take (i := 6) rfl (by kernel_rfl) (by kernel_rfl) (by kernel_rfl) (fun c a w h => hP334 c _ _ _ _ h) rfl (by decide) hR350 (want_t hR350 rfl rfl rfl (by decide) rfl) (fun x hx => m_field (j' := 0) (st_yield hR350 rfl (by decide)) hR350 rfl rfl rfl Tryd.underlying32 rfl sz3 rfl rfl (by decide) (fun _ h => ⟨h.get _ _ (by decide) rfl, rfl⟩)) hSw336 (fun a351 hR352 => ?_)
            refine d_take (i := 7) rfl (by kernel_rfl) (by kernel_rfl) (by kernel_rfl) (fun c a w h => hP334 c _ _ _ _ h) rfl (by decide) hR352 (want_t hR352 rfl rfl rfl (by decide) rfl) (fun x hx => m_loadC (st_yield hR352 rfl (by decide)) hR352 rfl rfl rfl hx.2.1 Tryd.underlying3 rfl (by decide) (fun _ h => ⟨h.get _ _ (by decide) rfl, rfl⟩)) hSw336 (fun a353 hR354 => ?_)
            refine d_one (i := 8) (by kernel_rfl) ?_
            have hS355 : St w0 Z none_ w331 [.box g8 32 [.int .i64 (n.K), .int .i64 (n.N), .int .i64 (n.M), .string n.S], .box g77 129 [.slice A68 ((shp (((n.K)).toNat)).b.length) c69, .bool ((shp (((n.K)).toNat)).n), .bool ((shp (((n.K)).toNat)).m), .bool ((shp (((n.K)).toNat)).s)]] [dShapes, dRow 1 A68 (shp (((n.K)).toNat)).b.length c69 (encIs (shp (((n.K)).toNat)).b), dAg w261 J328] := hS332
            refine k_call (xs := [.tmp 68]) (st_op rfl (want_t hR354 rfl rfl rfl (by decide) rfl)) hR354 rfl rfl rfl (by decide) ok130 (most_calls _ (imm Z w0 [.box g8 32 [.int .i64 (n.K), .int .i64 (n.N), .int .i64 (n.M), .string n.S], .box g77 129 [.slice A68 ((shp (((n.K)).toNat)).b.length) c69, .bool ((shp (((n.K)).toNat)).n), .bool ((shp (((n.K)).toNat)).m), .bool ((shp (((n.K)).toNat)).s)]] _) (fun _ h => h.1) (n.K)) ?_
            rintro e362 w357 ⟨rfl, hf360⟩
            have hS363 := hS355.below hf360.below
            refine ⟨_, rfl, fun a356 hR358 => ?_⟩
            have hSw364 : (w261.heap.size ≤ w357.heap.size ∧ ∀ k, J328 k → w357.heap[k]? = w261.heap[k]?) ∧ (w357.cell? ⟨g8, 0, none⟩ = some (.int .i64 (n.K))) ∧ (w357.cell? ⟨g8, 1, none⟩ = some (.int .i64 (n.N))) ∧ (w357.cell? ⟨g8, 2, none⟩ = some (.int .i64 (n.M))) ∧ (w357.cell? ⟨g8, 3, none⟩ = some (.string n.S)) ∧ (True) := ⟨⟨(hS363.get (i := 2) rfl).1, fun k hk => ((hS363.get (i := 2) rfl).2 k hk).2⟩, (box_cell (hS363.res (i := 0) rfl) rfl), (box_cell (hS363.res (i := 0) rfl) rfl), (box_cell (hS363.res (i := 0) rfl) rfl), (box_cell (hS363.res (i := 0) rfl) rfl), trivial⟩
            refine ⟨hSw364, ?_⟩
            refine d_take (i := 9) rfl (by kernel_rfl) (by kernel_rfl) (by kernel_rfl) (fun c a w h => hP334 c _ _ _ _ h) rfl (by decide) hR358 (want_t hR358 rfl rfl rfl (by decide) rfl) (fun x hx => r_leq (st_yield hR358 rfl (by decide)) hR358 rfl rfl rfl rfl (by decide) (fun _ h => ⟨h.get _ _ (by decide) rfl, rfl⟩)) hSw364 (fun a365 hR366 => ?_)
            refine d_take (i := 10) rfl (by kernel_rfl) (by kernel_rfl) (by kernel_rfl) (fun c a w h => hP334 c _ _ _ _ h) rfl (by decide) hR366 (want_n rfl) (fun x hx => r_pick_t (st_yield hR366 rfl (by decide)) hR366 rfl rfl rfl rfl (by decide) (fun _ h => ⟨h.get _ _ (by decide) rfl, rfl⟩)) hSw364 (fun a367 hR368 => ?_)
            refine d_take (i := 11) rfl (by kernel_rfl) (by kernel_rfl) (by kernel_rfl) (fun c a w h => hP334 c _ _ _ _ h) rfl (by decide) hR368 (want_n rfl) (fun x hx => r_move (st_yield hR368 rfl (by decide)) hR368 rfl rfl rfl (by decide) (fun _ h => ⟨h.get _ _ (by decide) rfl, rfl⟩)) hSw364 (fun a369 hR370 => ?_)
            rcases Decidable.em ((n.N) ≤ ((most (n.K)))) with h371 | h371
            · skip
              have hR372 := hR370.setb (d := 72) (b := true) rfl (decide_eq_true h371)
              refine d_take (i := 12) rfl (by kernel_rfl) (by kernel_rfl) (by kernel_rfl) (fun c a w h => hP334 c _ _ _ _ h) rfl (by decide) hR372 (want_t hR372 rfl rfl rfl (by decide) rfl) (fun x hx => m_field (j' := 2) (st_yield hR372 rfl (by decide)) hR372 rfl rfl rfl Tryd.underlying32 rfl sz3 rfl rfl (by decide) (fun _ h => ⟨h.get _ _ (by decide) rfl, rfl⟩)) hSw364 (fun a373 hR374 => ?_)
              refine d_take (i := 13) rfl (by kernel_rfl) (by kernel_rfl) (by kernel_rfl) (fun c a w h => hP334 c _ _ _ _ h) rfl (by decide) hR374 (want_t hR374 rfl rfl rfl (by decide) rfl) (fun x hx => m_loadC (st_yield hR374 rfl (by decide)) hR374 rfl rfl rfl hx.2.2.2.1 Tryd.underlying3 rfl (by decide) (fun _ h => ⟨h.get _ _ (by decide) rfl, rfl⟩)) hSw364 (fun a375 hR376 => ?_)
              refine d_take (i := 14) rfl (by kernel_rfl) (by kernel_rfl) (by kernel_rfl) (fun c a w h => hP334 c _ _ _ _ h) rfl (by decide) hR376 (want_t hR376 rfl rfl rfl (by decide) rfl) (fun x hx => r_geq (st_yield hR376 rfl (by decide)) hR376 rfl rfl rfl rfl (by decide) (fun _ h => ⟨h.get _ _ (by decide) rfl, rfl⟩)) hSw364 (fun a377 hR378 => ?_)
              refine d_take (i := 15) rfl (by kernel_rfl) (by kernel_rfl) (by kernel_rfl) (fun c a w h => hP334 c _ _ _ _ h) rfl (by decide) hR378 (want_n rfl) (fun x hx => r_pick_t (st_yield hR378 rfl (by decide)) hR378 rfl rfl rfl rfl (by decide) (fun _ h => ⟨h.get _ _ (by decide) rfl, rfl⟩)) hSw364 (fun a379 hR380 => ?_)
              refine d_take (i := 16) rfl (by kernel_rfl) (by kernel_rfl) (by kernel_rfl) (fun c a w h => hP334 c _ _ _ _ h) rfl (by decide) hR380 (want_n rfl) (fun x hx => r_move (st_yield hR380 rfl (by decide)) hR380 rfl rfl rfl (by decide) (fun _ h => ⟨h.get _ _ (by decide) rfl, rfl⟩)) hSw364 (fun a381 hR382 => ?_)
              rcases Decidable.em (0 ≤ (n.M)) with h383 | h383
              · skip
                have hR384 := hR382.setb (d := 77) (b := true) rfl (decide_eq_true h383)
                refine d_take (i := 17) rfl (by kernel_rfl) (by kernel_rfl) (by kernel_rfl) (fun c a w h => hP334 c _ _ _ _ h) rfl (by decide) hR384 (want_t hR384 rfl rfl rfl (by decide) rfl) (fun x hx => m_field (j' := 2) (st_yield hR384 rfl (by decide)) hR384 rfl rfl rfl Tryd.underlying32 rfl sz3 rfl rfl (by decide) (fun _ h => ⟨h.get _ _ (by decide) rfl, rfl⟩)) hSw364 (fun a385 hR386 => ?_)
                refine d_take (i := 18) rfl (by kernel_rfl) (by kernel_rfl) (by kernel_rfl) (fun c a w h => hP334 c _ _ _ _ h) rfl (by decide) hR386 (want_t hR386 rfl rfl rfl (by decide) rfl) (fun x hx => m_loadC (st_yield hR386 rfl (by decide)) hR386 rfl rfl rfl hx.2.2.2.1 Tryd.underlying3 rfl (by decide) (fun _ h => ⟨h.get _ _ (by decide) rfl, rfl⟩)) hSw364 (fun a387 hR388 => ?_)
                refine d_take (i := 19) rfl (by kernel_rfl) (by kernel_rfl) (by kernel_rfl) (fun c a w h => hP334 c _ _ _ _ h) rfl (by decide) hR388 (want_t hR388 rfl rfl rfl (by decide) rfl) (fun x hx => r_leq (st_yield hR388 rfl (by decide)) hR388 rfl rfl rfl rfl (by decide) (fun _ h => ⟨h.get _ _ (by decide) rfl, rfl⟩)) hSw364 (fun a389 hR390 => ?_)
                refine d_take (i := 20) rfl (by kernel_rfl) (by kernel_rfl) (by kernel_rfl) (fun c a w h => hP334 c _ _ _ _ h) rfl (by decide) hR390 (want_n rfl) (fun x hx => r_pick_t (st_yield hR390 rfl (by decide)) hR390 rfl rfl rfl rfl (by decide) (fun _ h => ⟨h.get _ _ (by decide) rfl, rfl⟩)) hSw364 (fun a391 hR392 => ?_)
                refine d_take (i := 21) rfl (by kernel_rfl) (by kernel_rfl) (by kernel_rfl) (fun c a w h => hP334 c _ _ _ _ h) rfl (by decide) hR392 (want_n rfl) (fun x hx => r_assign (st_yield hR392 rfl (by decide)) hR392 rfl rfl rfl (by decide) (fun _ h => ⟨h.get _ _ (by decide) rfl, rfl⟩)) hSw364 (fun a393 hR394 => ?_)
                refine wpAnyH_done (by kernel_rfl) (hN335 _ _ ?_) _
                refine x_then_n (hK327 _ _ ?_)
                refine wp_ret ?_
                refine x_block_r ?_
                refine x_then_r ?_
                refine e_ret1 hR394 rfl rfl rfl ?_
                refine ⟨?_, hS363.fr⟩
                exact congrArg Ending.returned (ret_b (by first | exact (right_sort h264 (by assumption)).symm | exact (right_big h264).symm | (rw [right_con' h264 (by assumption)]; first | rfl | (simp <;> omega) | (simp [h48, h56, h58, h264, h292, h324, h345, h371, h383]; done) | (rw [Bool.eq_iff_iff]; simp <;> omega)) | (rw [right_elim' h264 (by assumption)]; first | rfl | (simp <;> omega) | (simp [h48, h56, h58, h264, h292, h324, h345, h371, h383]; done) | (rw [Bool.eq_iff_iff]; simp <;> omega)) | (rw [right_oth h264 (by omega) (by omega) (by assumption) (by assumption) (by assumption)]; first | rfl | (simp <;> omega) | (simp [h48, h56, h58, h264, h292, h324, h345, h371, h383]; done) | (rw [Bool.eq_iff_iff]; simp <;> omega))))
              · skip
                have hR395 := hR382.setb (d := 77) (b := false) rfl (decide_eq_false h383)
                refine d_pass (i := 17) rfl (by kernel_rfl) (by kernel_rfl) (by kernel_rfl) (fun c a w h => hP334 c _ _ _ _ h) rfl (by decide) hR395 (want_f hR395 rfl rfl rfl (by decide) rfl rfl) hSw364 (fun a396 hR397 => ?_)
                refine d_pass (i := 18) rfl (by kernel_rfl) (by kernel_rfl) (by kernel_rfl) (fun c a w h => hP334 c _ _ _ _ h) rfl (by decide) hR397 (want_f hR397 rfl rfl rfl (by decide) rfl rfl) hSw364 (fun a398 hR399 => ?_)
                refine d_pass (i := 19) rfl (by kernel_rfl) (by kernel_rfl) (by kernel_rfl) (fun c a w h => hP334 c _ _ _ _ h) rfl (by decide) hR399 (want_f hR399 rfl rfl rfl (by decide) rfl rfl) hSw364 (fun a400 hR401 => ?_)
                refine d_take (i := 20) rfl (by kernel_rfl) (by kernel_rfl) (by kernel_rfl) (fun c a w h => hP334 c _ _ _ _ h) rfl (by decide) hR401 (want_n rfl) (fun x hx => r_pick_f (st_yield hR401 rfl (by decide)) hR401 rfl rfl rfl rfl (by decide) (fun _ h => ⟨h.get _ _ (by decide) rfl, rfl⟩)) hSw364 (fun a402 hR403 => ?_)
                refine d_take (i := 21) rfl (by kernel_rfl) (by kernel_rfl) (by kernel_rfl) (fun c a w h => hP334 c _ _ _ _ h) rfl (by decide) hR403 (want_n rfl) (fun x hx => r_assign (st_yield hR403 rfl (by decide)) hR403 rfl rfl rfl (by decide) (fun _ h => ⟨h.get _ _ (by decide) rfl, rfl⟩)) hSw364 (fun a404 hR405 => ?_)
                refine wpAnyH_done (by kernel_rfl) (hN335 _ _ ?_) _
                refine x_then_n (hK327 _ _ ?_)
                refine wp_ret ?_
                refine x_block_r ?_
                refine x_then_r ?_
                refine e_ret1 hR405 rfl rfl rfl ?_
                refine ⟨?_, hS363.fr⟩
                exact congrArg Ending.returned (ret_b (by first | exact (right_sort h264 (by assumption)).symm | exact (right_big h264).symm | (rw [right_con' h264 (by assumption)]; first | rfl | (simp <;> omega) | (simp [h48, h56, h58, h264, h292, h324, h345, h371, h383]; done) | (rw [Bool.eq_iff_iff]; simp <;> omega)) | (rw [right_elim' h264 (by assumption)]; first | rfl | (simp <;> omega) | (simp [h48, h56, h58, h264, h292, h324, h345, h371, h383]; done) | (rw [Bool.eq_iff_iff]; simp <;> omega)) | (rw [right_oth h264 (by omega) (by omega) (by assumption) (by assumption) (by assumption)]; first | rfl | (simp <;> omega) | (simp [h48, h56, h58, h264, h292, h324, h345, h371, h383]; done) | (rw [Bool.eq_iff_iff]; simp <;> omega))))
            · skip
              have hR406 := hR370.setb (d := 72) (b := false) rfl (decide_eq_false h371)
              refine d_pass (i := 12) rfl (by kernel_rfl) (by kernel_rfl) (by kernel_rfl) (fun c a w h => hP334 c _ _ _ _ h) rfl (by decide) hR406 (want_f hR406 rfl rfl rfl (by decide) rfl rfl) hSw364 (fun a407 hR408 => ?_)
              refine d_pass (i := 13) rfl (by kernel_rfl) (by kernel_rfl) (by kernel_rfl) (fun c a w h => hP334 c _ _ _ _ h) rfl (by decide) hR408 (want_f hR408 rfl rfl rfl (by decide) rfl rfl) hSw364 (fun a409 hR410 => ?_)
              refine d_pass (i := 14) rfl (by kernel_rfl) (by kernel_rfl) (by kernel_rfl) (fun c a w h => hP334 c _ _ _ _ h) rfl (by decide) hR410 (want_f hR410 rfl rfl rfl (by decide) rfl rfl) hSw364 (fun a411 hR412 => ?_)
              refine d_take (i := 15) rfl (by kernel_rfl) (by kernel_rfl) (by kernel_rfl) (fun c a w h => hP334 c _ _ _ _ h) rfl (by decide) hR412 (want_n rfl) (fun x hx => r_pick_f (st_yield hR412 rfl (by decide)) hR412 rfl rfl rfl rfl (by decide) (fun _ h => ⟨h.get _ _ (by decide) rfl, rfl⟩)) hSw364 (fun a413 hR414 => ?_)
              refine d_take (i := 16) rfl (by kernel_rfl) (by kernel_rfl) (by kernel_rfl) (fun c a w h => hP334 c _ _ _ _ h) rfl (by decide) hR414 (want_n rfl) (fun x hx => r_move (st_yield hR414 rfl (by decide)) hR414 rfl rfl rfl (by decide) (fun _ h => ⟨h.get _ _ (by decide) rfl, rfl⟩)) hSw364 (fun a415 hR416 => ?_)
              refine d_pass (i := 17) rfl (by kernel_rfl) (by kernel_rfl) (by kernel_rfl) (fun c a w h => hP334 c _ _ _ _ h) rfl (by decide) hR416 (want_f hR416 rfl rfl rfl (by decide) rfl rfl) hSw364 (fun a417 hR418 => ?_)
              refine d_pass (i := 18) rfl (by kernel_rfl) (by kernel_rfl) (by kernel_rfl) (fun c a w h => hP334 c _ _ _ _ h) rfl (by decide) hR418 (want_f hR418 rfl rfl rfl (by decide) rfl rfl) hSw364 (fun a419 hR420 => ?_)
              refine d_pass (i := 19) rfl (by kernel_rfl) (by kernel_rfl) (by kernel_rfl) (fun c a w h => hP334 c _ _ _ _ h) rfl (by decide) hR420 (want_f hR420 rfl rfl rfl (by decide) rfl rfl) hSw364 (fun a421 hR422 => ?_)
              refine d_take (i := 20) rfl (by kernel_rfl) (by kernel_rfl) (by kernel_rfl) (fun c a w h => hP334 c _ _ _ _ h) rfl (by decide) hR422 (want_n rfl) (fun x hx => r_pick_f (st_yield hR422 rfl (by decide)) hR422 rfl rfl rfl rfl (by decide) (fun _ h => ⟨h.get _ _ (by decide) rfl, rfl⟩)) hSw364 (fun a423 hR424 => ?_)
              refine d_take (i := 21) rfl (by kernel_rfl) (by kernel_rfl) (by kernel_rfl) (fun c a w h => hP334 c _ _ _ _ h) rfl (by decide) hR424 (want_n rfl) (fun x hx => r_assign (st_yield hR424 rfl (by decide)) hR424 rfl rfl rfl (by decide) (fun _ h => ⟨h.get _ _ (by decide) rfl, rfl⟩)) hSw364 (fun a425 hR426 => ?_)
              refine wpAnyH_done (by kernel_rfl) (hN335 _ _ ?_) _
              refine x_then_n (hK327 _ _ ?_)
              refine wp_ret ?_
              refine x_block_r ?_
              refine x_then_r ?_
              refine e_ret1 hR426 rfl rfl rfl ?_
              refine ⟨?_, hS363.fr⟩
              exact congrArg Ending.returned (ret_b (by first | exact (right_sort h264 (by assumption)).symm | exact (right_big h264).symm | (rw [right_con' h264 (by assumption)]; first | rfl | (simp <;> omega) | (simp [h48, h56, h58, h264, h292, h324, h345, h371]; done) | (rw [Bool.eq_iff_iff]; simp <;> omega)) | (rw [right_elim' h264 (by assumption)]; first | rfl | (simp <;> omega) | (simp [h48, h56, h58, h264, h292, h324, h345, h371]; done) | (rw [Bool.eq_iff_iff]; simp <;> omega)) | (rw [right_oth h264 (by omega) (by omega) (by assumption) (by assumption) (by assumption)]; first | rfl | (simp <;> omega) | (simp [h48, h56, h58, h264, h292, h324, h345, h371]; done) | (rw [Bool.eq_iff_iff]; simp <;> omega))))
          · skip
            have hR427 := hR344.setb (d := 64) (b := false) rfl (decide_eq_false h345)
            refine d_pass (i := 4) rfl (by kernel_rfl) (by kernel_rfl) (by kernel_rfl) (fun c a w h => hP334 c _ _ _ _ h) rfl (by decide) hR427 (want_f hR427 rfl rfl rfl (by decide) rfl rfl) hSw336 (fun a428 hR429 => ?_)
            refine d_pass (i := 5) rfl (by kernel_rfl) (by kernel_rfl) (by kernel_rfl) (fun c a w h => hP334 c _ _ _ _ h) rfl (by decide) hR429 (want_f hR429 rfl rfl rfl (by decide) rfl rfl) hSw336 (fun a430 hR431 => ?_)
            refine d_pass (i := 6) rfl (by kernel_rfl) (by kernel_rfl) (by kernel_rfl) (fun c a w h => hP334 c _ _ _ _ h) rfl (by decide) hR431 (want_f hR431 rfl rfl rfl (by decide) rfl rfl) hSw336 (fun a432 hR433 => ?_)
            refine d_pass (i := 7) rfl (by kernel_rfl) (by kernel_rfl) (by kernel_rfl) (fun c a w h => hP334 c _ _ _ _ h) rfl (by decide) hR433 (want_f hR433 rfl rfl rfl (by decide) rfl rfl) hSw336 (fun a434 hR435 => ?_)
            refine d_pass (i := 8) rfl (by kernel_rfl) (by kernel_rfl) (by kernel_rfl) (fun c a w h => hP334 c _ _ _ _ h) rfl (by decide) hR435 (want_f hR435 rfl rfl rfl (by decide) rfl rfl) hSw336 (fun a436 hR437 => ?_)
            refine d_pass (i := 9) rfl (by kernel_rfl) (by kernel_rfl) (by kernel_rfl) (fun c a w h => hP334 c _ _ _ _ h) rfl (by decide) hR437 (want_f hR437 rfl rfl rfl (by decide) rfl rfl) hSw336 (fun a438 hR439 => ?_)
            refine d_take (i := 10) rfl (by kernel_rfl) (by kernel_rfl) (by kernel_rfl) (fun c a w h => hP334 c _ _ _ _ h) rfl (by decide) hR439 (want_n rfl) (fun x hx => r_pick_f (st_yield hR439 rfl (by decide)) hR439 rfl rfl rfl rfl (by decide) (fun _ h => ⟨h.get _ _ (by decide) rfl, rfl⟩)) hSw336 (fun a440 hR441 => ?_)
            refine d_take (i := 11) rfl (by kernel_rfl) (by kernel_rfl) (by kernel_rfl) (fun c a w h => hP334 c _ _ _ _ h) rfl (by decide) hR441 (want_n rfl) (fun x hx => r_move (st_yield hR441 rfl (by decide)) hR441 rfl rfl rfl (by decide) (fun _ h => ⟨h.get _ _ (by decide) rfl, rfl⟩)) hSw336 (fun a442 hR443 => ?_)
            refine d_pass (i := 12) rfl (by kernel_rfl) (by kernel_rfl) (by kernel_rfl) (fun c a w h => hP334 c _ _ _ _ h) rfl (by decide) hR443 (want_f hR443 rfl rfl rfl (by decide) rfl rfl) hSw336 (fun a444 hR445 => ?_)
            refine d_pass (i := 13) rfl (by kernel_rfl) (by kernel_rfl) (by kernel_rfl) (fun c a w h => hP334 c _ _ _ _ h) rfl (by decide) hR445 (want_f hR445 rfl rfl rfl (by decide) rfl rfl) hSw336 (fun a446 hR447 => ?_)
            refine d_pass (i := 14) rfl (by kernel_rfl) (by kernel_rfl) (by kernel_rfl) (fun c a w h => hP334 c _ _ _ _ h) rfl (by decide) hR447 (want_f hR447 rfl rfl rfl (by decide) rfl rfl) hSw336 (fun a448 hR449 => ?_)
            refine d_take (i := 15) rfl (by kernel_rfl) (by kernel_rfl) (by kernel_rfl) (fun c a w h => hP334 c _ _ _ _ h) rfl (by decide) hR449 (want_n rfl) (fun x hx => r_pick_f (st_yield hR449 rfl (by decide)) hR449 rfl rfl rfl rfl (by decide) (fun _ h => ⟨h.get _ _ (by decide) rfl, rfl⟩)) hSw336 (fun a450 hR451 => ?_)
            refine d_take (i := 16) rfl (by kernel_rfl) (by kernel_rfl) (by kernel_rfl) (fun c a w h => hP334 c _ _ _ _ h) rfl (by decide) hR451 (want_n rfl) (fun x hx => r_move (st_yield hR451 rfl (by decide)) hR451 rfl rfl rfl (by decide) (fun _ h => ⟨h.get _ _ (by decide) rfl, rfl⟩)) hSw336 (fun a452 hR453 => ?_)
            refine d_pass (i := 17) rfl (by kernel_rfl) (by kernel_rfl) (by kernel_rfl) (fun c a w h => hP334 c _ _ _ _ h) rfl (by decide) hR453 (want_f hR453 rfl rfl rfl (by decide) rfl rfl) hSw336 (fun a454 hR455 => ?_)
            refine d_pass (i := 18) rfl (by kernel_rfl) (by kernel_rfl) (by kernel_rfl) (fun c a w h => hP334 c _ _ _ _ h) rfl (by decide) hR455 (want_f hR455 rfl rfl rfl (by decide) rfl rfl) hSw336 (fun a456 hR457 => ?_)
            refine d_pass (i := 19) rfl (by kernel_rfl) (by kernel_rfl) (by kernel_rfl) (fun c a w h => hP334 c _ _ _ _ h) rfl (by decide) hR457 (want_f hR457 rfl rfl rfl (by decide) rfl rfl) hSw336 (fun a458 hR459 => ?_)
            refine d_take (i := 20) rfl (by kernel_rfl) (by kernel_rfl) (by kernel_rfl) (fun c a w h => hP334 c _ _ _ _ h) rfl (by decide) hR459 (want_n rfl) (fun x hx => r_pick_f (st_yield hR459 rfl (by decide)) hR459 rfl rfl rfl rfl (by decide) (fun _ h => ⟨h.get _ _ (by decide) rfl, rfl⟩)) hSw336 (fun a460 hR461 => ?_)
            refine d_take (i := 21) rfl (by kernel_rfl) (by kernel_rfl) (by kernel_rfl) (fun c a w h => hP334 c _ _ _ _ h) rfl (by decide) hR461 (want_n rfl) (fun x hx => r_assign (st_yield hR461 rfl (by decide)) hR461 rfl rfl rfl (by decide) (fun _ h => ⟨h.get _ _ (by decide) rfl, rfl⟩)) hSw336 (fun a462 hR463 => ?_)
            refine wpAnyH_done (by kernel_rfl) (hN335 _ _ ?_) _
            refine x_then_n (hK327 _ _ ?_)
            refine wp_ret ?_
            refine x_block_r ?_
            refine x_then_r ?_
            refine e_ret1 hR463 rfl rfl rfl ?_
            refine ⟨?_, hS332.fr⟩
            exact congrArg Ending.returned (ret_b (by first | exact (right_sort h264 (by assumption)).symm | exact (right_big h264).symm | (rw [right_con' h264 (by assumption)]; first | rfl | (simp <;> omega) | (simp [h48, h56, h58, h264, h292, h324, h345]; done) | (rw [Bool.eq_iff_iff]; simp <;> omega)) | (rw [right_elim' h264 (by assumption)]; first | rfl | (simp <;> omega) | (simp [h48, h56, h58, h264, h292, h324, h345]; done) | (rw [Bool.eq_iff_iff]; simp <;> omega)) | (rw [right_oth h264 (by omega) (by omega) (by assumption) (by assumption) (by assumption)]; first | rfl | (simp <;> omega) | (simp [h48, h56, h58, h264, h292, h324, h345]; done) | (rw [Bool.eq_iff_iff]; simp <;> omega))))
        · skip
          have hR464 := hR323.setb (d := 57) (b := false) rfl (decide_eq_false h324)
          refine wp_cond_false (hR464.ev rfl) ?_
          refine wp_seq_k (fun K465 hK466 => ?_)
          refine c_region ?_
          refine m_field (j' := 0) (st_listV rfl) hR464 rfl rfl rfl Tryd.underlying32 rfl sz3 rfl rfl (by decide) (fun a467 hR468 => ?_)
          refine m_load (i := 0) (st_listV rfl) hR468 hS263 rfl rfl rfl rfl rfl Tryd.underlying3 rfl (by decide) (fun a469 hR470 => ?_)
          refine r_eql (st_listV rfl) hR470 rfl rfl rfl rfl (by decide) (fun a471 hR472 => ?_)
          refine r_assign (st_listV rfl) hR472 rfl rfl rfl (by decide) (fun a473 hR474 => ?_)
          refine wpList_nil ?_
          refine x_then_n (hK466 _ _ ?_)
          rcases Decidable.em ((n.K) = 27) with h475 | h475
          · skip
            have hR476 := hR474.setb (d := 82) (b := true) rfl (decide_eq_true h475)
            refine wp_cond_true (hR476.ev rfl) ?_
            refine wp_seq_k (fun K477 hK478 => ?_)
            refine c_region ?_
            refine m_field (j' := 2) (st_listV rfl) hR476 rfl rfl rfl Tryd.underlying32 rfl sz3 rfl rfl (by decide) (fun a479 hR480 => ?_)
            refine m_load (i := 0) (st_listV rfl) hR480 hS263 rfl rfl rfl rfl rfl Tryd.underlying3 rfl (by decide) (fun a481 hR482 => ?_)
            refine r_geq (st_listV rfl) hR482 rfl rfl rfl rfl (by decide) (fun a483 hR484 => ?_)
            refine r_move (st_listV rfl) hR484 rfl rfl rfl (by decide) (fun a485 hR486 => ?_)
            refine l_join (fun ga gw => Reg ga 110 [(1, .pointer (some ⟨g8, 0, none⟩)), (2, .bool false), (3, .pointer (some ⟨g77, 0, none⟩)), (93, .bool ((decide (0 ≤ (n.M))) && (decide ((n.M) ≤ 6)))), (1000000, .bool false)] ∧ St w0 Z none_ gw [.box g8 32 [.int .i64 (n.K), .int .i64 (n.N), .int .i64 (n.M), .string n.S], .box g77 129 [.slice A68 ((shp (((n.K)).toNat)).b.length) c69, .bool ((shp (((n.K)).toNat)).n), .bool ((shp (((n.K)).toNat)).m), .bool ((shp (((n.K)).toNat)).s)]] [dShapes, dRow 1 A68 (shp (((n.K)).toNat)).b.length c69 (encIs (shp (((n.K)).toNat)).b)]) 4 ?_ ?_
            · skip
              rcases Decidable.em (0 ≤ (n.M)) with h487 | h487
              · skip
                have hR488 := hR486.setb (d := 89) (b := true) rfl (decide_eq_true h487)
                refine m_field (j' := 2) (st_listV_w (want_t hR488 rfl rfl rfl (by decide) rfl)) hR488 rfl rfl rfl Tryd.underlying32 rfl sz3 rfl rfl (by decide) (fun a489 hR490 => ?_)
                refine m_load (i := 0) (st_listV_w (want_t hR490 rfl rfl rfl (by decide) rfl)) hR490 hS263 rfl rfl rfl rfl rfl Tryd.underlying3 rfl (by decide) (fun a491 hR492 => ?_)
                refine r_leq (st_listV_w (want_t hR492 rfl rfl rfl (by decide) rfl)) hR492 rfl rfl rfl rfl (by decide) (fun a493 hR494 => ?_)
                refine r_pick_t (st_listV rfl) hR494 rfl rfl rfl rfl (by decide) (fun a495 hR496 => ?_)
                refine wpList_nil ?_
                exact x_then_n ⟨(Reg.cons hR496 (Reg.cons hR496 (Reg.cons hR496 (Reg.consb hR496 (Reg.cons hR496 (hR496.nil) rfl) rfl (by first | rfl | (simp only [decide_eq_true h487, if_pos h487, Bool.true_and, Bool.and_true, Bool.false_and, Bool.and_false, Bool.true_or, Bool.or_true, Bool.false_or, Bool.or_false, Bool.not_true, Bool.not_false, if_true, ite_true, ite_false, Bool.false_eq_true]; done) | (simp [h487]; done) | (simp [h487]; omega))) rfl) rfl) rfl), hS263⟩
              · skip
                have hR497 := hR486.setb (d := 89) (b := false) rfl (decide_eq_false h487)
                refine s_pass hR497 rfl (by decide) (want_f hR497 rfl rfl rfl (by decide) rfl rfl) (fun a498 hR499 => ?_)
                refine s_pass hR499 rfl (by decide) (want_f hR499 rfl rfl rfl (by decide) rfl rfl) (fun a500 hR501 => ?_)
                refine s_pass hR501 rfl (by decide) (want_f hR501 rfl rfl rfl (by decide) rfl rfl) (fun a502 hR503 => ?_)
                refine r_pick_f (st_listV rfl) hR503 rfl rfl rfl rfl (by decide) (fun a504 hR505 => ?_)
                refine wpList_nil ?_
                exact x_then_n ⟨(Reg.cons hR505 (Reg.cons hR505 (Reg.cons hR505 (Reg.consb hR505 (Reg.cons hR505 (hR505.nil) rfl) rfl (by first | rfl | (simp only [decide_eq_false h487, if_neg h487, Bool.true_and, Bool.and_true, Bool.false_and, Bool.and_false, Bool.true_or, Bool.or_true, Bool.false_or, Bool.or_false, Bool.not_true, Bool.not_false, if_true, ite_true, ite_false, Bool.false_eq_true]; done) | (simp [h487]; done) | (simp [h487]; omega))) rfl) rfl) rfl), hS263⟩
            rintro a506 w507 ⟨hR508, hS509⟩
            refine r_assign (st_listV rfl) hR508 rfl rfl rfl (by decide) (fun a510 hR511 => ?_)
            refine wpList_nil ?_
            refine x_then_n (hK478 _ _ ?_)
            refine wp_ret ?_
            refine x_block_r ?_
            refine x_then_r ?_
            refine e_ret1 hR511 rfl rfl rfl ?_
            refine ⟨?_, hS509.fr⟩
            exact congrArg Ending.returned (ret_b (by first | exact (right_sort h264 (by assumption)).symm | exact (right_big h264).symm | (rw [right_con' h264 (by assumption)]; first | rfl | (simp <;> omega) | (simp [h48, h56, h58, h264, h292, h324, h475]; done) | (rw [Bool.eq_iff_iff]; simp <;> omega)) | (rw [right_elim' h264 (by assumption)]; first | rfl | (simp <;> omega) | (simp [h48, h56, h58, h264, h292, h324, h475]; done) | (rw [Bool.eq_iff_iff]; simp <;> omega)) | (rw [right_oth h264 (by omega) (by omega) (by assumption) (by assumption) (by assumption)]; first | rfl | (simp <;> omega) | (simp [h48, h56, h58, h264, h292, h324, h475]; done) | (rw [Bool.eq_iff_iff]; simp <;> omega))))
          · skip
            have hR512 := hR474.setb (d := 82) (b := false) rfl (decide_eq_false h475)
            refine wp_cond_false (hR512.ev rfl) ?_
            refine wp_skip ?_
            refine x_block_n ?_
            refine x_then_n (hK85 _ _ ?_)
            refine wp_seq_k (fun K513 hK514 => ?_)
            obtain ⟨J515, hJ516, hS517⟩ := hS263.agree
            refine d_region2 (S := (fun x => (w261.heap.size ≤ x.heap.size ∧ ∀ k, J515 k → x.heap[k]? = w261.heap[k]?) ∧ (x.cell? ⟨g8, 0, none⟩ = some (.int .i64 (n.K))) ∧ (x.cell? ⟨g8, 1, none⟩ = some (.int .i64 (n.N))) ∧ (x.cell? ⟨g8, 2, none⟩ = some (.int .i64 (n.M))) ∧ (x.cell? ⟨g8, 3, none⟩ = some (.string n.S)) ∧ (x.cell? ⟨g77, 0, none⟩ = some (.slice A68 ((shp (((n.K)).toNat)).b.length) c69)) ∧ (x.cell? ⟨g77, 1, none⟩ = some (.bool ((shp (((n.K)).toNat)).n))) ∧ (x.cell? ⟨g77, 2, none⟩ = some (.bool ((shp (((n.K)).toNat)).m))) ∧ (x.cell? ⟨g77, 3, none⟩ = some (.bool ((shp (((n.K)).toNat)).s))) ∧ (True))) (n := 17) mixed rfl hS517 (pan_then pan_body) (fun Q520 hP521 hN522 w518 hS519 => ?_)
            have hSw523 : (w261.heap.size ≤ w518.heap.size ∧ ∀ k, J515 k → w518.heap[k]? = w261.heap[k]?) ∧ (w518.cell? ⟨g8, 0, none⟩ = some (.int .i64 (n.K))) ∧ (w518.cell? ⟨g8, 1, none⟩ = some (.int .i64 (n.N))) ∧ (w518.cell? ⟨g8, 2, none⟩ = some (.int .i64 (n.M))) ∧ (w518.cell? ⟨g8, 3, none⟩ = some (.string n.S)) ∧ (w518.cell? ⟨g77, 0, none⟩ = some (.slice A68 ((shp (((n.K)).toNat)).b.length) c69)) ∧ (w518.cell? ⟨g77, 1, none⟩ = some (.bool ((shp (((n.K)).toNat)).n))) ∧ (w518.cell? ⟨g77, 2, none⟩ = some (.bool ((shp (((n.K)).toNat)).m))) ∧ (w518.cell? ⟨g77, 3, none⟩ = some (.bool ((shp (((n.K)).toNat)).s))) ∧ (True) := ⟨⟨(hS519.get (i := 2) rfl).1, fun k hk => ((hS519.get (i := 2) rfl).2 k hk).2⟩, (box_cell (hS519.res (i := 0) rfl) rfl), (box_cell (hS519.res (i := 0) rfl) rfl), (box_cell (hS519.res (i := 0) rfl) rfl), (box_cell (hS519.res (i := 0) rfl) rfl), (box_cell (hS519.res (i := 1) rfl) rfl), (box_cell (hS519.res (i := 1) rfl) rfl), (box_cell (hS519.res (i := 1) rfl) rfl), (box_cell (hS519.res (i := 1) rfl) rfl), trivial⟩
            refine d_take (i := 0) rfl (by kernel_rfl) (by kernel_rfl) (by kernel_rfl) (fun c a w h => hP521 c _ _ _ _ h) rfl (by decide) hR512 (want_n rfl) (fun x hx => m_field (j' := 1) (st_yield hR512 rfl (by decide)) hR512 rfl rfl rfl Tryd.underlying129 rfl sz4 rfl rfl (by decide) (fun _ h => ⟨h.get _ _ (by decide) rfl, rfl⟩)) hSw523 (fun a524 hR525 => ?_)
            refine d_take (i := 1) rfl (by kernel_rfl) (by kernel_rfl) (by kernel_rfl) (fun c a w h => hP521 c _ _ _ _ h) rfl (by decide) hR525 (want_n rfl) (fun x hx => m_loadC (st_yield hR525 rfl (by decide)) hR525 rfl rfl rfl hx.2.2.2.2.2.2.1 Tryd.underlying4 rfl (by decide) (fun _ h => ⟨h.get _ _ (by decide) rfl, rfl⟩)) hSw523 (fun a526 hR527 => ?_)
            refine d_take (i := 2) rfl (by kernel_rfl) (by kernel_rfl) (by kernel_rfl) (fun c a w h => hP521 c _ _ _ _ h) rfl (by decide) hR527 (want_n rfl) (fun x hx => r_not (st_yield hR527 rfl (by decide)) hR527 rfl rfl rfl (by decide) (fun _ h => ⟨h.get _ _ (by decide) rfl, rfl⟩)) hSw523 (fun a528 hR529 => ?_)
            refine d_take (i := 3) rfl (by kernel_rfl) (by kernel_rfl) (by kernel_rfl) (fun c a w h => hP521 c _ _ _ _ h) rfl (by decide) hR529 (want_n rfl) (fun x hx => r_move (st_yield hR529 rfl (by decide)) hR529 rfl rfl rfl (by decide) (fun _ h => ⟨h.get _ _ (by decide) rfl, rfl⟩)) hSw523 (fun a530 hR531 => ?_)
            rcases Bool.eq_false_or_eq_true ((shp (((n.K)).toNat)).n) with h532 | h532
            · skip
              have hR533 := hR531.setb (d := 97) (b := false) rfl (by rw [h532]; rfl)
              refine d_take (i := 4) rfl (by kernel_rfl) (by kernel_rfl) (by kernel_rfl) (fun c a w h => hP521 c _ _ _ _ h) rfl (by decide) hR533 (want_t hR533 rfl rfl rfl (by decide) rfl) (fun x hx => m_field (j' := 1) (st_yield hR533 rfl (by decide)) hR533 rfl rfl rfl Tryd.underlying32 rfl sz3 rfl rfl (by decide) (fun _ h => ⟨h.get _ _ (by decide) rfl, rfl⟩)) hSw523 (fun a534 hR535 => ?_)
              refine d_take (i := 5) rfl (by kernel_rfl) (by kernel_rfl) (by kernel_rfl) (fun c a w h => hP521 c _ _ _ _ h) rfl (by decide) hR535 (want_t hR535 rfl rfl rfl (by decide) rfl) (fun x hx => m_loadC (st_yield hR535 rfl (by decide)) hR535 rfl rfl rfl hx.2.2.1 Tryd.underlying3 rfl (by decide) (fun _ h => ⟨h.get _ _ (by decide) rfl, rfl⟩)) hSw523 (fun a536 hR537 => ?_)
              refine d_take (i := 6) rfl (by kernel_rfl) (by kernel_rfl) (by kernel_rfl) (fun c a w h => hP521 c _ _ _ _ h) rfl (by decide) hR537 (want_t hR537 rfl rfl rfl (by decide) rfl) (fun x hx => r_geq (st_yield hR537 rfl (by decide)) hR537 rfl rfl rfl rfl (by decide) (fun _ h => ⟨h.get _ _ (by decide) rfl, rfl⟩)) hSw523 (fun a538 hR539 => ?_)
              refine d_take (i := 7) rfl (by kernel_rfl) (by kernel_rfl) (by kernel_rfl) (fun c a w h => hP521 c _ _ _ _ h) rfl (by decide) hR539 (want_t hR539 rfl rfl rfl (by decide) rfl) (fun x hx => r_move (st_yield hR539 rfl (by decide)) hR539 rfl rfl rfl (by decide) (fun _ h => ⟨h.get _ _ (by decide) rfl, rfl⟩)) hSw523 (fun a540 hR541 => ?_)
              rcases Decidable.em (0 ≤ (n.N)) with h542 | h542
              · skip
                have hR543 := hR541.setb (d := 101) (b := true) rfl (decide_eq_true h542)
                refine d_take (i := 8) rfl (by kernel_rfl) (by kernel_rfl) (by kernel_rfl) (fun c a w h => hP521 c _ _ _ _ h) rfl (by decide) hR543 (want_t hR543 rfl rfl rfl (by decide) rfl) (fun x hx => m_field (j' := 1) (st_yield hR543 rfl (by decide)) hR543 rfl rfl rfl Tryd.underlying32 rfl sz3 rfl rfl (by decide) (fun _ h => ⟨h.get _ _ (by decide) rfl, rfl⟩)) hSw523 (fun a544 hR545 => ?_)
                refine d_take (i := 9) rfl (by kernel_rfl) (by kernel_rfl) (by kernel_rfl) (fun c a w h => hP521 c _ _ _ _ h) rfl (by decide) hR545 (want_t hR545 rfl rfl rfl (by decide) rfl) (fun x hx => m_loadC (st_yield hR545 rfl (by decide)) hR545 rfl rfl rfl hx.2.2.1 Tryd.underlying3 rfl (by decide) (fun _ h => ⟨h.get _ _ (by decide) rfl, rfl⟩)) hSw523 (fun a546 hR547 => ?_)
                refine d_take (i := 10) rfl (by kernel_rfl) (by kernel_rfl) (by kernel_rfl) (fun c a w h => hP521 c _ _ _ _ h) rfl (by decide) hR547 (want_t hR547 rfl rfl rfl (by decide) rfl) (fun x hx => m_field (j' := 0) (st_yield hR547 rfl (by decide)) hR547 rfl rfl rfl Tryd.underlying32 rfl sz3 rfl rfl (by decide) (fun _ h => ⟨h.get _ _ (by decide) rfl, rfl⟩)) hSw523 (fun a548 hR549 => ?_)
                refine d_take (i := 11) rfl (by kernel_rfl) (by kernel_rfl) (by kernel_rfl) (fun c a w h => hP521 c _ _ _ _ h) rfl (by decide) hR549 (want_t hR549 rfl rfl rfl (by decide) rfl) (fun x hx => m_loadC (st_yield hR549 rfl (by decide)) hR549 rfl rfl rfl hx.2.1 Tryd.underlying3 rfl (by decide) (fun _ h => ⟨h.get _ _ (by decide) rfl, rfl⟩)) hSw523 (fun a550 hR551 => ?_)
                refine d_one (i := 12) (by kernel_rfl) ?_
                have hS552 : St w0 Z none_ w518 [.box g8 32 [.int .i64 (n.K), .int .i64 (n.N), .int .i64 (n.M), .string n.S], .box g77 129 [.slice A68 ((shp (((n.K)).toNat)).b.length) c69, .bool ((shp (((n.K)).toNat)).n), .bool ((shp (((n.K)).toNat)).m), .bool ((shp (((n.K)).toNat)).s)]] [dShapes, dRow 1 A68 (shp (((n.K)).toNat)).b.length c69 (encIs (shp (((n.K)).toNat)).b), dAg w261 J515] := hS519
                refine k_call (xs := [.tmp 105]) (st_op rfl (want_t hR551 rfl rfl rfl (by decide) rfl)) hR551 rfl rfl rfl (by decide) ok130 (most_calls _ (imm Z w0 [.box g8 32 [.int .i64 (n.K), .int .i64 (n.N), .int .i64 (n.M), .string n.S], .box g77 129 [.slice A68 ((shp (((n.K)).toNat)).b.length) c69, .bool ((shp (((n.K)).toNat)).n), .bool ((shp (((n.K)).toNat)).m), .bool ((shp (((n.K)).toNat)).s)]] _) (fun _ h => h.1) (n.K)) ?_
                rintro e559 w554 ⟨rfl, hf557⟩
                have hS560 := hS552.below hf557.below
                refine ⟨_, rfl, fun a553 hR555 => ?_⟩
                have hSw561 : (w261.heap.size ≤ w554.heap.size ∧ ∀ k, J515 k → w554.heap[k]? = w261.heap[k]?) ∧ (w554.cell? ⟨g8, 0, none⟩ = some (.int .i64 (n.K))) ∧ (w554.cell? ⟨g8, 1, none⟩ = some (.int .i64 (n.N))) ∧ (w554.cell? ⟨g8, 2, none⟩ = some (.int .i64 (n.M))) ∧ (w554.cell? ⟨g8, 3, none⟩ = some (.string n.S)) ∧ (w554.cell? ⟨g77, 0, none⟩ = some (.slice A68 ((shp (((n.K)).toNat)).b.length) c69)) ∧ (w554.cell? ⟨g77, 1, none⟩ = some (.bool ((shp (((n.K)).toNat)).n))) ∧ (w554.cell? ⟨g77, 2, none⟩ = some (.bool ((shp (((n.K)).toNat)).m))) ∧ (w554.cell? ⟨g77, 3, none⟩ = some (.bool ((shp (((n.K)).toNat)).s))) ∧ (True) := ⟨⟨(hS560.get (i := 2) rfl).1, fun k hk => ((hS560.get (i := 2) rfl).2 k hk).2⟩, (box_cell (hS560.res (i := 0) rfl) rfl), (box_cell (hS560.res (i := 0) rfl) rfl), (box_cell (hS560.res (i := 0) rfl) rfl), (box_cell (hS560.res (i := 0) rfl) rfl), (box_cell (hS560.res (i := 1) rfl) rfl), (box_cell (hS560.res (i := 1) rfl) rfl), (box_cell (hS560.res (i := 1) rfl) rfl), (box_cell (hS560.res (i := 1) rfl) rfl), trivial⟩
                refine ⟨hSw561, ?_⟩
                refine d_take (i := 13) rfl (by kernel_rfl) (by kernel_rfl) (by kernel_rfl) (fun c a w h => hP521 c _ _ _ _ h) rfl (by decide) hR555 (want_t hR555 rfl rfl rfl (by decide) rfl) (fun x hx => r_leq (st_yield hR555 rfl (by decide)) hR555 rfl rfl rfl rfl (by decide) (fun _ h => ⟨h.get _ _ (by decide) rfl, rfl⟩)) hSw561 (fun a562 hR563 => ?_)
                refine d_take (i := 14) rfl (by kernel_rfl) (by kernel_rfl) (by kernel_rfl) (fun c a w h => hP521 c _ _ _ _ h) rfl (by decide) hR563 (want_t hR563 rfl rfl rfl (by decide) rfl) (fun x hx => r_pick_t (st_yield hR563 rfl (by decide)) hR563 rfl rfl rfl rfl (by decide) (fun _ h => ⟨h.get _ _ (by decide) rfl, rfl⟩)) hSw561 (fun a564 hR565 => ?_)
                refine d_take (i := 15) rfl (by kernel_rfl) (by kernel_rfl) (by kernel_rfl) (fun c a w h => hP521 c _ _ _ _ h) rfl (by decide) hR565 (want_n rfl) (fun x hx => r_pick_f (st_yield hR565 rfl (by decide)) hR565 rfl rfl rfl rfl (by decide) (fun _ h => ⟨h.get _ _ (by decide) rfl, rfl⟩)) hSw561 (fun a566 hR567 => ?_)
                refine d_take (i := 16) rfl (by kernel_rfl) (by kernel_rfl) (by kernel_rfl) (fun c a w h => hP521 c _ _ _ _ h) rfl (by decide) hR567 (want_n rfl) (fun x hx => r_assign (st_yield hR567 rfl (by decide)) hR567 rfl rfl rfl (by decide) (fun _ h => ⟨h.get _ _ (by decide) rfl, rfl⟩)) hSw561 (fun a568 hR569 => ?_)
                refine wpAnyH_done (by kernel_rfl) (hN522 _ _ ?_) _
                refine x_then_n (hK514 _ _ ?_)
                refine wp_ret ?_
                refine e_ret1 hR569 rfl rfl rfl ?_
                refine ⟨?_, hS560.fr⟩
                exact congrArg Ending.returned (ret_b (by first | exact (right_sort h264 (by assumption)).symm | exact (right_big h264).symm | (rw [right_con' h264 (by assumption)]; first | rfl | (simp <;> omega) | (simp [h48, h56, h58, h264, h292, h324, h475, h532, h542]; done) | (rw [Bool.eq_iff_iff]; simp <;> omega)) | (rw [right_elim' h264 (by assumption)]; first | rfl | (simp <;> omega) | (simp [h48, h56, h58, h264, h292, h324, h475, h532, h542]; done) | (rw [Bool.eq_iff_iff]; simp <;> omega)) | (rw [right_oth h264 (by omega) (by omega) (by assumption) (by assumption) (by assumption)]; first | rfl | (simp <;> omega) | (simp [h48, h56, h58, h264, h292, h324, h475, h532, h542]; done) | (rw [Bool.eq_iff_iff]; simp <;> omega))))
              · skip
                have hR570 := hR541.setb (d := 101) (b := false) rfl (decide_eq_false h542)
                refine d_pass (i := 8) rfl (by kernel_rfl) (by kernel_rfl) (by kernel_rfl) (fun c a w h => hP521 c _ _ _ _ h) rfl (by decide) hR570 (want_f hR570 rfl rfl rfl (by decide) rfl rfl) hSw523 (fun a571 hR572 => ?_)
                refine d_pass (i := 9) rfl (by kernel_rfl) (by kernel_rfl) (by kernel_rfl) (fun c a w h => hP521 c _ _ _ _ h) rfl (by decide) hR572 (want_f hR572 rfl rfl rfl (by decide) rfl rfl) hSw523 (fun a573 hR574 => ?_)
                refine d_pass (i := 10) rfl (by kernel_rfl) (by kernel_rfl) (by kernel_rfl) (fun c a w h => hP521 c _ _ _ _ h) rfl (by decide) hR574 (want_f hR574 rfl rfl rfl (by decide) rfl rfl) hSw523 (fun a575 hR576 => ?_)
                refine d_pass (i := 11) rfl (by kernel_rfl) (by kernel_rfl) (by kernel_rfl) (fun c a w h => hP521 c _ _ _ _ h) rfl (by decide) hR576 (want_f hR576 rfl rfl rfl (by decide) rfl rfl) hSw523 (fun a577 hR578 => ?_)
                refine d_pass (i := 12) rfl (by kernel_rfl) (by kernel_rfl) (by kernel_rfl) (fun c a w h => hP521 c _ _ _ _ h) rfl (by decide) hR578 (want_f hR578 rfl rfl rfl (by decide) rfl rfl) hSw523 (fun a579 hR580 => ?_)
                refine d_pass (i := 13) rfl (by kernel_rfl) (by kernel_rfl) (by kernel_rfl) (fun c a w h => hP521 c _ _ _ _ h) rfl (by decide) hR580 (want_f hR580 rfl rfl rfl (by decide) rfl rfl) hSw523 (fun a581 hR582 => ?_)
                refine d_take (i := 14) rfl (by kernel_rfl) (by kernel_rfl) (by kernel_rfl) (fun c a w h => hP521 c _ _ _ _ h) rfl (by decide) hR582 (want_t hR582 rfl rfl rfl (by decide) rfl) (fun x hx => r_pick_f (st_yield hR582 rfl (by decide)) hR582 rfl rfl rfl rfl (by decide) (fun _ h => ⟨h.get _ _ (by decide) rfl, rfl⟩)) hSw523 (fun a583 hR584 => ?_)
                refine d_take (i := 15) rfl (by kernel_rfl) (by kernel_rfl) (by kernel_rfl) (fun c a w h => hP521 c _ _ _ _ h) rfl (by decide) hR584 (want_n rfl) (fun x hx => r_pick_f (st_yield hR584 rfl (by decide)) hR584 rfl rfl rfl rfl (by decide) (fun _ h => ⟨h.get _ _ (by decide) rfl, rfl⟩)) hSw523 (fun a585 hR586 => ?_)
                refine d_take (i := 16) rfl (by kernel_rfl) (by kernel_rfl) (by kernel_rfl) (fun c a w h => hP521 c _ _ _ _ h) rfl (by decide) hR586 (want_n rfl) (fun x hx => r_assign (st_yield hR586 rfl (by decide)) hR586 rfl rfl rfl (by decide) (fun _ h => ⟨h.get _ _ (by decide) rfl, rfl⟩)) hSw523 (fun a587 hR588 => ?_)
                refine wpAnyH_done (by kernel_rfl) (hN522 _ _ ?_) _
                refine x_then_n (hK514 _ _ ?_)
                refine wp_ret ?_
                refine e_ret1 hR588 rfl rfl rfl ?_
                refine ⟨?_, hS519.fr⟩
                exact congrArg Ending.returned (ret_b (by first | exact (right_sort h264 (by assumption)).symm | exact (right_big h264).symm | (rw [right_con' h264 (by assumption)]; first | rfl | (simp <;> omega) | (simp [h48, h56, h58, h264, h292, h324, h475, h532, h542]; done) | (rw [Bool.eq_iff_iff]; simp <;> omega)) | (rw [right_elim' h264 (by assumption)]; first | rfl | (simp <;> omega) | (simp [h48, h56, h58, h264, h292, h324, h475, h532, h542]; done) | (rw [Bool.eq_iff_iff]; simp <;> omega)) | (rw [right_oth h264 (by omega) (by omega) (by assumption) (by assumption) (by assumption)]; first | rfl | (simp <;> omega) | (simp [h48, h56, h58, h264, h292, h324, h475, h532, h542]; done) | (rw [Bool.eq_iff_iff]; simp <;> omega))))
            · skip
              have hR589 := hR531.setb (d := 97) (b := true) rfl (by rw [h532]; rfl)
              refine d_pass (i := 4) rfl (by kernel_rfl) (by kernel_rfl) (by kernel_rfl) (fun c a w h => hP521 c _ _ _ _ h) rfl (by decide) hR589 (want_f hR589 rfl rfl rfl (by decide) rfl rfl) hSw523 (fun a590 hR591 => ?_)
              refine d_pass (i := 5) rfl (by kernel_rfl) (by kernel_rfl) (by kernel_rfl) (fun c a w h => hP521 c _ _ _ _ h) rfl (by decide) hR591 (want_f hR591 rfl rfl rfl (by decide) rfl rfl) hSw523 (fun a592 hR593 => ?_)
              refine d_pass (i := 6) rfl (by kernel_rfl) (by kernel_rfl) (by kernel_rfl) (fun c a w h => hP521 c _ _ _ _ h) rfl (by decide) hR593 (want_f hR593 rfl rfl rfl (by decide) rfl rfl) hSw523 (fun a594 hR595 => ?_)
              refine d_pass (i := 7) rfl (by kernel_rfl) (by kernel_rfl) (by kernel_rfl) (fun c a w h => hP521 c _ _ _ _ h) rfl (by decide) hR595 (want_f hR595 rfl rfl rfl (by decide) rfl rfl) hSw523 (fun a596 hR597 => ?_)
              refine d_pass (i := 8) rfl (by kernel_rfl) (by kernel_rfl) (by kernel_rfl) (fun c a w h => hP521 c _ _ _ _ h) rfl (by decide) hR597 (want_u hR597 rfl rfl rfl (by decide) rfl) hSw523 (fun a598 hR599 => ?_)
              refine d_pass (i := 9) rfl (by kernel_rfl) (by kernel_rfl) (by kernel_rfl) (fun c a w h => hP521 c _ _ _ _ h) rfl (by decide) hR599 (want_u hR599 rfl rfl rfl (by decide) rfl) hSw523 (fun a600 hR601 => ?_)
              refine d_pass (i := 10) rfl (by kernel_rfl) (by kernel_rfl) (by kernel_rfl) (fun c a w h => hP521 c _ _ _ _ h) rfl (by decide) hR601 (want_u hR601 rfl rfl rfl (by decide) rfl) hSw523 (fun a602 hR603 => ?_)
              refine d_pass (i := 11) rfl (by kernel_rfl) (by kernel_rfl) (by kernel_rfl) (fun c a w h => hP521 c _ _ _ _ h) rfl (by decide) hR603 (want_u hR603 rfl rfl rfl (by decide) rfl) hSw523 (fun a604 hR605 => ?_)
              refine d_pass (i := 12) rfl (by kernel_rfl) (by kernel_rfl) (by kernel_rfl) (fun c a w h => hP521 c _ _ _ _ h) rfl (by decide) hR605 (want_u hR605 rfl rfl rfl (by decide) rfl) hSw523 (fun a606 hR607 => ?_)
              refine d_pass (i := 13) rfl (by kernel_rfl) (by kernel_rfl) (by kernel_rfl) (fun c a w h => hP521 c _ _ _ _ h) rfl (by decide) hR607 (want_u hR607 rfl rfl rfl (by decide) rfl) hSw523 (fun a608 hR609 => ?_)
              refine d_pass (i := 14) rfl (by kernel_rfl) (by kernel_rfl) (by kernel_rfl) (fun c a w h => hP521 c _ _ _ _ h) rfl (by decide) hR609 (want_f hR609 rfl rfl rfl (by decide) rfl rfl) hSw523 (fun a610 hR611 => ?_)
              refine d_take (i := 15) rfl (by kernel_rfl) (by kernel_rfl) (by kernel_rfl) (fun c a w h => hP521 c _ _ _ _ h) rfl (by decide) hR611 (want_n rfl) (fun x hx => r_pick_t (st_yield hR611 rfl (by decide)) hR611 rfl rfl rfl rfl (by decide) (fun _ h => ⟨h.get _ _ (by decide) rfl, rfl⟩)) hSw523 (fun a612 hR613 => ?_)
              refine d_take (i := 16) rfl (by kernel_rfl) (by kernel_rfl) (by kernel_rfl) (fun c a w h => hP521 c _ _ _ _ h) rfl (by decide) hR613 (want_n rfl) (fun x hx => r_assign (st_yield hR613 rfl (by decide)) hR613 rfl rfl rfl (by decide) (fun _ h => ⟨h.get _ _ (by decide) rfl, rfl⟩)) hSw523 (fun a614 hR615 => ?_)
              refine wpAnyH_done (by kernel_rfl) (hN522 _ _ ?_) _
              refine x_then_n (hK514 _ _ ?_)
              refine wp_ret ?_
              refine e_ret1 hR615 rfl rfl rfl ?_
              refine ⟨?_, hS519.fr⟩
              exact congrArg Ending.returned (ret_b (by first | exact (right_sort h264 (by assumption)).symm | exact (right_big h264).symm | (rw [right_con' h264 (by assumption)]; first | rfl | (simp <;> omega) | (simp [h48, h56, h58, h264, h292, h324, h475, h532]; done) | (rw [Bool.eq_iff_iff]; simp <;> omega)) | (rw [right_elim' h264 (by assumption)]; first | rfl | (simp <;> omega) | (simp [h48, h56, h58, h264, h292, h324, h475, h532]; done) | (rw [Bool.eq_iff_iff]; simp <;> omega)) | (rw [right_oth h264 (by omega) (by omega) (by assumption) (by assumption) (by assumption)]; first | rfl | (simp <;> omega) | (simp [h48, h56, h58, h264, h292, h324, h475, h532]; done) | (rw [Bool.eq_iff_iff]; simp <;> omega))))
end Go.Proofs.YtobgdeffhdefeaaDoor
