import Derived.Test.YtcfponnkfhkbdaaDoorYxb
import Derived.ChangeKeysEq
/- Several terms checked, and put into one. -/
namespace Go.Proofs.YtcfponnkfhkbdaaDoor
set_option linter.unusedSimpArgs false
set_option linter.unusedVariables false
def ckE : List (List Nd) → Int
 | [] => 0
 | p :: l => if chk p = 0 then ckE l else chk p
theorem ckE_at {L : List (List Nd)} {k : Nat} (h : ∀ i, i < k → chk (nthL L i) = 0) (hk : k < L.length) (he : ¬ chk (nthL L k) = 0) : ckE L = chk (nthL L k) := by
 induction L generalizing k with
 | nil => simp at hk
 | cons p l ih =>
  cases k with
  | zero =>
   have : nthL (p :: l) 0 = p := rfl
   rw [this] at he ⊢
   simp [ckE, he]
  | succ k =>
   have h0 : chk p = 0 := h 0 (by omega)
   have : nthL (p :: l) (k + 1) = nthL l k := by simp [nthL]
   rw [this] at he ⊢
   simp only [ckE, h0, if_true]
   exact ih (fun i hi => by have := h (i + 1) (by omega); simpa [nthL] using this) (by simpa using hk) he
theorem ckE_all {L : List (List Nd)} {k : Nat} (h : ∀ i, i < k → chk (nthL L i) = 0) (hk : L.length ≤ k) : ckE L = 0 ∧ oks L := by
 have hall : oks L := fun p hp => by
  obtain ⟨i, hi, rfl⟩ := List.getElem_of_mem hp
  have := h i (by omega)
  simpa [nthL, hi] using this
 refine ⟨?_, hall⟩
 clear h hk
 induction L with
 | nil => rfl
 | cons p l ih =>
  simp only [ckE, hall p (by simp), if_true]
  exact ih (fun q hq => hall q (by simp [hq]))
def inE (t : List Nd) (l : List (List Nd)) : Int := if ckE (t :: l) = 0 then poE t 0 l else ckE (t :: l)
def inA (t : List Nd) (l : List (List Nd)) : List Nd := if inE t l = 0 then poA t 0 l else []
theorem in_err {t : List Nd} {l : List (List Nd)} (h : ¬ ckE (t :: l) = 0) : inE t l = ckE (t :: l) ∧ inA t l = [] := by
 have : inE t l = ckE (t :: l) := if_neg h
 refine ⟨this, ?_⟩
 unfold inA
 rw [this, if_neg h]
theorem in_ok {t : List Nd} {l : List (List Nd)} (h : ckE (t :: l) = 0) : inE t l = poE t 0 l ∧ inA t l = poA t 0 l := by
 have e : inE t l = poE t 0 l := if_pos h
 refine ⟨e, ?_⟩
 unfold inA
 rw [e]
 exact po_same _ _ _
theorem in_bad {t : List Nd} {l : List (List Nd)} (h : ¬ inE t l = 0) : inA t l = [] := by unfold inA; rw [if_neg h]
theorem nthS_cons (a : Sl) (l : List Sl) (k : Nat) : (nthS ([a] ++ l) k).2.2 = nthL (a.2.2 :: lsts l) k := by
 rw [lsts_nth, lsts_app]
 rfl
theorem hyp_step {L : List (List Nd)} {k : Nat} (h : ∀ i, i < k → chk (nthL L i) = 0) (hk : chk (nthL L k) = 0) : ∀ i, i < k + 1 → chk (nthL L i) = 0 := fun i hi => by
 by_cases e : i = k
 · subst e; exact hk
 · exact h i (by omega)
theorem poA_len (t : List Nd) (k : Int) (l : List (List Nd)) : (poA t k l).length ≤ 4000 := by
 unfold poA
 split
 ·
  rename_i h
  unfold poE at h
  split at h
  · exact (treeOf_ok h).2.2.2
  · rename_i h2; exact absurd h h2
 · simp
theorem inA_len (t : List Nd) (l : List (List Nd)) : (inA t l).length ≤ 4000 := by
 unfold inA
 split
 · exact poA_len t 0 l
 · simp
theorem poA_sml {t : List Nd} {l : List (List Nd)} (hc : chk t = 0) (hs : sml t) (hl : ∀ x ∈ l, sml x) : sml (poA t 0 l) := by
 unfold poA
 split
 · exact trL_sml (puV_sml hl) (meas_chk hc) hs 0
 · intro k hk; simp at hk
theorem inA_sml {t : List Nd} {l : List (List Nd)} (hs : sml t) (hl : ∀ x ∈ l, sml x) : sml (inA t l) := by
 by_cases h : ckE (t :: l) = 0
 ·
  rw [(in_ok h).2]
  have hc : chk t = 0 := by
   by_cases hc : chk t = 0
   · exact hc
   · simp only [ckE, hc, if_false] at h
  exact poA_sml hc hs hl
 · rw [(in_err h).2]; intro k hk; simp at hk
end Go.Proofs.YtcfponnkfhkbdaaDoor
/- The parts of a term by its measures, as term.backward hands them over; slices of slices made. -/
namespace Go.Proofs.YtcfponnkfhkbdaaDoor
set_option linter.unusedSimpArgs false
set_option linter.unusedVariables false
open Go Go.RowKit
theorem allTs_pre {st st' : List T} {t : List Nd} : ∀ (_ : scanT st t = some st'), ∃ r, allTs 0 st' = allTs 0 st ++ r := by
 induction t generalizing st with
 | nil =>
  intro h
  simp only [scanT] at h
  obtain rfl := Option.some.inj h
  exact ⟨[], by simp⟩
 | cons n t ih =>
  intro h
  simp only [scanT] at h
  cases hp : pushT st n with
  | none => simp [hp] at h
  | some s =>
   simp only [hp] at h
   obtain ⟨r, hr⟩ := ih h
   have := (push_meas hp rfl).2
   exact ⟨_, by rw [hr, this, List.append_assoc]⟩
theorem measL_from {t : List Nd} {e : Nat} (h : measB t = true) (he : e < t.length) : (nthM (measL t) e).1 = (frL t e : Int) := by
 obtain ⟨x, hs, h2, _, hf⟩ := measB_tree h
 obtain ⟨st, hst⟩ := meas_scan h e
 obtain ⟨hr, hm⟩ := meas_at h he hst
 have h3 := scan_step hst he
 obtain ⟨st', hp, _⟩ := push_some hr hm
 rw [hp] at h3
 have hfl := scan_flats hst (by omega)
 have h4 := (push_meas hp hfl).2
 have h5 : scanT st' (t.drop (e + 1)) = some [x] := by
  have := hs
  rw [show t = t.take (e + 1) ++ t.drop (e + 1) from (List.take_append_drop _ _).symm, scanT_append, h3] at this
  simpa using this
 obtain ⟨r, hr2⟩ := allTs_pre h5
 have hal : (allTs 0 st).length = e := by rw [allTs_length, hfl]
 have h6 : measL t = allTs 0 st ++ ((fromQ e (meas 0 st) (st.length - many (nth t e)) (many (nth t e)), deepQ (meas 0 st) (st.length - many (nth t e)) (many (nth t e))) :: r) := by
  rw [h2]
  have : allTs 0 [x] = allT 0 x := by simp [allTs]
  rw [← this, hr2, h4, List.append_assoc]
  rfl
 have h7 : nthM (measL t) e = (fromQ e (meas 0 st) (st.length - many (nth t e)) (many (nth t e)), deepQ (meas 0 st) (st.length - many (nth t e)) (many (nth t e))) := by
  rw [h6, nthM, List.getD_eq_getElem?_getD, List.getElem?_append_right (by omega), hal]
  simp
 rw [h7, ← posL_end h he]
 unfold posL
 rw [hst]
 simp only
 unfold fromQ
 split
 ·
  rename_i h0
  rw [h0, Nat.sub_zero, List.take_length, hfl]
 ·
  obtain ⟨o, h8, h9⟩ := nthM_meas (st := st) (i := st.length - many (nth t e)) (by omega)
  rw [h8, h9]
theorem ps_step {t : List Nd} {j : Nat} (h : measB t = true) (hj : j < many (nth t (t.length - 1))) : 0 < posL t (t.length - 1) j ∧ posL t (t.length - 1) j ≤ t.length - 1 ∧ (nthM (measL t) (posL t (t.length - 1) j - 1)).1 = (posL t (t.length - 1) (j + 1) : Int) ∧ posL t (t.length - 1) (j + 1) < posL t (t.length - 1) j := by
 have hp := meas_pos h
 obtain ⟨h1, h2, h3, h4⟩ := posL_step h (show t.length - 1 < t.length by omega) hj
 refine ⟨h1, h2, ?_, h4⟩
 rw [measL_from h (by omega), h3]
def bkAt (A : Option Addr) (c : Nat) (t : List Nd) (k : Nat) : Int × Sl :=
 (((many (nth t (t.length - 1)) - 1 - k : Nat) : Int), ((if c = posL t (t.length - 1) (k + 1) then A else A.map (·.add (posL t (t.length - 1) (k + 1) * 4))), c - posL t (t.length - 1) (k + 1), (t.drop (posL t (t.length - 1) (k + 1))).take (posL t (t.length - 1) k - posL t (t.length - 1) (k + 1))))
def bkS (A : Option Addr) (c : Nat) (t : List Nd) : List (Int × Sl) := (List.range (many (nth t (t.length - 1)))).map (bkAt A c t)
theorem bkS_step {A : Option Addr} {c : Nat} {t : List Nd} {k : Nat} (h : k < many (nth t (t.length - 1))) : (bkS A c t).take k ++ [bkAt A c t k] = (bkS A c t).take (k + 1) := by
 rw [List.take_add_one]
 have : (bkS A c t)[k]? = some (bkAt A c t k) := by simp [bkS, h]
 rw [this]
 rfl
theorem bkS_len (A : Option Addr) (c : Nat) (t : List Nd) : (bkS A c t).length = many (nth t (t.length - 1)) := by simp [bkS]
theorem bkS_all {A : Option Addr} {c : Nat} {t : List Nd} {k : Nat} (h : many (nth t (t.length - 1)) ≤ k) : (bkS A c t).take k = bkS A c t := List.take_of_length_le (by rw [bkS_len]; exact h)
theorem bkS_pre {A : Option Addr} {c : Nat} {t : List Nd} {k : Nat} {x : Int × Sl} (h : k < many (nth t (t.length - 1))) (hx : x = bkAt A c t k) : (bkS A c t).take k ++ [x] <+: bkS A c t := by
 rw [hx, bkS_step h]
 exact List.take_prefix _ _
theorem bk_eq {A : Option Addr} {c : Nat} {t : List Nd} {k f : Nat} {i : Int} (hi : i = ((many (nth t (t.length - 1)) - 1 - k : Nat) : Int)) (hf : f = posL t (t.length - 1) (k + 1)) :
  ((i, ((if c = f then A else A.map (·.add (f * 4))), c - f, (t.drop f).take (posL t (t.length - 1) k - f))) : Int × Sl) = bkAt A c t k := by
 subst hi hf
 rfl
theorem bkS_next {A : Option Addr} {c : Nat} {t : List Nd} {pre : List (Int × Sl)} {k : Nat} {x : Int × Sl} (hk : pre.length = k) (h : pre ++ [x] <+: bkS A c t) : k < many (nth t (t.length - 1)) ∧ x = bkAt A c t k := by
 obtain ⟨r, hr⟩ := h
 have hl := congrArg List.length hr
 rw [List.length_append, List.length_append, List.length_singleton, bkS_len, hk] at hl
 have hlt : k < many (nth t (t.length - 1)) := by omega
 have h1 : (bkS A c t)[k]? = some x := by
  rw [← hr, List.append_assoc, List.getElem?_append_right (by omega), hk]
  simp
 refine ⟨hlt, ?_⟩
 simp [bkS, hlt] at h1
 exact h1.symm
theorem bk_row {A : Option Addr} {c : Nat} {t : List Nd} {w : World} {I : Nat → Prop} {k : Nat} (hb : measB t = true) (h : (dRow 4 A t.length c (encNs t)).φ w I) (hk : k < many (nth t (t.length - 1))) :
  (dRow 4 (bkAt A c t k).2.1 (bkAt A c t k).2.2.2.length (bkAt A c t k).2.2.1 (encNs (bkAt A c t k).2.2.2)).φ w I := by
 obtain ⟨h1, h2, _, h4⟩ := ps_step hb hk
 exact cut_row (f := encN) (L := t) h encN_len (by omega)
theorem arg_step {t : List Nd} {Ls : List Sl} {k : Nat} {A : Option Addr} {c : Nat} {A' : Option Addr} {c' : Nat} (hb : measB t = true) (hL : lsts Ls.reverse = ptD t k) (hk : k < many (nth t (t.length - 1))) : lsts (Ls ++ [((A', c', (bkAt A c t k).2.2.2) : Sl)]).reverse = ptD t (k + 1) := by
 rw [List.reverse_append]
 exact parts_step hb hL hk rfl rfl
theorem rep_set {n k i : Nat} {Ls : List Sl} {x : Sl} (h : k < n) (hi : i = n - 1 - k) : (List.replicate (n - k) slz ++ Ls.reverse).set i x = List.replicate (n - (k + 1)) slz ++ (Ls ++ [x]).reverse := by
 subst hi
 rw [List.set_append_left _ _ (by rw [List.length_replicate]; omega), show n - k = (n - 1 - k) + 1 by omega, List.replicate_succ', List.set_append_right _ _ (by rw [List.length_replicate]; omega)]
 simp
 omega
theorem all_rep {w : World} {I : Nat → Prop} (n : Nat) : (dAll (List.replicate n slz)).φ w I := fun s hs => by
 rw [List.eq_of_mem_replicate hs]
 exact ⟨Nat.le_refl _, RowI.nil _ _ _ _⟩
def agA (t : List Nd) : List (List Nd) := if chk t = 0 then ptL t else []
theorem agA_ok {t : List Nd} (h : chk t = 0) : agA t = ptL t := if_pos h
theorem agA_no {t : List Nd} (h : ¬ chk t = 0) : agA t = [] := if_neg h
theorem zeros_encS (n : Nat) : (List.replicate n slz).flatMap encS = List.replicate n (.slice none 0 0) := by
 induction n with
 | zero => rfl
 | succ n ih => rw [List.replicate_succ, List.flatMap_cons, ih]; rfl
section
variable {P : Program} {X : Prop} {Next : Act → World → Prop} {o : Oper} {a : Act} {w w0 : World} {N : Nat} {l : List (Nat × Value)} {d : Nat} {Z M : Nat → Prop} {m : List Res} {ds : List Dat}
theorem m_makeSs {t e : TypeId} {n by_ : Nat} {x y : Operand} {p q : Int} {kx ky : IntKind} (hs : SteV P X Next o a w) (hR : Reg a N l) (hS : St w0 Z M w m ds) (hd : o.dst = some d) (ho : o.op = .makeSlice t x y) (hx : ev l x = some (.int kx p)) (hy : ev l y = some (.int ky q))
  (hp : p = (n : Int)) (hq' : q = (n : Int)) (ht : P.underlying t = some (.slice e)) (hi : (P.info? e).map (fun i => (i.zero, i.size, i.bytes)) = some (some (.slice none 0 0), 1, by_)) (hby : by_ ≤ 100) (hn : n ≤ 1000) (hdN : d < N)
  (k : ∀ a' w' g, Reg a' N ((d, .slice (some ⟨g, 0, none⟩) (List.replicate n slz).length (List.replicate n slz).length) :: l) → St w0 Z M w' (m ++ [.row (some ⟨g, 0, none⟩) (List.replicate n slz).length (List.replicate n slz).length e 1 (encSs (List.replicate n slz))]) ds → Next a' w') : X :=
 m_makeSlice hs hR hS hd ho hx hy hp hq' ht hi rfl rfl (decide_eq_true (by omega)) (by omega) hdN (fun a' w' g hR' hS' => k a' w' g (by rw [List.length_replicate]; exact hR') (by rw [List.length_replicate, encSs, zeros_encS]; exact hS'))
end
end Go.Proofs.YtcfponnkfhkbdaaDoor
/- Contracts of functions, one theorem each: what the call returns, and that nothing old is changed. Printed by gen.py. -/
namespace Go.Proofs.YtcfponnkfhkbdaaDoor
open Go Go.RowKit
set_option linter.unusedSimpArgs false
set_option linter.unusedVariables false
set_option maxRecDepth 100000 in
set_option maxHeartbeats 1000000 in
theorem lv_calls (w0 : World) (Z : Nat → Prop) (hZ : ∀ k, Z k → k < w0.heap.size) (n : Int)  :
    Calls Tryd.prog 135 [.int .i64 n].toArray w0 (fun e w' => e = .returned (.bool (!decide (0 ≤ n ∧ n ≤ 9))) ∧ Fr none_ w0 w') := by
 have b0 := s0 (M := none_) hZ zn
 refine c_enter Tryd.func135 rfl Tryd.ntmps135 rfl (fun c0 d0 => ?_)
 refine wsc (fun c0 f0 => ?_)
 refine asg d0 (fun c0 h0 => ?_)
 refine wpList_nil (x_then_n (f0 _ _ ?_))
 refine wsc (fun f0 c0 => ?_)
 refine mv h0 (fun f0 d0 => ?_)
 refine r_lss sv d0 rfl rfl rfl rfl (by decide) (fun f0 h0 => ?_)
 refine mv h0 (fun f0 d0 => ?_)
 refine l_join (fun ga gw => Reg ga 9 [(2, .bool false), (8, .bool ((decide ((n) < 0)) || (decide (9 < (n))))), (1000000, .bool false)] ∧ St w0 Z none_ gw [] []) 3 ?_ ?_
 ·
  rcases Decidable.em ((n) < 0) with f0 | f0
  ·
   have h0 := d0.setb (d := 5) (b := true) rfl (decide_eq_true f0)
   refine sps h0 (wff h0) (fun i0 j0 => ?_)
   refine sps j0 (wff j0) (fun i0 h0 => ?_)
   refine r_pick_t sv h0 rfl rfl rfl rfl (by decide) (fun i0 j0 => ?_)
   refine wpList_nil ?_
   exact x_then_n ⟨(j0.sub (rc rfl (rc (rb rfl (by (simp only [decide_eq_true f0, if_pos f0, bl]; done))) (rc rfl rnl)))), b0⟩
  ·
   have j0 := d0.setb (d := 5) (b := false) rfl (decide_eq_false f0)
   refine r_move (st_listV_w (wt j0)) j0 rfl rfl rfl (by decide) (fun d0 i0 => ?_)
   refine r_gtr (st_listV_w (wt i0)) i0 rfl rfl rfl rfl (by decide) (fun d0 j0 => ?_)
   refine r_pick_f sv j0 rfl rfl rfl rfl (by decide) (fun d0 i0 => ?_)
   refine wpList_nil ?_
   exact x_then_n ⟨(i0.sub (rc rfl (rc (rb rfl (by (simp only [decide_eq_false f0, if_neg f0, bl]; done))) (rc rfl rnl)))), b0⟩
 rintro i0 f0 ⟨b0, d0⟩
 refine asg b0 (fun f0 i0 => ?_)
 refine wpList_nil (x_then_n (c0 _ _ ?_))
 refine wp_ret ?_
 refine e_ret1 i0 rfl rfl rfl ?_
 refine ⟨?_, d0.fr⟩
 exact congrArg Ending.returned (ret_b (by (rw [Bool.eq_iff_iff]; simp [] <;> omega)))
set_option maxRecDepth 100000 in
set_option maxHeartbeats 1000000 in
theorem lvIndex_calls (w0 : World) (Z : Nat → Prop) (hZ : ∀ k, Z k → k < w0.heap.size) (tA : Option Addr) (tc : Nat) (t : List Int) (ht : (dRow 1 tA t.length tc (encIs t)).φ w0 Z) (hl : t.length ≤ 1000000 := by first | assumption | omega | (simp; done) | (simp; omega)) :
    Calls Tryd.prog 137 [.slice tA t.length tc, .func (.func 135) #[] #[]].toArray w0 (fun e w' => e = .returned (.int .i64 (lvIndex t)) ∧ Fr none_ w0 w') := by
 have b0 := s0 (M := none_) hZ (zc ht zn)
 refine c_enter Tryd.func137 rfl Tryd.ntmps137 rfl (fun c0 d0 => ?_)
 refine wsc (fun c0 f0 => ?_)
 refine asg d0 (fun c0 i0 => ?_)
 refine wpList_nil (x_then_n (f0 _ _ ?_))
 refine wp_seq_k (fun f0 c0 => ?_)
 refine wsc (fun f0 d0 => ?_)
 refine mv i0 (fun f0 j0 => ?_)
 refine r_len sv j0 rfl rfl rfl rfl Tryd.underlying79 (by decide) (fun f0 i0 => ?_)
 refine mv i0 (fun f0 j0 => ?_)
 refine wpList_nil (x_then_n (d0 _ _ ?_))
 refine wp_block ?_
 refine wp_loop_ghost (fun gn ga gw => ∃ k : Nat, (Reg ga 19 [(1000000, .bool false), (0, .slice tA t.length tc), (1, .func (.func 135) #[] #[]), (7, .int .i64 ((t.length : Nat) : Int)), (8, .int .i64 ((k : Nat) : Int))]) ∧ (St w0 Z none_ gw [] [dRow 1 tA t.length tc (encIs t)]) ∧ (k ≤ t.length) ∧ (lvIndex t = (let r := lvIndex (t.drop k); if r < 0 then r else r + (k : Int))) ∧ (t.length - k) = gn) _ ⟨0, (j0.sub (rc rfl (rc rfl (rc rfl (rc rfl (rc rfl rnl)))))), b0, by omega, by simp, rfl⟩ ?_
 rintro j0 b0 d0 ⟨k, f0, i0, hk, hi, k0⟩
 refine wsc (fun k0 d0 => ?_)
 refine r_lss sv f0 rfl rfl rfl rfl (by decide) (fun k0 b0 => ?_)
 refine wpList_nil (x_then_n (d0 _ _ ?_))
 refine wp_seq_k (fun d0 k0 => ?_)
 rcases Decidable.em (((k : Nat) : Int) < ((t.length : Nat) : Int)) with d0 | d0
 ·
  have f0 := b0.setb (d := 9) (b := true) rfl (decide_eq_true d0)
  refine wp_cond_true (f0.ev rfl) ?_
  refine wp_skip ?_
  refine x_then_n (k0 _ _ ?_)
  refine wp_seq_k (fun k0 j0 => ?_)
  refine wp_block ?_
  refine wsc (fun k0 m0 => ?_)
  refine mv f0 (fun k0 n0 => ?_)
  refine asg n0 (fun k0 f0 => ?_)
  refine wpList_nil (x_then_n (m0 _ _ ?_))
  refine wsc (fun m0 k0 => ?_)
  refine mv f0 (fun m0 n0 => ?_)
  refine mv n0 (fun m0 f0 => ?_)
  refine mv f0 (fun m0 n0 => ?_)
  refine m_index (i := k) (j := k * 1) sv n0 rfl rfl rfl rfl Tryd.underlying79 sz3 (by omega) (by omega) (ints_elem (t := t) (k := k) (i0.row (i := 0) rfl).2 (by omega)).some_ rfl (by decide) (fun m0 f0 => ?_)
  refine m_loadE sv f0 rfl rfl rfl 0 (k * 1) (ints_elem (t := t) (k := k) (i0.row (i := 0) rfl).2 (by omega)) rfl rfl Tryd.underlying3 rfl (by decide) (fun m0 n0 => ?_)
  have m0 := i0.nf
  refine k_callV (xs := [.tmp 15]) se n0 rfl rfl rfl rfl (by decide) ok135 (lv_calls _ _ m0.il ((nthI t k))) ?_
  rintro n0 f0 ⟨rfl, o0⟩
  have f0 := m0.below o0.below
  refine ⟨_, rfl, fun o0 m0 => ?_⟩
  refine wpList_nil (x_then_n (k0 _ _ ?_))
  rcases Bool.eq_false_or_eq_true (!decide (0 ≤ ((nthI t k)) ∧ ((nthI t k)) ≤ 9)) with k0 | k0
  ·
   have o0 := not_t k0
   have n0 := of_decide_eq_false o0
   have o0 := m0.setb (d := 16) (b := true) rfl k0
   refine wp_cond_true (o0.ev rfl) ?_
   refine wsc (fun p0 q0 => ?_)
   refine mv o0 (fun p0 t0 => ?_)
   refine asg t0 (fun p0 o0 => ?_)
   refine wpList_nil (x_then_n (q0 _ _ ?_))
   refine wp_ret ?_
   refine x_block_r ?_
   refine x_then_r ?_
   refine x_then_r ?_
   refine x_block_r ?_
   refine x_then_r ?_
   refine e_ret1 o0 rfl rfl rfl ?_
   refine ⟨?_, f0.fr⟩
   exact congrArg Ending.returned (ret_i (by exact (lvIndex_here (k := k) hi (by omega) (by intro o0; have q := n0; simp at q; omega)).symm))
  ·
   have o0 := not_f k0
   have n0 := of_decide_eq_true o0
   have o0 := m0.setb (d := 16) (b := false) rfl k0
   refine wp_cond_false (o0.ev rfl) ?_
   refine wp_skip ?_
   refine x_block_n ?_
   refine x_then_n (j0 _ _ ?_)
   refine c_region ?_
   refine r_add (z := ((k + 1 : Nat) : Int)) sv o0 rfl rfl rfl rfl (by decide) (by omega) (by omega) (by omega) (fun j0 k0 => ?_)
   refine mv k0 (fun j0 o0 => ?_)
   refine wpList_nil ?_
   exact ⟨_, by omega, k + 1, (o0.sub (rc rfl (rc rfl (rc rfl (rc rfl (rc rfl rnl)))))), f0, by omega, lvIndex_step hi (by omega) (by have q := n0; simpa using q), rfl⟩
 ·
  have o0 := b0.setb (d := 9) (b := false) rfl (decide_eq_false d0)
  refine wp_cond_false (o0.ev rfl) ?_
  refine wp_exit ?_
  refine x_then_e ?_
  refine x_then_e ?_
  refine x_block_eq ?_
  refine x_then_n (c0 _ _ ?_)
  refine wsc (fun c0 d0 => ?_)
  refine asg o0 (fun c0 b0 => ?_)
  refine wpList_nil (x_then_n (d0 _ _ ?_))
  refine wp_ret ?_
  refine e_ret1 b0 rfl rfl rfl ?_
  refine ⟨?_, i0.fr⟩
  exact congrArg Ending.returned (ret_i (by exact (lvIndex_none hi (by omega)).symm))
set_option maxRecDepth 100000 in
set_option maxHeartbeats 1000000 in
theorem lvContains_calls (w0 : World) (Z : Nat → Prop) (hZ : ∀ k, Z k → k < w0.heap.size) (tA : Option Addr) (tc : Nat) (t : List Int) (ht : (dRow 1 tA t.length tc (encIs t)).φ w0 Z) (hl : t.length ≤ 1000000 := by first | assumption | omega | (simp; done) | (simp; omega)) :
    Calls Tryd.prog 134 [.slice tA t.length tc, .func (.func 135) #[] #[]].toArray w0 (fun e w' => e = .returned (.bool (decide (0 ≤ lvIndex t))) ∧ Fr none_ w0 w') := by
 have b0 := s0 (M := none_) hZ (zc ht zn)
 refine c_enter Tryd.func134 rfl Tryd.ntmps134 rfl (fun c0 d0 => ?_)
 refine wsc (fun c0 f0 => ?_)
 refine asg d0 (fun c0 h0 => ?_)
 refine wpList_nil (x_then_n (f0 _ _ ?_))
 refine wsc (fun f0 c0 => ?_)
 refine mv h0 (fun f0 d0 => ?_)
 refine mv d0 (fun f0 h0 => ?_)
 have f0 := b0.nf
 refine k_call (xs := [.tmp 5, .tmp 6]) se h0 rfl rfl rfl (by decide) ok137 (lvIndex_calls _ _ f0.il _ _ _ (f0.g 0)) ?_
 rintro h0 b0 ⟨rfl, d0⟩
 have b0 := f0.below d0.below
 refine ⟨_, rfl, fun d0 f0 => ?_⟩
 refine r_geq sv f0 rfl rfl rfl rfl (by decide) (fun d0 h0 => ?_)
 refine asg h0 (fun d0 f0 => ?_)
 refine wpList_nil (x_then_n (c0 _ _ ?_))
 refine wp_ret ?_
 refine e_ret1 f0 rfl rfl rfl ?_
 refine ⟨?_, b0.fr⟩
 exact congrArg Ending.returned (ret_b (by rfl))
set_option maxRecDepth 100000 in
set_option maxHeartbeats 1000000 in
theorem lvAll_calls (w0 : World) (Z : Nat → Prop) (hZ : ∀ k, Z k → k < w0.heap.size) (tA : Option Addr) (tc : Nat) (t : List Int) (ht : (dRow 1 tA t.length tc (encIs t)).φ w0 Z) (hl : t.length ≤ 1000000 := by first | assumption | omega | (simp; done) | (simp; omega)) :
    Calls Tryd.prog 130 [.slice tA t.length tc].toArray w0 (fun e w' => e = .returned (.bool (!decide (0 ≤ lvIndex t))) ∧ Fr none_ w0 w') := by
 have b0 := s0 (M := none_) hZ (zc ht zn)
 refine c_enter Tryd.func130 rfl Tryd.ntmps130 rfl (fun c0 d0 => ?_)
 refine wsc (fun c0 f0 => ?_)
 refine asg d0 (fun c0 h0 => ?_)
 refine wpList_nil (x_then_n (f0 _ _ ?_))
 refine wsc (fun f0 c0 => ?_)
 refine mv h0 (fun f0 d0 => ?_)
 have f0 := b0.nf
 refine k_call (xs := [.tmp 3, .func 135]) se d0 rfl rfl rfl (by decide) ok134 (lvContains_calls _ _ f0.il _ _ _ (f0.g 0)) ?_
 rintro d0 b0 ⟨rfl, h0⟩
 have b0 := f0.below h0.below
 refine ⟨_, rfl, fun h0 f0 => ?_⟩
 refine r_not sv f0 rfl rfl rfl (by decide) (fun h0 d0 => ?_)
 refine asg d0 (fun h0 f0 => ?_)
 refine wpList_nil (x_then_n (c0 _ _ ?_))
 refine wp_ret ?_
 refine e_ret1 f0 rfl rfl rfl ?_
 refine ⟨?_, b0.fr⟩
 exact congrArg Ending.returned (ret_b (by rfl))
set_option maxRecDepth 100000 in
set_option maxHeartbeats 1000000 in
theorem lvCheck_calls (w0 : World) (Z : Nat → Prop) (hZ : ∀ k, Z k → k < w0.heap.size) (n : Int)  :
    Calls Tryd.prog 123 [.int .i64 n].toArray w0 (fun e w' => e = .returned (.int .i64 (lvChk n)) ∧ Fr none_ w0 w') := by
 have b0 := s0 (M := none_) hZ zn
 refine c_enter Tryd.func123 rfl Tryd.ntmps123 rfl (fun c0 d0 => ?_)
 refine wsc (fun c0 f0 => ?_)
 refine asg d0 (fun c0 h0 => ?_)
 refine wpList_nil (x_then_n (f0 _ _ ?_))
 refine wp_seq_k (fun f0 c0 => ?_)
 refine wsc (fun f0 d0 => ?_)
 refine mv h0 (fun f0 i0 => ?_)
 refine mbs [(0, .tmp 3)] [.int .i64 (n)] sv i0 b0 Tryd.underlying79 zi3 (fun f0 h0 j0 k0 m0 => ?_)
 have h0 := m0.nf
 have m0 := own_cap (h0.res (i := 0) rfl)
 obtain ⟨f0, i0⟩ := h0.row_data (i := 0) rfl (fun _ h => h)
 have h0 := f0.data (dRow 1 (some ⟨j0, 0, none⟩) 1 1 (encIs ([(n)]))) ⟨m0, i0⟩
 refine k_call (xs := [.tmp 4]) se k0 rfl rfl rfl (by decide) ok130 (lvAll_calls _ _ h0.il _ _ ([(n)]) (h0.g 0)) ?_
 rintro k0 i0 ⟨rfl, f0⟩
 have i0 := h0.below f0.below
 refine ⟨_, rfl, fun f0 h0 => ?_⟩
 refine r_not sv h0 rfl rfl rfl (by decide) (fun f0 k0 => ?_)
 refine wpList_nil (x_then_n (d0 _ _ ?_))
 rcases Bool.eq_false_or_eq_true (!decide (0 ≤ lvIndex ([(n)]))) with d0 | d0
 ·
  have f0 := not_t d0
  have h0 := of_decide_eq_false f0
  have f0 := k0.setb (d := 6) (b := false) rfl (by rw [d0]; rfl)
  refine wp_cond_false (f0.ev rfl) ?_
  refine wp_skip ?_
  refine x_then_n (c0 _ _ ?_)
  refine wsc (fun c0 m0 => ?_)
  refine asg f0 (fun c0 j0 => ?_)
  refine wpList_nil (x_then_n (m0 _ _ ?_))
  refine wp_ret ?_
  refine e_ret1 j0 rfl rfl rfl ?_
  refine ⟨?_, i0.fr⟩
  exact congrArg Ending.returned (ret_i (by exact (lvChk_good (by have q := h0; simpa using q)).symm))
 ·
  have h0 := not_f d0
  have j0 := of_decide_eq_true h0
  have h0 := k0.setb (d := 6) (b := true) rfl (by rw [d0]; rfl)
  refine wp_cond_true (h0.ev rfl) ?_
  refine wsc (fun d0 k0 => ?_)
  refine asg h0 (fun d0 m0 => ?_)
  refine wpList_nil (x_then_n (k0 _ _ ?_))
  refine wp_ret ?_
  refine x_then_r ?_
  refine e_ret1 m0 rfl rfl rfl ?_
  refine ⟨?_, i0.fr⟩
  exact congrArg Ending.returned (ret_i (by exact (lvChk_bad (by have q := j0; simpa using q)).symm))
set_option maxRecDepth 100000 in
set_option maxHeartbeats 1000000 in
theorem most_calls (w0 : World) (Z : Nat → Prop) (hZ : ∀ k, Z k → k < w0.heap.size) (k : Int)  :
    Calls Tryd.prog 124 [.int .i64 k].toArray w0 (fun e w' => e = .returned (.int .i64 (most k)) ∧ Fr none_ w0 w') := by
 have b0 := s0 (M := none_) hZ zn
 refine c_enter Tryd.func124 rfl Tryd.ntmps124 rfl (fun c0 d0 => ?_)
 refine wsc (fun c0 f0 => ?_)
 refine asg d0 (fun c0 h0 => ?_)
 refine wpList_nil (x_then_n (f0 _ _ ?_))
 refine wp_seq_k (fun f0 c0 => ?_)
 refine wsc (fun f0 d0 => ?_)
 refine mv h0 (fun f0 i0 => ?_)
 refine wpList_nil (x_then_n (d0 _ _ ?_))
 refine wp_block ?_
 refine wsc (fun d0 f0 => ?_)
 refine r_eql sv i0 rfl rfl rfl rfl (by decide) (fun d0 h0 => ?_)
 refine asg h0 (fun d0 i0 => ?_)
 refine wpList_nil (x_then_n (f0 _ _ ?_))
 rcases Decidable.em ((k) = 0) with f0 | f0
 ·
  have d0 := i0.setb (d := 4) (b := true) rfl (decide_eq_true f0)
  refine wp_cond_true (d0.ev rfl) ?_
  refine wsc (fun h0 j0 => ?_)
  refine asg d0 (fun h0 k0 => ?_)
  refine wpList_nil (x_then_n (j0 _ _ ?_))
  refine wp_ret ?_
  refine x_block_r ?_
  refine x_then_r ?_
  refine e_ret1 k0 rfl rfl rfl ?_
  refine ⟨?_, b0.fr⟩
  exact congrArg Ending.returned (ret_i (by have k0 := f0; (try simp at k0);  unfold most; (repeat' split) <;> omega))
 ·
  have j0 := i0.setb (d := 4) (b := false) rfl (decide_eq_false f0)
  refine wp_cond_false (j0.ev rfl) ?_
  refine c_join (fun ga gw => Reg ga 9 [(2, .int .i64 0), (6, .bool ((decide ((k) = 3)) || (decide ((k) = 6)))), (1000000, .bool false)] ∧ St w0 Z none_ gw [] []) ?_ ?_
  ·
   refine wsc (fun i0 h0 => ?_)
   refine r_eql sv j0 rfl rfl rfl rfl (by decide) (fun i0 d0 => ?_)
   refine asg d0 (fun i0 j0 => ?_)
   refine wpList_nil (x_then_n (h0 _ _ ?_))
   rcases Decidable.em ((k) = 3) with h0 | h0
   ·
    have i0 := j0.setb (d := 6) (b := true) rfl (decide_eq_true h0)
    refine wp_cond_true (i0.ev rfl) ?_
    refine wp_skip ?_
    exact x_then_n ⟨(i0.sub (rc rfl (rc (rb rfl (by (simp only [decide_eq_true h0, if_pos h0, bl]; done))) (rc rfl rnl)))), b0⟩
   ·
    have i0 := j0.setb (d := 6) (b := false) rfl (decide_eq_false h0)
    refine wp_cond_false (i0.ev rfl) ?_
    refine c_region ?_
    refine r_eql sv i0 rfl rfl rfl rfl (by decide) (fun j0 d0 => ?_)
    refine asg d0 (fun j0 i0 => ?_)
    refine wpList_nil ?_
    exact x_then_n ⟨(i0.sub (rc rfl (rc (rb rfl (by (simp only [decide_eq_false h0, if_neg h0, bl]; done))) (rc rfl rnl)))), b0⟩
  rintro i0 h0 ⟨b0, j0⟩
  rcases Bool.eq_false_or_eq_true (((decide ((k) = 3)) || (decide ((k) = 6)))) with h0 | h0
  ·
   have i0 := h0
   try simp only [Bool.or_eq_true, Bool.and_eq_true, Bool.not_eq_true', Bool.not_eq_false', decide_eq_true_eq, decide_eq_false_iff_not, Bool.or_eq_false_iff, Bool.and_eq_false_iff] at i0
   have i0 := b0.setb (d := 6) (b := true) rfl h0
   refine wp_cond_true (i0.ev rfl) ?_
   refine wsc (fun d0 m0 => ?_)
   refine asg i0 (fun d0 n0 => ?_)
   refine wpList_nil (x_then_n (m0 _ _ ?_))
   refine wp_ret ?_
   refine x_block_r ?_
   refine x_then_r ?_
   refine e_ret1 n0 rfl rfl rfl ?_
   refine ⟨?_, j0.fr⟩
   exact congrArg Ending.returned (ret_i (by have k0 := f0; (try simp at k0); have n0 := h0; (try simp at n0);  unfold most; (repeat' split) <;> omega))
  ·
   have m0 := or_fl h0
   have d0 := of_decide_eq_false m0
   have m0 := or_fr h0
   have i0 := of_decide_eq_false m0
   have m0 := b0.setb (d := 6) (b := false) rfl h0
   refine wp_cond_false (m0.ev rfl) ?_
   refine wp_skip ?_
   refine x_block_n ?_
   refine x_then_n (c0 _ _ ?_)
   refine wsc (fun c0 b0 => ?_)
   refine asg m0 (fun c0 o0 => ?_)
   refine wpList_nil (x_then_n (b0 _ _ ?_))
   refine wp_ret ?_
   refine e_ret1 o0 rfl rfl rfl ?_
   refine ⟨?_, j0.fr⟩
   exact congrArg Ending.returned (ret_i (by have k0 := f0; (try simp at k0); have n0 := h0; (try simp at n0); have j0 := d0; (try simp at j0); have o0 := i0; (try simp at o0);  unfold most; (repeat' split) <;> omega))
set_option maxRecDepth 100000 in
set_option maxHeartbeats 1000000 in
theorem many_calls (w0 : World) (Z : Nat → Prop) (hZ : ∀ k, Z k → k < w0.heap.size) (n : Nd) (hShp : Shapes w0 Z) (hr : right n = true := by first | assumption | omega | (simp; done) | (simp; omega)) :
    Calls Tryd.prog 58 [.agg #[.int .i64 (n.K), .int .i64 (n.N), .int .i64 (n.M), .string n.S]].toArray w0 (fun e w' => e = .returned (.int .i64 ((many n : Nat) : Int)) ∧ Fr none_ w0 w') := by
 have b0 := s0 (M := none_) hZ (zc (d := dShapes) hShp zn)
 obtain ⟨c0, d0⟩ := right_K hr
 refine c_enter Tryd.func58 rfl Tryd.ntmps58 rfl (fun d0 c0 => ?_)
 refine wsc (fun d0 f0 => ?_)
 refine m_box (cs := [.int .i64 (n.K), .int .i64 (n.N), .int .i64 (n.M), .string n.S]) sv c0 b0 rfl rfl rfl rfl (by decide) (fun d0 h0 i0 j0 k0 => ?_)
 refine asg j0 (fun i0 h0 => ?_)
 refine wpList_nil (x_then_n (f0 _ _ ?_))
 refine wp_seq_k (fun f0 i0 => ?_)
 refine wsc (fun f0 j0 => ?_)
 refine m_field (j' := 0) sv h0 rfl rfl rfl Tryd.underlying39 rfl sz3 rfl rfl (by decide) (fun f0 d0 => ?_)
 refine m_load (i := 0) sv d0 k0 rfl rfl rfl rfl rfl Tryd.underlying3 rfl (by decide) (fun f0 h0 => ?_)
 refine wpList_nil (x_then_n (j0 _ _ ?_))
 refine wp_block ?_
 refine wsc (fun j0 f0 => ?_)
 refine r_eql sv h0 rfl rfl rfl rfl (by decide) (fun j0 d0 => ?_)
 refine asg d0 (fun j0 h0 => ?_)
 refine wpList_nil (x_then_n (f0 _ _ ?_))
 rcases Decidable.em ((n.K) = 26) with f0 | f0
 ·
  have j0 := h0.setb (d := 5) (b := true) rfl (decide_eq_true f0)
  refine wp_cond_true (j0.ev rfl) ?_
  refine wsc (fun d0 c0 => ?_)
  refine m_field (j' := 2) sv j0 rfl rfl rfl Tryd.underlying39 rfl sz3 rfl rfl (by decide) (fun d0 b0 => ?_)
  refine m_load (i := 0) sv b0 k0 rfl rfl rfl rfl rfl Tryd.underlying3 rfl (by decide) (fun d0 j0 => ?_)
  refine asg j0 (fun d0 b0 => ?_)
  refine wpList_nil (x_then_n (c0 _ _ ?_))
  refine wp_ret ?_
  refine x_block_r ?_
  refine x_then_r ?_
  refine e_ret1 b0 rfl rfl rfl ?_
  refine ⟨?_, k0.fr⟩
  exact congrArg Ending.returned (ret_i (by exact many_con hr (by omega)))
 ·
  have b0 := h0.setb (d := 5) (b := false) rfl (decide_eq_false f0)
  refine wp_cond_false (b0.ev rfl) ?_
  refine wsc (fun f0 h0 => ?_)
  refine r_eql sv b0 rfl rfl rfl rfl (by decide) (fun f0 c0 => ?_)
  refine asg c0 (fun f0 b0 => ?_)
  refine wpList_nil (x_then_n (h0 _ _ ?_))
  rcases Decidable.em ((n.K) = 27) with h0 | h0
  ·
   obtain ⟨f0, c0⟩ := right_elim hr h0
   have c0 := b0.setb (d := 9) (b := true) rfl (decide_eq_true h0)
   refine wp_cond_true (c0.ev rfl) ?_
   refine wsc (fun f0 d0 => ?_)
   refine m_field (j' := 2) sv c0 rfl rfl rfl Tryd.underlying39 rfl sz3 rfl rfl (by decide) (fun f0 j0 => ?_)
   refine m_load (i := 0) sv j0 k0 rfl rfl rfl rfl rfl Tryd.underlying3 rfl (by decide) (fun f0 c0 => ?_)
   refine r_add (z := (n.M + 2)) sv c0 rfl rfl rfl rfl (by decide) (by omega) (by omega) (by omega) (fun f0 j0 => ?_)
   refine asg j0 (fun f0 c0 => ?_)
   refine wpList_nil (x_then_n (d0 _ _ ?_))
   refine wp_ret ?_
   refine x_block_r ?_
   refine x_then_r ?_
   refine e_ret1 c0 rfl rfl rfl ?_
   refine ⟨?_, k0.fr⟩
   exact congrArg Ending.returned (ret_i (by first | exact many_elim hr (by omega) | exact many_oth (by omega) (by omega)))
  ·
   have c0 := b0.setb (d := 9) (b := false) rfl (decide_eq_false h0)
   refine wp_cond_false (c0.ev rfl) ?_
   refine wp_skip ?_
   refine x_block_n ?_
   refine x_then_n (i0 _ _ ?_)
   refine wsc (fun i0 h0 => ?_)
   refine m_field (j' := 0) sv c0 rfl rfl rfl Tryd.underlying39 rfl sz3 rfl rfl (by decide) (fun i0 b0 => ?_)
   refine m_load (i := 0) sv b0 k0 rfl rfl rfl rfl rfl Tryd.underlying3 rfl (by decide) (fun i0 c0 => ?_)
   refine m_indexA (i := ((n.K)).toNat) (j := (((n.K)).toNat) * 4) sv c0 rfl rfl rfl rfl Tryd.underlying114 sz113 (by omega) (by omega) rfl (by decide) (fun i0 b0 => ?_)
   refine m_fieldE (j' := (((n.K)).toNat) * 4) sv b0 rfl rfl rfl rfl Tryd.underlying113 rfl sz79 rfl rfl (by decide) (fun i0 c0 => ?_)
   obtain ⟨i0, b0, d0, f0⟩ := shapes_at (k0.get (i := 0) rfl) (((n.K)).toNat) (by omega)
   have j0 := k0.data (dRow 1 i0 (shp (((n.K)).toNat)).b.length b0 (encIs (shp (((n.K)).toNat)).b)) d0
   refine m_loadE sv c0 rfl rfl rfl 0 ((((n.K)).toNat) * 4) f0 rfl rfl Tryd.underlying79 rfl (by decide) (fun d0 b0 => ?_)
   refine r_len sv b0 rfl rfl rfl rfl Tryd.underlying79 (by decide) (fun d0 f0 => ?_)
   refine asg f0 (fun d0 b0 => ?_)
   refine wpList_nil (x_then_n (h0 _ _ ?_))
   refine wp_ret ?_
   refine e_ret1 b0 rfl rfl rfl ?_
   refine ⟨?_, j0.fr⟩
   exact congrArg Ending.returned (ret_i (by first | exact many_elim hr (by omega) | exact many_oth (by omega) (by omega)))
set_option maxRecDepth 100000 in
set_option maxHeartbeats 1000000 in
theorem name_calls (w0 : World) (Z : Nat → Prop) (hZ : ∀ k, Z k → k < w0.heap.size) (s : ByteArray) (hs : s.size < 1000000 := by first | assumption | omega | (simp; done) | (simp; omega)) :
    Calls Tryd.prog 122 [.string s].toArray w0 (fun e w' => e = .returned (.bool (nameOk s)) ∧ Fr none_ w0 w') := by
 have b0 := s0 (M := none_) hZ zn
 refine c_enter Tryd.func122 rfl Tryd.ntmps122 rfl (fun c0 d0 => ?_)
 refine wsc (fun c0 f0 => ?_)
 refine asg d0 (fun c0 h0 => ?_)
 refine wpList_nil (x_then_n (f0 _ _ ?_))
 refine wp_seq_k (fun f0 c0 => ?_)
 refine wsc (fun f0 d0 => ?_)
 refine mv h0 (fun f0 i0 => ?_)
 refine r_lenS sv i0 rfl rfl rfl rfl Tryd.underlying9 (by decide) (fun f0 h0 => ?_)
 refine mv h0 (fun f0 i0 => ?_)
 refine wpList_nil (x_then_n (d0 _ _ ?_))
 refine wp_block ?_
 refine wp_loop_ghost (fun gn ga gw => ∃ k : Nat, (Reg ga 48 [(1000000, .bool false), (0, .string s), (7, .int .i64 ((s.size : Nat) : Int)), (8, .int .i64 ((k : Nat) : Int))]) ∧ (St w0 Z none_ gw [] []) ∧ (k ≤ s.size) ∧ (nameTo s k) ∧ (s.size - k) = gn) _ ⟨0, (i0.sub (rc rfl (rc rfl (rc rfl (rc rfl rnl))))), b0, by omega, nameTo_zero s, rfl⟩ ?_
 rintro i0 b0 d0 ⟨k, f0, h0, hk, hi, j0⟩
 refine wsc (fun j0 d0 => ?_)
 refine r_lss sv f0 rfl rfl rfl rfl (by decide) (fun j0 b0 => ?_)
 refine wpList_nil (x_then_n (d0 _ _ ?_))
 refine wp_seq_k (fun d0 j0 => ?_)
 rcases Decidable.em (((k : Nat) : Int) < ((s.size : Nat) : Int)) with d0 | d0
 ·
  have f0 := b0.setb (d := 9) (b := true) rfl (decide_eq_true d0)
  refine wp_cond_true (f0.ev rfl) ?_
  refine wp_skip ?_
  refine x_then_n (j0 _ _ ?_)
  refine wp_seq_k (fun j0 i0 => ?_)
  refine wp_block ?_
  refine wsc (fun j0 k0 => ?_)
  refine mv f0 (fun j0 m0 => ?_)
  refine asg m0 (fun j0 f0 => ?_)
  refine wpList_nil (x_then_n (k0 _ _ ?_))
  refine wsc (fun k0 j0 => ?_)
  refine mv f0 (fun k0 m0 => ?_)
  refine mv m0 (fun k0 f0 => ?_)
  refine r_byte (i := k) sv f0 rfl rfl rfl rfl Tryd.underlying9 (by omega) (by omega) (by decide) (fun k0 m0 => ?_)
  refine asg m0 (fun k0 f0 => ?_)
  refine wpList_nil (x_then_n (j0 _ _ ?_))
  refine wsc (fun j0 k0 => ?_)
  refine mv f0 (fun j0 m0 => ?_)
  refine r_int (v := .int .u8 ((orB (byteAt s k) 32 : Nat) : Int)) sv m0 rfl rfl rfl rfl (by decide) (run_or8 (a := byteAt s k) (b := 32) (by exact byteAt_lt _ _) (by omega)) (fun j0 f0 => ?_)
  refine r_geq sv f0 rfl rfl rfl rfl (by decide) (fun j0 m0 => ?_)
  refine mv m0 (fun j0 f0 => ?_)
  refine l_join (fun ga gw => Reg ga 48 [(0, .string s), (3, .int .i64 ((k : Nat) : Int)), (4, .int .u8 ((byteAt s k : Nat) : Int)), (7, .int .i64 ((s.size : Nat) : Int)), (8, .int .i64 ((k : Nat) : Int)), (21, .bool ((decide (97 ≤ ((orB (byteAt s k) 32 : Nat) : Int))) && (decide (((orB (byteAt s k) 32 : Nat) : Int) ≤ 122)))), (1000000, .bool false)] ∧ St w0 Z none_ gw [] []) 4 ?_ ?_
  ·
   rcases Decidable.em (97 ≤ ((orB (byteAt s k) 32 : Nat) : Int)) with j0 | j0
   ·
    have m0 := f0.setb (d := 17) (b := true) rfl (decide_eq_true j0)
    refine r_move (st_listV_w (wt m0)) m0 rfl rfl rfl (by decide) (fun n0 o0 => ?_)
    refine r_int (v := .int .u8 ((orB (byteAt s k) 32 : Nat) : Int)) (st_listV_w (wt o0)) o0 rfl rfl rfl rfl (by decide) (run_or8 (a := byteAt s k) (b := 32) (by exact byteAt_lt _ _) (by omega)) (fun n0 m0 => ?_)
    refine r_leq (st_listV_w (wt m0)) m0 rfl rfl rfl rfl (by decide) (fun n0 o0 => ?_)
    refine r_pick_t sv o0 rfl rfl rfl rfl (by decide) (fun n0 m0 => ?_)
    refine wpList_nil ?_
    exact x_then_n ⟨(m0.sub (rc rfl (rc rfl (rc rfl (rc rfl (rc rfl (rc (rb rfl (by (simp only [decide_eq_true j0, if_pos j0, bl]; done))) (rc rfl rnl)))))))), h0⟩
   ·
    have m0 := f0.setb (d := 17) (b := false) rfl (decide_eq_false j0)
    refine sps m0 (wff m0) (fun f0 n0 => ?_)
    refine sps n0 (wff n0) (fun f0 m0 => ?_)
    refine sps m0 (wff m0) (fun f0 n0 => ?_)
    refine r_pick_f sv n0 rfl rfl rfl rfl (by decide) (fun f0 m0 => ?_)
    refine wpList_nil ?_
    exact x_then_n ⟨(m0.sub (rc rfl (rc rfl (rc rfl (rc rfl (rc rfl (rc (rb rfl (by (simp only [decide_eq_false j0, if_neg j0, bl]; done))) (rc rfl rnl)))))))), h0⟩
  rintro m0 j0 ⟨f0, n0⟩
  refine mv f0 (fun j0 m0 => ?_)
  refine l_join (fun ga gw => Reg ga 48 [(0, .string s), (3, .int .i64 ((k : Nat) : Int)), (4, .int .u8 ((byteAt s k : Nat) : Int)), (7, .int .i64 ((s.size : Nat) : Int)), (8, .int .i64 ((k : Nat) : Int)), (25, .bool (((decide (97 ≤ ((orB (byteAt s k) 32 : Nat) : Int))) && (decide (((orB (byteAt s k) 32 : Nat) : Int) ≤ 122))) || (decide (((byteAt s k : Nat) : Int) = 95)))), (1000000, .bool false)] ∧ St w0 Z none_ gw [] []) 3 ?_ ?_
  ·
   rcases Bool.eq_false_or_eq_true (((decide (97 ≤ ((orB (byteAt s k) 32 : Nat) : Int))) && (decide (((orB (byteAt s k) 32 : Nat) : Int) ≤ 122)))) with j0 | j0
   ·
    have f0 := and_tl j0
    have o0 := of_decide_eq_true f0
    have o0 := and_tr j0
    have f0 := of_decide_eq_true o0
    have f0 := m0.setb (d := 22) (b := true) rfl j0
    refine sps f0 (wff f0) (fun o0 p0 => ?_)
    refine sps p0 (wff p0) (fun o0 f0 => ?_)
    refine r_pick_t sv f0 rfl rfl rfl rfl (by decide) (fun o0 p0 => ?_)
    refine wpList_nil ?_
    exact x_then_n ⟨(p0.sub (rc rfl (rc rfl (rc rfl (rc rfl (rc rfl (rc (rb rfl (by (simp only [j0, bl]; done))) (rc rfl rnl)))))))), n0⟩
   ·
    have p0 := j0
    try simp only [Bool.or_eq_true, Bool.and_eq_true, Bool.not_eq_true', Bool.not_eq_false', decide_eq_true_eq, decide_eq_false_iff_not, Bool.or_eq_false_iff, Bool.and_eq_false_iff] at p0
    have p0 := m0.setb (d := 22) (b := false) rfl j0
    refine r_move (st_listV_w (wt p0)) p0 rfl rfl rfl (by decide) (fun m0 o0 => ?_)
    refine r_eql (st_listV_w (wt o0)) o0 rfl rfl rfl rfl (by decide) (fun m0 p0 => ?_)
    refine r_pick_f sv p0 rfl rfl rfl rfl (by decide) (fun m0 o0 => ?_)
    refine wpList_nil ?_
    exact x_then_n ⟨(o0.sub (rc rfl (rc rfl (rc rfl (rc rfl (rc rfl (rc (rb rfl (by (simp only [j0, bl]; done))) (rc rfl rnl)))))))), n0⟩
  rintro o0 j0 ⟨n0, m0⟩
  refine asg n0 (fun j0 o0 => ?_)
  refine wpList_nil (x_then_n (k0 _ _ ?_))
  refine wsc (fun k0 j0 => ?_)
  refine mv o0 (fun k0 n0 => ?_)
  refine r_not sv n0 rfl rfl rfl (by decide) (fun k0 o0 => ?_)
  refine mv o0 (fun k0 n0 => ?_)
  refine l_join (fun ga gw => Reg ga 48 [(0, .string s), (7, .int .i64 ((s.size : Nat) : Int)), (8, .int .i64 ((k : Nat) : Int)), (39, .bool ((!(((decide (97 ≤ ((orB (byteAt s k) 32 : Nat) : Int))) && (decide (((orB (byteAt s k) 32 : Nat) : Int) ≤ 122))) || (decide (((byteAt s k : Nat) : Int) = 95)))) && ((decide (((k : Nat) : Int) = 0)) || ((decide (((byteAt s k : Nat) : Int) < 48)) || (decide (57 < ((byteAt s k : Nat) : Int))))))), (1000000, .bool false)] ∧ St w0 Z none_ gw [] []) 11 ?_ ?_
  ·
   rcases Bool.eq_false_or_eq_true ((((decide (97 ≤ ((orB (byteAt s k) 32 : Nat) : Int))) && (decide (((orB (byteAt s k) 32 : Nat) : Int) ≤ 122))) || (decide (((byteAt s k : Nat) : Int) = 95)))) with k0 | k0
   ·
    have o0 := k0
    try simp only [Bool.or_eq_true, Bool.and_eq_true, Bool.not_eq_true', Bool.not_eq_false', decide_eq_true_eq, decide_eq_false_iff_not, Bool.or_eq_false_iff, Bool.and_eq_false_iff] at o0
    have o0 := n0.setb (d := 28) (b := false) rfl (by rw [k0]; rfl)
    refine sps o0 (wff o0) (fun p0 f0 => ?_)
    refine sps f0 (wff f0) (fun p0 o0 => ?_)
    refine sps o0 (wff o0) (fun p0 f0 => ?_)
    refine sps f0 (wu f0) (fun p0 o0 => ?_)
    refine sps o0 (wu o0) (fun p0 f0 => ?_)
    refine sps f0 (wff f0) (fun p0 o0 => ?_)
    refine sps o0 (wff o0) (fun p0 f0 => ?_)
    refine sps f0 (wu f0) (fun p0 o0 => ?_)
    refine sps o0 (wu o0) (fun p0 f0 => ?_)
    refine sps f0 (wff f0) (fun p0 o0 => ?_)
    refine r_pick_f sv o0 rfl rfl rfl rfl (by decide) (fun p0 f0 => ?_)
    refine wpList_nil ?_
    exact x_then_n ⟨(f0.sub (rc rfl (rc rfl (rc rfl (rc (rb rfl (by (simp only [k0, bl]; done))) (rc rfl rnl)))))), m0⟩
   ·
    have f0 := or_fl k0
    have p0 := f0
    try simp only [Bool.or_eq_true, Bool.and_eq_true, Bool.not_eq_true', Bool.not_eq_false', decide_eq_true_eq, decide_eq_false_iff_not, Bool.or_eq_false_iff, Bool.and_eq_false_iff] at p0
    have p0 := or_fr k0
    have f0 := of_decide_eq_false p0
    have f0 := n0.setb (d := 28) (b := true) rfl (by rw [k0]; rfl)
    refine r_move (st_listV_w (wt f0)) f0 rfl rfl rfl (by decide) (fun n0 p0 => ?_)
    refine r_eql (st_listV_w (wt p0)) p0 rfl rfl rfl rfl (by decide) (fun n0 f0 => ?_)
    refine r_move (st_listV_w (wt f0)) f0 rfl rfl rfl (by decide) (fun n0 p0 => ?_)
    rcases Decidable.em (((k : Nat) : Int) = 0) with n0 | n0
    ·
     have f0 := p0.setb (d := 31) (b := true) rfl (decide_eq_true n0)
     refine sps f0 (wff f0) (fun o0 t0 => ?_)
     refine sps t0 (wff t0) (fun o0 f0 => ?_)
     refine r_pick_t (st_listV_w (wt f0)) f0 rfl rfl rfl rfl (by decide) (fun o0 t0 => ?_)
     refine r_move (st_listV_w (wt t0)) t0 rfl rfl rfl (by decide) (fun o0 f0 => ?_)
     refine sps f0 (wff f0) (fun o0 t0 => ?_)
     refine sps t0 (wff t0) (fun o0 f0 => ?_)
     refine r_pick_t (st_listV_w (wt f0)) f0 rfl rfl rfl rfl (by decide) (fun o0 t0 => ?_)
     refine r_pick_t sv t0 rfl rfl rfl rfl (by decide) (fun o0 f0 => ?_)
     refine wpList_nil ?_
     exact x_then_n ⟨(f0.sub (rc rfl (rc rfl (rc rfl (rc (rb rfl (by (simp only [k0, decide_eq_true n0, if_pos n0, bl]; done))) (rc rfl rnl)))))), m0⟩
    ·
     have f0 := p0.setb (d := 31) (b := false) rfl (decide_eq_false n0)
     refine r_move (st_listV_w (wt f0)) f0 rfl rfl rfl (by decide) (fun p0 o0 => ?_)
     refine r_lss (st_listV_w (wt o0)) o0 rfl rfl rfl rfl (by decide) (fun p0 f0 => ?_)
     refine r_pick_f (st_listV_w (wt f0)) f0 rfl rfl rfl rfl (by decide) (fun p0 o0 => ?_)
     refine r_move (st_listV_w (wt o0)) o0 rfl rfl rfl (by decide) (fun p0 f0 => ?_)
     rcases Decidable.em (((byteAt s k : Nat) : Int) < 48) with p0 | p0
     ·
      have o0 := f0.setb (d := 35) (b := true) rfl (decide_eq_true p0)
      refine sps o0 (wff o0) (fun t0 u0 => ?_)
      refine sps u0 (wff u0) (fun t0 o0 => ?_)
      refine r_pick_t (st_listV_w (wt o0)) o0 rfl rfl rfl rfl (by decide) (fun t0 u0 => ?_)
      refine r_pick_t sv u0 rfl rfl rfl rfl (by decide) (fun t0 o0 => ?_)
      refine wpList_nil ?_
      exact x_then_n ⟨(o0.sub (rc rfl (rc rfl (rc rfl (rc (rb rfl (by (simp only [k0, decide_eq_false n0, if_neg n0, decide_eq_true p0, if_pos p0, bl]; done))) (rc rfl rnl)))))), m0⟩
     ·
      have o0 := f0.setb (d := 35) (b := false) rfl (decide_eq_false p0)
      refine r_move (st_listV_w (wt o0)) o0 rfl rfl rfl (by decide) (fun f0 t0 => ?_)
      refine r_gtr (st_listV_w (wt t0)) t0 rfl rfl rfl rfl (by decide) (fun f0 o0 => ?_)
      refine r_pick_f (st_listV_w (wt o0)) o0 rfl rfl rfl rfl (by decide) (fun f0 t0 => ?_)
      refine r_pick_t sv t0 rfl rfl rfl rfl (by decide) (fun f0 o0 => ?_)
      refine wpList_nil ?_
      exact x_then_n ⟨(o0.sub (rc rfl (rc rfl (rc rfl (rc (rb rfl (by (simp only [k0, decide_eq_false n0, if_neg n0, decide_eq_false p0, if_neg p0, bl]; done))) (rc rfl rnl)))))), m0⟩
  rintro o0 p0 ⟨n0, k0⟩
  refine wpList_nil (x_then_n (j0 _ _ ?_))
  rcases Bool.eq_false_or_eq_true (((!(((decide (97 ≤ ((orB (byteAt s k) 32 : Nat) : Int))) && (decide (((orB (byteAt s k) 32 : Nat) : Int) ≤ 122))) || (decide (((byteAt s k : Nat) : Int) = 95)))) && ((decide (((k : Nat) : Int) = 0)) || ((decide (((byteAt s k : Nat) : Int) < 48)) || (decide (57 < ((byteAt s k : Nat) : Int))))))) with j0 | j0
  ·
   have p0 := and_tl j0
   have o0 := not_t p0
   have p0 := or_fl o0
   have m0 := p0
   try simp only [Bool.or_eq_true, Bool.and_eq_true, Bool.not_eq_true', Bool.not_eq_false', decide_eq_true_eq, decide_eq_false_iff_not, Bool.or_eq_false_iff, Bool.and_eq_false_iff] at m0
   have m0 := or_fr o0
   have o0 := of_decide_eq_false m0
   have m0 := and_tr j0
   have p0 := m0
   try simp only [Bool.or_eq_true, Bool.and_eq_true, Bool.not_eq_true', Bool.not_eq_false', decide_eq_true_eq, decide_eq_false_iff_not, Bool.or_eq_false_iff, Bool.and_eq_false_iff] at p0
   have p0 := n0.setb (d := 39) (b := true) rfl j0
   refine wp_cond_true (p0.ev rfl) ?_
   refine wsc (fun m0 f0 => ?_)
   refine asg p0 (fun m0 t0 => ?_)
   refine wpList_nil (x_then_n (f0 _ _ ?_))
   refine wp_ret ?_
   refine x_block_r ?_
   refine x_then_r ?_
   refine x_then_r ?_
   refine x_block_r ?_
   refine x_then_r ?_
   refine e_ret1 t0 rfl rfl rfl ?_
   refine ⟨?_, k0.fr⟩
   exact congrArg Ending.returned (ret_b (by exact (name_bad (k := k) (by omega) (by have t0 := d0; (try simp at t0); have f0 := j0; (try simp at f0); have m0 := o0; (try simp at m0);  unfold okC; omega)).symm))
  ·
   have m0 := j0
   try simp only [Bool.or_eq_true, Bool.and_eq_true, Bool.not_eq_true', Bool.not_eq_false', decide_eq_true_eq, decide_eq_false_iff_not, Bool.or_eq_false_iff, Bool.and_eq_false_iff] at m0
   have m0 := n0.setb (d := 39) (b := false) rfl j0
   refine wp_cond_false (m0.ev rfl) ?_
   refine wp_skip ?_
   refine x_block_n ?_
   refine x_then_n (i0 _ _ ?_)
   refine c_region ?_
   refine r_add (z := ((k + 1 : Nat) : Int)) sv m0 rfl rfl rfl rfl (by decide) (by omega) (by omega) (by omega) (fun i0 n0 => ?_)
   refine mv n0 (fun i0 m0 => ?_)
   refine wpList_nil ?_
   exact ⟨_, by omega, k + 1, (m0.sub (rc rfl (rc rfl (rc rfl (rc rfl rnl))))), k0, by omega, nameTo_step hi (by have t0 := d0; (try simp at t0); have f0 := j0; (try simp at f0);  unfold okC; omega), rfl⟩
 ·
  have m0 := b0.setb (d := 9) (b := false) rfl (decide_eq_false d0)
  refine wp_cond_false (m0.ev rfl) ?_
  refine wp_exit ?_
  refine x_then_e ?_
  refine x_then_e ?_
  refine x_block_eq ?_
  refine x_then_n (c0 _ _ ?_)
  refine wsc (fun c0 d0 => ?_)
  refine mv m0 (fun c0 b0 => ?_)
  refine r_neqS sv b0 rfl rfl rfl rfl (by decide) (fun c0 m0 => ?_)
  refine mv m0 (fun c0 b0 => ?_)
  refine l_join (fun ga gw => Reg ga 48 [(47, .bool ((!(decide (s = (⟨#[]⟩ : ByteArray)))) && (decide (((s.size : Nat) : Int) ≤ 16)))), (1000000, .bool false)] ∧ St w0 Z none_ gw [] []) 4 ?_ ?_
  ·
   rcases Decidable.em (s = (⟨#[]⟩ : ByteArray)) with c0 | c0
   ·
    have m0 := b0.setb (d := 43) (b := false) rfl (by rw [(decide_eq_true c0)]; rfl)
    refine sps m0 (wff m0) (fun f0 t0 => ?_)
    refine sps t0 (wff t0) (fun f0 m0 => ?_)
    refine sps m0 (wff m0) (fun f0 t0 => ?_)
    refine r_pick_f sv t0 rfl rfl rfl rfl (by decide) (fun f0 m0 => ?_)
    refine wpList_nil ?_
    exact x_then_n ⟨(m0.sub (rc (rb rfl (by (simp only [decide_eq_true c0, if_pos c0, bl]; done))) (rc rfl rnl))), h0⟩
   ·
    have m0 := b0.setb (d := 43) (b := true) rfl (by rw [(decide_eq_false c0)]; rfl)
    refine r_move (st_listV_w (wt m0)) m0 rfl rfl rfl (by decide) (fun b0 f0 => ?_)
    refine r_lenS (st_listV_w (wt f0)) f0 rfl rfl rfl rfl Tryd.underlying9 (by decide) (fun b0 m0 => ?_)
    refine r_leq (st_listV_w (wt m0)) m0 rfl rfl rfl rfl (by decide) (fun b0 f0 => ?_)
    refine r_pick_t sv f0 rfl rfl rfl rfl (by decide) (fun b0 m0 => ?_)
    refine wpList_nil ?_
    exact x_then_n ⟨(m0.sub (rc (rb rfl (by (simp only [decide_eq_false c0, if_neg c0, bl]; done))) (rc rfl rnl))), h0⟩
  rintro m0 c0 ⟨h0, b0⟩
  refine asg h0 (fun c0 m0 => ?_)
  refine wpList_nil (x_then_n (d0 _ _ ?_))
  refine wp_ret ?_
  refine e_ret1 m0 rfl rfl rfl ?_
  refine ⟨?_, b0.fr⟩
  exact congrArg Ending.returned (ret_b (by (rw [name_end hi (by omega)]; done)))
end Go.Proofs.YtcfponnkfhkbdaaDoor
/- Contracts of functions, one theorem each: what the call returns, and that nothing old is changed. Printed by gen.py. -/
namespace Go.Proofs.YtcfponnkfhkbdaaDoor
open Go Go.RowKit
set_option linter.unusedSimpArgs false
set_option linter.unusedVariables false
set_option maxRecDepth 100000 in
set_option maxHeartbeats 1000000 in
theorem right_calls (w0 : World) (Z : Nat → Prop) (hZ : ∀ k, Z k → k < w0.heap.size) (n : Nd) (hShp : Shapes w0 Z) (hs : n.S.size < 1000000 := by first | assumption | omega | (simp; done) | (simp; omega)) :
    Calls Tryd.prog 112 [.agg #[.int .i64 (n.K), .int .i64 (n.N), .int .i64 (n.M), .string n.S]].toArray w0 (fun e w' => e = .returned (.bool (right n)) ∧ Fr none_ w0 w') := by
 have b0 := s0 (M := none_) hZ (zc (d := dShapes) hShp zn)
 refine c_enter Tryd.func112 rfl Tryd.ntmps112 rfl (fun c0 d0 => ?_)
 refine wsc (fun c0 f0 => ?_)
 refine m_box (cs := [.int .i64 (n.K), .int .i64 (n.N), .int .i64 (n.M), .string n.S]) sv d0 b0 rfl rfl rfl rfl (by decide) (fun c0 h0 i0 j0 k0 => ?_)
 refine asg j0 (fun h0 c0 => ?_)
 refine wpList_nil (x_then_n (f0 _ _ ?_))
 refine wp_seq_k (fun f0 h0 => ?_)
 refine wsc (fun f0 j0 => ?_)
 refine m_field (j' := 0) sv c0 rfl rfl rfl Tryd.underlying39 rfl sz3 rfl rfl (by decide) (fun f0 d0 => ?_)
 refine m_load (i := 0) sv d0 k0 rfl rfl rfl rfl rfl Tryd.underlying3 rfl (by decide) (fun f0 c0 => ?_)
 refine r_lss sv c0 rfl rfl rfl rfl (by decide) (fun f0 d0 => ?_)
 refine mv d0 (fun f0 c0 => ?_)
 refine l_join (fun ga gw => Reg ga 110 [(1, .pointer (some ⟨i0, 0, none⟩)), (2, .bool false), (11, .bool ((decide ((n.K) < 0)) || (decide (30 ≤ (n.K))))), (1000000, .bool false)] ∧ St w0 Z none_ gw [.box i0 39 [.int .i64 (n.K), .int .i64 (n.N), .int .i64 (n.M), .string n.S]] [dShapes]) 4 ?_ ?_
 ·
  rcases Decidable.em ((n.K) < 0) with f0 | f0
  ·
   have d0 := c0.setb (d := 7) (b := true) rfl (decide_eq_true f0)
   refine sps d0 (wff d0) (fun b0 m0 => ?_)
   refine sps m0 (wff m0) (fun b0 d0 => ?_)
   refine sps d0 (wff d0) (fun b0 m0 => ?_)
   refine r_pick_t sv m0 rfl rfl rfl rfl (by decide) (fun b0 d0 => ?_)
   refine wpList_nil ?_
   exact x_then_n ⟨(d0.sub (rc rfl (rc rfl (rc (rb rfl (by (simp only [decide_eq_true f0, if_pos f0, bl]; done))) (rc rfl rnl))))), k0⟩
  ·
   have d0 := c0.setb (d := 7) (b := false) rfl (decide_eq_false f0)
   refine m_field (j' := 0) (st_listV_w (wt d0)) d0 rfl rfl rfl Tryd.underlying39 rfl sz3 rfl rfl (by decide) (fun c0 b0 => ?_)
   refine m_load (i := 0) (st_listV_w (wt b0)) b0 k0 rfl rfl rfl rfl rfl Tryd.underlying3 rfl (by decide) (fun c0 d0 => ?_)
   refine r_geq (st_listV_w (wt d0)) d0 rfl rfl rfl rfl (by decide) (fun c0 b0 => ?_)
   refine r_pick_f sv b0 rfl rfl rfl rfl (by decide) (fun c0 d0 => ?_)
   refine wpList_nil ?_
   exact x_then_n ⟨(d0.sub (rc rfl (rc rfl (rc (rb rfl (by (simp only [decide_eq_false f0, if_neg f0, bl]; done))) (rc rfl rnl))))), k0⟩
 rintro d0 f0 ⟨k0, c0⟩
 refine wpList_nil (x_then_n (j0 _ _ ?_))
 rcases Bool.eq_false_or_eq_true (((decide ((n.K) < 0)) || (decide (30 ≤ (n.K))))) with j0 | j0
 ·
  have f0 := j0
  try simp only [Bool.or_eq_true, Bool.and_eq_true, Bool.not_eq_true', Bool.not_eq_false', decide_eq_true_eq, decide_eq_false_iff_not, Bool.or_eq_false_iff, Bool.and_eq_false_iff] at f0
  have f0 := k0.setb (d := 11) (b := true) rfl j0
  refine wp_cond_true (f0.ev rfl) ?_
  refine wsc (fun d0 b0 => ?_)
  refine asg f0 (fun d0 m0 => ?_)
  refine wpList_nil (x_then_n (b0 _ _ ?_))
  refine wp_ret ?_
  refine x_then_r ?_
  refine e_ret1 m0 rfl rfl rfl ?_
  refine ⟨?_, c0.fr⟩
  exact congrArg Ending.returned (ret_b (by exact (right_bad (by omega)).symm))
 ·
  have m0 := or_fl j0
  have b0 := of_decide_eq_false m0
  have m0 := or_fr j0
  have d0 := of_decide_eq_false m0
  have m0 := k0.setb (d := 11) (b := false) rfl j0
  refine wp_cond_false (m0.ev rfl) ?_
  refine wp_skip ?_
  refine x_then_n (h0 _ _ ?_)
  refine wsc (fun h0 k0 => ?_)
  refine m_field (j' := 0) sv m0 rfl rfl rfl Tryd.underlying39 rfl sz3 rfl rfl (by decide) (fun h0 f0 => ?_)
  refine m_load (i := 0) sv f0 c0 rfl rfl rfl rfl rfl Tryd.underlying3 rfl (by decide) (fun h0 m0 => ?_)
  refine m_indexA (i := ((n.K)).toNat) (j := (((n.K)).toNat) * 4) sv m0 rfl rfl rfl rfl Tryd.underlying114 sz113 (by omega) (by omega) rfl (by decide) (fun h0 f0 => ?_)
  obtain ⟨h0, m0, n0, o0⟩ := shapes_at (c0.get (i := 0) rfl) (((n.K)).toNat) (by omega)
  have p0 := c0.data (dRow 1 h0 (shp (((n.K)).toNat)).b.length m0 (encIs (shp (((n.K)).toNat)).b)) n0
  refine m_loadEN sv f0 rfl rfl rfl o0 Tryd.underlying113 rfl sz113 (by decide) (fun n0 c0 => ?_)
  refine m_alloc (cs := [.slice none 0 0, .bool false, .bool false, .bool false]) sv c0 p0 rfl rfl ze113 rfl (by decide) (fun n0 o0 f0 q0 t0 => ?_)
  refine m_store (i := 1) (cs' := [.slice h0 ((shp (((n.K)).toNat)).b.length) m0, .bool ((shp (((n.K)).toNat)).n), .bool ((shp (((n.K)).toNat)).m), .bool ((shp (((n.K)).toNat)).s)]) se q0 t0 rfl rfl rfl rfl rfl sz113 rfl rfl rfl (fun o0 n0 c0 p0 => ?_)
  refine wpList_nil (x_then_n (k0 _ _ ?_))
  refine wp_seq_k (fun k0 n0 => ?_)
  refine wp_block ?_
  refine c_join (fun ga gw => Reg ga 110 [(1, .pointer (some ⟨i0, 0, none⟩)), (2, .bool false), (3, .pointer (some ⟨f0, 0, none⟩)), (16, .bool (((!((shp (((n.K)).toNat)).n)) && (!(decide ((n.N) = 0)))) || (((!((shp (((n.K)).toNat)).m)) && (!(decide ((n.M) = 0)))) || (((!((shp (((n.K)).toNat)).s)) && (!(decide (n.S = (⟨#[]⟩ : ByteArray))))) || (((shp (((n.K)).toNat)).s) && (!(nameOk n.S))))))), (1000000, .bool false)] ∧ St w0 Z none_ gw [.box i0 39 [.int .i64 (n.K), .int .i64 (n.N), .int .i64 (n.M), .string n.S], .box f0 113 [.slice h0 ((shp (((n.K)).toNat)).b.length) m0, .bool ((shp (((n.K)).toNat)).n), .bool ((shp (((n.K)).toNat)).m), .bool ((shp (((n.K)).toNat)).s)]] [dShapes, dRow 1 h0 (shp (((n.K)).toNat)).b.length m0 (encIs (shp (((n.K)).toNat)).b)]) ?_ ?_
  ·
   refine wsc (fun k0 o0 => ?_)
   refine m_field (j' := 1) sv c0 rfl rfl rfl Tryd.underlying113 rfl sz4 rfl rfl (by decide) (fun k0 t0 => ?_)
   refine m_load (i := 1) sv t0 p0 rfl rfl rfl rfl rfl Tryd.underlying4 rfl (by decide) (fun k0 c0 => ?_)
   refine r_not sv c0 rfl rfl rfl (by decide) (fun k0 t0 => ?_)
   refine mv t0 (fun k0 c0 => ?_)
   refine l_join (fun ga gw => Reg ga 110 [(1, .pointer (some ⟨i0, 0, none⟩)), (2, .bool false), (3, .pointer (some ⟨f0, 0, none⟩)), (24, .bool ((!((shp (((n.K)).toNat)).n)) && (!(decide ((n.N) = 0))))), (1000000, .bool false)] ∧ St w0 Z none_ gw [.box i0 39 [.int .i64 (n.K), .int .i64 (n.N), .int .i64 (n.M), .string n.S], .box f0 113 [.slice h0 ((shp (((n.K)).toNat)).b.length) m0, .bool ((shp (((n.K)).toNat)).n), .bool ((shp (((n.K)).toNat)).m), .bool ((shp (((n.K)).toNat)).s)]] [dShapes, dRow 1 h0 (shp (((n.K)).toNat)).b.length m0 (encIs (shp (((n.K)).toNat)).b)]) 4 ?_ ?_
   ·
    rcases Bool.eq_false_or_eq_true ((shp (((n.K)).toNat)).n) with k0 | k0
    ·
     have t0 := c0.setb (d := 20) (b := false) rfl (by rw [k0]; rfl)
     refine sps t0 (wff t0) (fun q0 u0 => ?_)
     refine sps u0 (wff u0) (fun q0 t0 => ?_)
     refine sps t0 (wff t0) (fun q0 u0 => ?_)
     refine r_pick_f sv u0 rfl rfl rfl rfl (by decide) (fun q0 t0 => ?_)
     refine wpList_nil ?_
     exact x_then_n ⟨(t0.sub (rc rfl (rc rfl (rc rfl (rc (rb rfl (by (simp only [k0, bl]; done))) (rc rfl rnl)))))), p0⟩
    ·
     have t0 := c0.setb (d := 20) (b := true) rfl (by rw [k0]; rfl)
     refine m_field (j' := 1) (st_listV_w (wt t0)) t0 rfl rfl rfl Tryd.underlying39 rfl sz3 rfl rfl (by decide) (fun c0 q0 => ?_)
     refine m_load (i := 0) (st_listV_w (wt q0)) q0 p0 rfl rfl rfl rfl rfl Tryd.underlying3 rfl (by decide) (fun c0 t0 => ?_)
     refine r_neq (st_listV_w (wt t0)) t0 rfl rfl rfl rfl (by decide) (fun c0 q0 => ?_)
     refine r_pick_t sv q0 rfl rfl rfl rfl (by decide) (fun c0 t0 => ?_)
     refine wpList_nil ?_
     exact x_then_n ⟨(t0.sub (rc rfl (rc rfl (rc rfl (rc (rb rfl (by (simp only [k0, bl]; done))) (rc rfl rnl)))))), p0⟩
   rintro t0 k0 ⟨p0, c0⟩
   refine asg p0 (fun k0 t0 => ?_)
   refine wpList_nil (x_then_n (o0 _ _ ?_))
   rcases Bool.eq_false_or_eq_true (((!((shp (((n.K)).toNat)).n)) && (!(decide ((n.N) = 0))))) with o0 | o0
   ·
    have k0 := and_tl o0
    have p0 := not_t k0
    have p0 := and_tr o0
    have k0 := not_t p0
    have p0 := of_decide_eq_false k0
    have p0 := t0.setb (d := 16) (b := true) rfl o0
    refine wp_cond_true (p0.ev rfl) ?_
    refine wp_skip ?_
    exact x_then_n ⟨(p0.sub (rc rfl (rc rfl (rc rfl (rc (rb rfl (by (simp only [o0, bl]; done))) (rc rfl rnl)))))), c0⟩
   ·
    have p0 := o0
    try simp only [Bool.or_eq_true, Bool.and_eq_true, Bool.not_eq_true', Bool.not_eq_false', decide_eq_true_eq, decide_eq_false_iff_not, Bool.or_eq_false_iff, Bool.and_eq_false_iff] at p0
    have p0 := t0.setb (d := 16) (b := false) rfl o0
    refine wp_cond_false (p0.ev rfl) ?_
    refine wsc (fun t0 k0 => ?_)
    refine m_field (j' := 2) sv p0 rfl rfl rfl Tryd.underlying113 rfl sz4 rfl rfl (by decide) (fun t0 q0 => ?_)
    refine m_load (i := 1) sv q0 c0 rfl rfl rfl rfl rfl Tryd.underlying4 rfl (by decide) (fun t0 p0 => ?_)
    refine r_not sv p0 rfl rfl rfl (by decide) (fun t0 q0 => ?_)
    refine mv q0 (fun t0 p0 => ?_)
    refine l_join (fun ga gw => Reg ga 110 [(1, .pointer (some ⟨i0, 0, none⟩)), (2, .bool false), (3, .pointer (some ⟨f0, 0, none⟩)), (16, .bool false), (32, .bool ((!((shp (((n.K)).toNat)).m)) && (!(decide ((n.M) = 0))))), (1000000, .bool false)] ∧ St w0 Z none_ gw [.box i0 39 [.int .i64 (n.K), .int .i64 (n.N), .int .i64 (n.M), .string n.S], .box f0 113 [.slice h0 ((shp (((n.K)).toNat)).b.length) m0, .bool ((shp (((n.K)).toNat)).n), .bool ((shp (((n.K)).toNat)).m), .bool ((shp (((n.K)).toNat)).s)]] [dShapes, dRow 1 h0 (shp (((n.K)).toNat)).b.length m0 (encIs (shp (((n.K)).toNat)).b)]) 4 ?_ ?_
    ·
     rcases Bool.eq_false_or_eq_true ((shp (((n.K)).toNat)).m) with t0 | t0
     ·
      have q0 := p0.setb (d := 28) (b := false) rfl (by rw [t0]; rfl)
      refine sps q0 (wff q0) (fun u0 v0 => ?_)
      refine sps v0 (wff v0) (fun u0 q0 => ?_)
      refine sps q0 (wff q0) (fun u0 v0 => ?_)
      refine r_pick_f sv v0 rfl rfl rfl rfl (by decide) (fun u0 q0 => ?_)
      refine wpList_nil ?_
      exact x_then_n ⟨(q0.sub (rc rfl (rc rfl (rc rfl (rc rfl (rc (rb rfl (by (simp only [t0, bl]; done))) (rc rfl rnl))))))), c0⟩
     ·
      have q0 := p0.setb (d := 28) (b := true) rfl (by rw [t0]; rfl)
      refine m_field (j' := 2) (st_listV_w (wt q0)) q0 rfl rfl rfl Tryd.underlying39 rfl sz3 rfl rfl (by decide) (fun p0 u0 => ?_)
      refine m_load (i := 0) (st_listV_w (wt u0)) u0 c0 rfl rfl rfl rfl rfl Tryd.underlying3 rfl (by decide) (fun p0 q0 => ?_)
      refine r_neq (st_listV_w (wt q0)) q0 rfl rfl rfl rfl (by decide) (fun p0 u0 => ?_)
      refine r_pick_t sv u0 rfl rfl rfl rfl (by decide) (fun p0 q0 => ?_)
      refine wpList_nil ?_
      exact x_then_n ⟨(q0.sub (rc rfl (rc rfl (rc rfl (rc rfl (rc (rb rfl (by (simp only [t0, bl]; done))) (rc rfl rnl))))))), c0⟩
    rintro q0 t0 ⟨c0, p0⟩
    refine asg c0 (fun t0 q0 => ?_)
    refine wpList_nil (x_then_n (k0 _ _ ?_))
    rcases Bool.eq_false_or_eq_true (((!((shp (((n.K)).toNat)).m)) && (!(decide ((n.M) = 0))))) with k0 | k0
    ·
     have t0 := and_tl k0
     have c0 := not_t t0
     have c0 := and_tr k0
     have t0 := not_t c0
     have c0 := of_decide_eq_false t0
     have c0 := q0.setb (d := 16) (b := true) rfl k0
     refine wp_cond_true (c0.ev rfl) ?_
     refine wp_skip ?_
     exact x_then_n ⟨(c0.sub (rc rfl (rc rfl (rc rfl (rc (rb rfl (by (simp only [o0, k0, bl]; done))) (rc rfl rnl)))))), p0⟩
    ·
     have c0 := k0
     try simp only [Bool.or_eq_true, Bool.and_eq_true, Bool.not_eq_true', Bool.not_eq_false', decide_eq_true_eq, decide_eq_false_iff_not, Bool.or_eq_false_iff, Bool.and_eq_false_iff] at c0
     have c0 := q0.setb (d := 16) (b := false) rfl k0
     refine wp_cond_false (c0.ev rfl) ?_
     refine wsc (fun q0 t0 => ?_)
     refine m_field (j' := 3) sv c0 rfl rfl rfl Tryd.underlying113 rfl sz4 rfl rfl (by decide) (fun q0 u0 => ?_)
     refine m_load (i := 1) sv u0 p0 rfl rfl rfl rfl rfl Tryd.underlying4 rfl (by decide) (fun q0 c0 => ?_)
     refine r_not sv c0 rfl rfl rfl (by decide) (fun q0 u0 => ?_)
     refine mv u0 (fun q0 c0 => ?_)
     refine l_join (fun ga gw => Reg ga 110 [(1, .pointer (some ⟨i0, 0, none⟩)), (2, .bool false), (3, .pointer (some ⟨f0, 0, none⟩)), (16, .bool false), (40, .bool ((!((shp (((n.K)).toNat)).s)) && (!(decide (n.S = (⟨#[]⟩ : ByteArray)))))), (1000000, .bool false)] ∧ St w0 Z none_ gw [.box i0 39 [.int .i64 (n.K), .int .i64 (n.N), .int .i64 (n.M), .string n.S], .box f0 113 [.slice h0 ((shp (((n.K)).toNat)).b.length) m0, .bool ((shp (((n.K)).toNat)).n), .bool ((shp (((n.K)).toNat)).m), .bool ((shp (((n.K)).toNat)).s)]] [dShapes, dRow 1 h0 (shp (((n.K)).toNat)).b.length m0 (encIs (shp (((n.K)).toNat)).b)]) 4 ?_ ?_
     ·
      rcases Bool.eq_false_or_eq_true ((shp (((n.K)).toNat)).s) with q0 | q0
      ·
       have u0 := c0.setb (d := 36) (b := false) rfl (by rw [q0]; rfl)
       refine sps u0 (wff u0) (fun v0 x0 => ?_)
       refine sps x0 (wff x0) (fun v0 u0 => ?_)
       refine sps u0 (wff u0) (fun v0 x0 => ?_)
       refine r_pick_f sv x0 rfl rfl rfl rfl (by decide) (fun v0 u0 => ?_)
       refine wpList_nil ?_
       exact x_then_n ⟨(u0.sub (rc rfl (rc rfl (rc rfl (rc rfl (rc (rb rfl (by (simp only [q0, bl]; done))) (rc rfl rnl))))))), p0⟩
      ·
       have u0 := c0.setb (d := 36) (b := true) rfl (by rw [q0]; rfl)
       refine m_field (j' := 3) (st_listV_w (wt u0)) u0 rfl rfl rfl Tryd.underlying39 rfl sz9 rfl rfl (by decide) (fun c0 v0 => ?_)
       refine m_load (i := 0) (st_listV_w (wt v0)) v0 p0 rfl rfl rfl rfl rfl Tryd.underlying9 rfl (by decide) (fun c0 u0 => ?_)
       refine r_neqS (st_listV_w (wt u0)) u0 rfl rfl rfl rfl (by decide) (fun c0 v0 => ?_)
       refine r_pick_t sv v0 rfl rfl rfl rfl (by decide) (fun c0 u0 => ?_)
       refine wpList_nil ?_
       exact x_then_n ⟨(u0.sub (rc rfl (rc rfl (rc rfl (rc rfl (rc (rb rfl (by (simp only [q0, bl]; done))) (rc rfl rnl))))))), p0⟩
     rintro u0 q0 ⟨p0, c0⟩
     refine asg p0 (fun q0 u0 => ?_)
     refine wpList_nil (x_then_n (t0 _ _ ?_))
     rcases Bool.eq_false_or_eq_true (((!((shp (((n.K)).toNat)).s)) && (!(decide (n.S = (⟨#[]⟩ : ByteArray)))))) with t0 | t0
     ·
      have q0 := and_tl t0
      have p0 := not_t q0
      have p0 := and_tr t0
      have q0 := not_t p0
      have p0 := of_decide_eq_false q0
      have p0 := u0.setb (d := 16) (b := true) rfl t0
      refine wp_cond_true (p0.ev rfl) ?_
      refine wp_skip ?_
      exact x_then_n ⟨(p0.sub (rc rfl (rc rfl (rc rfl (rc (rb rfl (by (simp only [o0, k0, t0, bl]; done))) (rc rfl rnl)))))), c0⟩
     ·
      have p0 := t0
      try simp only [Bool.or_eq_true, Bool.and_eq_true, Bool.not_eq_true', Bool.not_eq_false', decide_eq_true_eq, decide_eq_false_iff_not, Bool.or_eq_false_iff, Bool.and_eq_false_iff] at p0
      have p0 := u0.setb (d := 16) (b := false) rfl t0
      refine wp_cond_false (p0.ev rfl) ?_
      refine c_region ?_
      refine m_field (j' := 3) sv p0 rfl rfl rfl Tryd.underlying113 rfl sz4 rfl rfl (by decide) (fun u0 q0 => ?_)
      refine m_load (i := 1) sv q0 c0 rfl rfl rfl rfl rfl Tryd.underlying4 rfl (by decide) (fun u0 p0 => ?_)
      refine mv p0 (fun u0 q0 => ?_)
      refine l_join (fun ga gw => Reg ga 110 [(1, .pointer (some ⟨i0, 0, none⟩)), (2, .bool false), (3, .pointer (some ⟨f0, 0, none⟩)), (16, .bool false), (48, .bool (((shp (((n.K)).toNat)).s) && (!(nameOk n.S)))), (1000000, .bool false)] ∧ St w0 Z none_ gw [.box i0 39 [.int .i64 (n.K), .int .i64 (n.N), .int .i64 (n.M), .string n.S], .box f0 113 [.slice h0 ((shp (((n.K)).toNat)).b.length) m0, .bool ((shp (((n.K)).toNat)).n), .bool ((shp (((n.K)).toNat)).m), .bool ((shp (((n.K)).toNat)).s)]] [dShapes, dRow 1 h0 (shp (((n.K)).toNat)).b.length m0 (encIs (shp (((n.K)).toNat)).b)]) 5 ?_ ?_
      ·
       rcases Bool.eq_false_or_eq_true ((shp (((n.K)).toNat)).s) with u0 | u0
       ·
        have p0 := q0.setb (d := 43) (b := true) rfl u0
        refine m_field (j' := 3) (st_listV_w (wt p0)) p0 rfl rfl rfl Tryd.underlying39 rfl sz9 rfl rfl (by decide) (fun v0 x0 => ?_)
        refine m_load (i := 0) (st_listV_w (wt x0)) x0 c0 rfl rfl rfl rfl rfl Tryd.underlying9 rfl (by decide) (fun v0 p0 => ?_)
        have v0 := c0.nf
        refine k_call (xs := [.tmp 45]) (st_list_w (wt p0)) p0 rfl rfl rfl (by decide) ok122 (name_calls _ _ v0.il n.S) ?_
        rintro p0 x0 ⟨rfl, y0⟩
        have x0 := v0.below y0.below
        refine ⟨_, rfl, fun y0 v0 => ?_⟩
        refine r_not (st_listV_w (wt v0)) v0 rfl rfl rfl (by decide) (fun y0 p0 => ?_)
        refine r_pick_t sv p0 rfl rfl rfl rfl (by decide) (fun y0 v0 => ?_)
        refine wpList_nil ?_
        exact x_then_n ⟨(v0.sub (rc rfl (rc rfl (rc rfl (rc rfl (rc (rb rfl (by (simp only [u0, bl]; done))) (rc rfl rnl))))))), x0⟩
       ·
        have v0 := q0.setb (d := 43) (b := false) rfl u0
        refine sps v0 (wff v0) (fun q0 x0 => ?_)
        refine sps x0 (wff x0) (fun q0 v0 => ?_)
        refine sps v0 (wff v0) (fun q0 x0 => ?_)
        refine sps x0 (wff x0) (fun q0 v0 => ?_)
        refine r_pick_f sv v0 rfl rfl rfl rfl (by decide) (fun q0 x0 => ?_)
        refine wpList_nil ?_
        exact x_then_n ⟨(x0.sub (rc rfl (rc rfl (rc rfl (rc rfl (rc (rb rfl (by (simp only [u0, bl]; done))) (rc rfl rnl))))))), c0⟩
      rintro x0 u0 ⟨c0, q0⟩
      refine asg c0 (fun u0 x0 => ?_)
      refine wpList_nil ?_
      exact x_then_n ⟨(x0.sub (rc rfl (rc rfl (rc rfl (rc (rb rfl (by (simp only [o0, k0, t0, bl]; done))) (rc rfl rnl)))))), q0⟩
  rintro x0 q0 ⟨t0, k0⟩
  rcases Bool.eq_false_or_eq_true ((((!((shp (((n.K)).toNat)).n)) && (!(decide ((n.N) = 0)))) || (((!((shp (((n.K)).toNat)).m)) && (!(decide ((n.M) = 0)))) || (((!((shp (((n.K)).toNat)).s)) && (!(decide (n.S = (⟨#[]⟩ : ByteArray))))) || (((shp (((n.K)).toNat)).s) && (!(nameOk n.S))))))) with q0 | q0
  ·
   have x0 := q0
   try simp only [Bool.or_eq_true, Bool.and_eq_true, Bool.not_eq_true', Bool.not_eq_false', decide_eq_true_eq, decide_eq_false_iff_not, Bool.or_eq_false_iff, Bool.and_eq_false_iff] at x0
   have x0 := t0.setb (d := 16) (b := true) rfl q0
   refine wp_cond_true (x0.ev rfl) ?_
   refine wsc (fun o0 u0 => ?_)
   refine asg x0 (fun o0 c0 => ?_)
   refine wpList_nil (x_then_n (u0 _ _ ?_))
   refine wp_ret ?_
   refine x_block_r ?_
   refine x_then_r ?_
   refine e_ret1 c0 rfl rfl rfl ?_
   refine ⟨?_, k0.fr⟩
   exact congrArg Ending.returned (ret_b (by exact (right_big q0).symm))
  ·
   have c0 := or_fl q0
   have u0 := c0
   try simp only [Bool.or_eq_true, Bool.and_eq_true, Bool.not_eq_true', Bool.not_eq_false', decide_eq_true_eq, decide_eq_false_iff_not, Bool.or_eq_false_iff, Bool.and_eq_false_iff] at u0
   have u0 := or_fr q0
   have c0 := or_fl u0
   have o0 := c0
   try simp only [Bool.or_eq_true, Bool.and_eq_true, Bool.not_eq_true', Bool.not_eq_false', decide_eq_true_eq, decide_eq_false_iff_not, Bool.or_eq_false_iff, Bool.and_eq_false_iff] at o0
   have o0 := or_fr u0
   have u0 := or_fl o0
   have c0 := u0
   try simp only [Bool.or_eq_true, Bool.and_eq_true, Bool.not_eq_true', Bool.not_eq_false', decide_eq_true_eq, decide_eq_false_iff_not, Bool.or_eq_false_iff, Bool.and_eq_false_iff] at c0
   have c0 := or_fr o0
   have o0 := c0
   try simp only [Bool.or_eq_true, Bool.and_eq_true, Bool.not_eq_true', Bool.not_eq_false', decide_eq_true_eq, decide_eq_false_iff_not, Bool.or_eq_false_iff, Bool.and_eq_false_iff] at o0
   have o0 := t0.setb (d := 16) (b := false) rfl q0
   refine wp_cond_false (o0.ev rfl) ?_
   refine wsc (fun t0 c0 => ?_)
   refine m_field (j' := 0) sv o0 rfl rfl rfl Tryd.underlying39 rfl sz3 rfl rfl (by decide) (fun t0 u0 => ?_)
   refine m_load (i := 0) sv u0 k0 rfl rfl rfl rfl rfl Tryd.underlying3 rfl (by decide) (fun t0 o0 => ?_)
   refine r_eql sv o0 rfl rfl rfl rfl (by decide) (fun t0 u0 => ?_)
   refine asg u0 (fun t0 o0 => ?_)
   refine wpList_nil (x_then_n (c0 _ _ ?_))
   rcases Decidable.em ((n.K) = 2) with c0 | c0
   ·
    have t0 := o0.setb (d := 49) (b := true) rfl (decide_eq_true c0)
    refine wp_cond_true (t0.ev rfl) ?_
    refine wsc (fun u0 x0 => ?_)
    refine m_field (j' := 1) sv t0 rfl rfl rfl Tryd.underlying39 rfl sz3 rfl rfl (by decide) (fun u0 v0 => ?_)
    refine m_load (i := 0) sv v0 k0 rfl rfl rfl rfl rfl Tryd.underlying3 rfl (by decide) (fun u0 t0 => ?_)
    have u0 := k0.nf
    refine k_call (xs := [.tmp 54]) se t0 rfl rfl rfl (by decide) ok123 (lvCheck_calls _ _ u0.il (n.N)) ?_
    rintro t0 v0 ⟨rfl, y0⟩
    have v0 := u0.below y0.below
    refine ⟨_, rfl, fun y0 u0 => ?_⟩
    refine r_eql sv u0 rfl rfl rfl rfl (by decide) (fun y0 t0 => ?_)
    refine asg t0 (fun y0 u0 => ?_)
    refine wpList_nil (x_then_n (x0 _ _ ?_))
    refine wp_ret ?_
    refine x_block_r ?_
    refine x_then_r ?_
    refine e_ret1 u0 rfl rfl rfl ?_
    refine ⟨?_, v0.fr⟩
    exact congrArg Ending.returned (ret_b (by exact (right_sort q0 (by assumption)).symm))
   ·
    have v0 := o0.setb (d := 49) (b := false) rfl (decide_eq_false c0)
    refine wp_cond_false (v0.ev rfl) ?_
    refine wsc (fun o0 u0 => ?_)
    refine m_field (j' := 0) sv v0 rfl rfl rfl Tryd.underlying39 rfl sz3 rfl rfl (by decide) (fun o0 x0 => ?_)
    refine m_load (i := 0) sv x0 k0 rfl rfl rfl rfl rfl Tryd.underlying3 rfl (by decide) (fun o0 v0 => ?_)
    refine r_eql sv v0 rfl rfl rfl rfl (by decide) (fun o0 x0 => ?_)
    refine asg x0 (fun o0 v0 => ?_)
    refine wpList_nil (x_then_n (u0 _ _ ?_))
    rcases Decidable.em ((n.K) = 26) with u0 | u0
    ·
     have o0 := v0.setb (d := 57) (b := true) rfl (decide_eq_true u0)
     refine wp_cond_true (o0.ev rfl) ?_
     refine wp_seq_k (fun x0 y0 => ?_)
     obtain ⟨x0, t0, p0⟩ := k0.agree
     refine d_reg3 (n := 22) p0 2 (pB 0 0 pn) (pan_then (pan_block (pan_then pan_body))) (fun t0 x0 z0 b1 c1 f1 => ?_)
     refine dtF 0 1 x0 o0 f1 Tryd.underlying39 sz3 (fun b1 t0 => ?_)
     refine dtC 1 1 x0 t0 f1 Tryd.underlying3 (fun b1 o0 => ?_)
     refine dt 2 rfl x0 o0 (want_n rfl) (fun x hx => r_geq (sy o0) o0 rfl rfl rfl rfl (by decide) gt) f1 (fun b1 t0 => ?_)
     refine dtM 3 x0 t0 f1 (fun b1 o0 => ?_)
     rcases Decidable.em (0 ≤ (n.N)) with b1 | b1
     ·
      have t0 := o0.setb (d := 64) (b := true) rfl (decide_eq_true b1)
      refine dtF 4 1 x0 t0 f1 Tryd.underlying39 sz3 (fun p0 h1 => ?_) (hw := wt t0)
      refine dtC 5 1 x0 h1 f1 Tryd.underlying3 (fun p0 t0 => ?_) (hw := wt h1)
      refine dtF 6 0 x0 t0 f1 Tryd.underlying39 sz3 (fun p0 h1 => ?_) (hw := wt t0)
      refine dtC 7 0 x0 h1 f1 Tryd.underlying3 (fun p0 t0 => ?_) (hw := wt h1)
      refine d1 8 ?_
      have p0 := c1.nf
      refine k_call (xs := [.tmp 68]) (st_op rfl (wt t0)) t0 rfl rfl rfl (by decide) ok124 (most_calls _ _ p0.il (n.K)) ?_
      rintro t0 h1 ⟨rfl, i1⟩
      have h1 := p0.below i1.below
      refine ⟨_, rfl, fun i1 p0 => ?_⟩
      have i1 := sWI h1 2 (pB 0 0 pn)
      refine ⟨i1, ?_⟩
      refine dt 9 rfl x0 p0 (wt p0) (fun x hx => r_leq (sy p0) p0 rfl rfl rfl rfl (by decide) gt) i1 (fun t0 j1 => ?_)
      refine dt 10 rfl x0 j1 (want_n rfl) (fun x hx => r_pick_t (sy j1) j1 rfl rfl rfl rfl (by decide) gt) i1 (fun t0 p0 => ?_)
      refine dtM 11 x0 p0 i1 (fun t0 j1 => ?_)
      rcases Decidable.em ((n.N) ≤ ((most (n.K)))) with t0 | t0
      ·
       have p0 := j1.setb (d := 72) (b := true) rfl (decide_eq_true t0)
       refine dtF 12 2 x0 p0 i1 Tryd.underlying39 sz3 (fun k1 m1 => ?_) (hw := wt p0)
       refine dtC 13 2 x0 m1 i1 Tryd.underlying3 (fun k1 p0 => ?_) (hw := wt m1)
       refine dt 14 rfl x0 p0 (wt p0) (fun x hx => r_geq (sy p0) p0 rfl rfl rfl rfl (by decide) gt) i1 (fun k1 m1 => ?_)
       refine dt 15 rfl x0 m1 (want_n rfl) (fun x hx => r_pick_t (sy m1) m1 rfl rfl rfl rfl (by decide) gt) i1 (fun k1 p0 => ?_)
       refine dtM 16 x0 p0 i1 (fun k1 m1 => ?_)
       rcases Decidable.em (0 ≤ (n.M)) with k1 | k1
       ·
        have p0 := m1.setb (d := 77) (b := true) rfl (decide_eq_true k1)
        refine dtF 17 2 x0 p0 i1 Tryd.underlying39 sz3 (fun n1 o1 => ?_) (hw := wt p0)
        refine dtC 18 2 x0 o1 i1 Tryd.underlying3 (fun n1 p0 => ?_) (hw := wt o1)
        refine dt 19 rfl x0 p0 (wt p0) (fun x hx => r_leq (sy p0) p0 rfl rfl rfl rfl (by decide) gt) i1 (fun n1 o1 => ?_)
        refine dt 20 rfl x0 o1 (want_n rfl) (fun x hx => r_pick_t (sy o1) o1 rfl rfl rfl rfl (by decide) gt) i1 (fun n1 p0 => ?_)
        refine dtA 21 x0 p0 i1 (fun n1 o1 => ?_)
        refine wpAnyH_done (by kernel_rfl) (z0 _ _ ?_) _
        refine x_then_n (y0 _ _ ?_)
        refine wp_ret ?_
        refine x_block_r ?_
        refine x_then_r ?_
        refine e_ret1 o1 rfl rfl rfl ?_
        refine ⟨?_, h1.fr⟩
        exact congrArg Ending.returned (ret_b (by (rw [right_con' q0 (by assumption)]; first | rfl | (simp <;> omega) | (simp [j0, b0, d0, q0, c0, u0, b1, t0, k1]; done) | (rw [Bool.eq_iff_iff]; simp <;> omega))))
       ·
        have o1 := m1.setb (d := 77) (b := false) rfl (decide_eq_false k1)
        refine dp 17 rfl x0 o1 (wff o1) i1 (fun m1 n1 => ?_)
        refine dp 18 rfl x0 n1 (wff n1) i1 (fun m1 o1 => ?_)
        refine dp 19 rfl x0 o1 (wff o1) i1 (fun m1 n1 => ?_)
        refine dtQ 20 x0 n1 i1 (fun m1 o1 => ?_)
        refine dtA 21 x0 o1 i1 (fun m1 n1 => ?_)
        refine wpAnyH_done (by kernel_rfl) (z0 _ _ ?_) _
        refine x_then_n (y0 _ _ ?_)
        refine wp_ret ?_
        refine x_block_r ?_
        refine x_then_r ?_
        refine e_ret1 n1 rfl rfl rfl ?_
        refine ⟨?_, h1.fr⟩
        exact congrArg Ending.returned (ret_b (by (rw [right_con' q0 (by assumption)]; first | rfl | (simp <;> omega) | (simp [j0, b0, d0, q0, c0, u0, b1, t0, k1]; done) | (rw [Bool.eq_iff_iff]; simp <;> omega))))
      ·
       have k1 := j1.setb (d := 72) (b := false) rfl (decide_eq_false t0)
       refine dp 12 rfl x0 k1 (wff k1) i1 (fun j1 n1 => ?_)
       refine dp 13 rfl x0 n1 (wff n1) i1 (fun j1 k1 => ?_)
       refine dp 14 rfl x0 k1 (wff k1) i1 (fun j1 n1 => ?_)
       refine dtQ 15 x0 n1 i1 (fun j1 k1 => ?_)
       refine dtM 16 x0 k1 i1 (fun j1 n1 => ?_)
       refine dp 17 rfl x0 n1 (wff n1) i1 (fun j1 k1 => ?_)
       refine dp 18 rfl x0 k1 (wff k1) i1 (fun j1 n1 => ?_)
       refine dp 19 rfl x0 n1 (wff n1) i1 (fun j1 k1 => ?_)
       refine dtQ 20 x0 k1 i1 (fun j1 n1 => ?_)
       refine dtA 21 x0 n1 i1 (fun j1 k1 => ?_)
       refine wpAnyH_done (by kernel_rfl) (z0 _ _ ?_) _
       refine x_then_n (y0 _ _ ?_)
       refine wp_ret ?_
       refine x_block_r ?_
       refine x_then_r ?_
       refine e_ret1 k1 rfl rfl rfl ?_
       refine ⟨?_, h1.fr⟩
       exact congrArg Ending.returned (ret_b (by (rw [right_con' q0 (by assumption)]; first | rfl | (simp <;> omega) | (simp [j0, b0, d0, q0, c0, u0, b1, t0]; done) | (rw [Bool.eq_iff_iff]; simp <;> omega))))
     ·
      have t0 := o0.setb (d := 64) (b := false) rfl (decide_eq_false b1)
      refine dp 4 rfl x0 t0 (wff t0) f1 (fun o0 h1 => ?_)
      refine dp 5 rfl x0 h1 (wff h1) f1 (fun o0 t0 => ?_)
      refine dp 6 rfl x0 t0 (wff t0) f1 (fun o0 h1 => ?_)
      refine dp 7 rfl x0 h1 (wff h1) f1 (fun o0 t0 => ?_)
      refine dp 8 rfl x0 t0 (wff t0) f1 (fun o0 h1 => ?_)
      refine dp 9 rfl x0 h1 (wff h1) f1 (fun o0 t0 => ?_)
      refine dtQ 10 x0 t0 f1 (fun o0 h1 => ?_)
      refine dtM 11 x0 h1 f1 (fun o0 t0 => ?_)
      refine dp 12 rfl x0 t0 (wff t0) f1 (fun o0 h1 => ?_)
      refine dp 13 rfl x0 h1 (wff h1) f1 (fun o0 t0 => ?_)
      refine dp 14 rfl x0 t0 (wff t0) f1 (fun o0 h1 => ?_)
      refine dtQ 15 x0 h1 f1 (fun o0 t0 => ?_)
      refine dtM 16 x0 t0 f1 (fun o0 h1 => ?_)
      refine dp 17 rfl x0 h1 (wff h1) f1 (fun o0 t0 => ?_)
      refine dp 18 rfl x0 t0 (wff t0) f1 (fun o0 h1 => ?_)
      refine dp 19 rfl x0 h1 (wff h1) f1 (fun o0 t0 => ?_)
      refine dtQ 20 x0 t0 f1 (fun o0 h1 => ?_)
      refine dtA 21 x0 h1 f1 (fun o0 t0 => ?_)
      refine wpAnyH_done (by kernel_rfl) (z0 _ _ ?_) _
      refine x_then_n (y0 _ _ ?_)
      refine wp_ret ?_
      refine x_block_r ?_
      refine x_then_r ?_
      refine e_ret1 t0 rfl rfl rfl ?_
      refine ⟨?_, c1.fr⟩
      exact congrArg Ending.returned (ret_b (by (rw [right_con' q0 (by assumption)]; first | rfl | (simp <;> omega) | (simp [j0, b0, d0, q0, c0, u0, b1]; done) | (rw [Bool.eq_iff_iff]; simp <;> omega))))
    ·
     have b1 := v0.setb (d := 57) (b := false) rfl (decide_eq_false u0)
     refine wp_cond_false (b1.ev rfl) ?_
     refine wsc (fun v0 c1 => ?_)
     refine m_field (j' := 0) sv b1 rfl rfl rfl Tryd.underlying39 rfl sz3 rfl rfl (by decide) (fun v0 t0 => ?_)
     refine m_load (i := 0) sv t0 k0 rfl rfl rfl rfl rfl Tryd.underlying3 rfl (by decide) (fun v0 b1 => ?_)
     refine r_eql sv b1 rfl rfl rfl rfl (by decide) (fun v0 t0 => ?_)
     refine asg t0 (fun v0 b1 => ?_)
     refine wpList_nil (x_then_n (c1 _ _ ?_))
     rcases Decidable.em ((n.K) = 27) with c1 | c1
     ·
      have v0 := b1.setb (d := 82) (b := true) rfl (decide_eq_true c1)
      refine wp_cond_true (v0.ev rfl) ?_
      refine wsc (fun t0 y0 => ?_)
      refine m_field (j' := 2) sv v0 rfl rfl rfl Tryd.underlying39 rfl sz3 rfl rfl (by decide) (fun t0 z0 => ?_)
      refine m_load (i := 0) sv z0 k0 rfl rfl rfl rfl rfl Tryd.underlying3 rfl (by decide) (fun t0 v0 => ?_)
      refine r_geq sv v0 rfl rfl rfl rfl (by decide) (fun t0 z0 => ?_)
      refine mv z0 (fun t0 v0 => ?_)
      refine l_join (fun ga gw => Reg ga 110 [(1, .pointer (some ⟨i0, 0, none⟩)), (2, .bool false), (3, .pointer (some ⟨f0, 0, none⟩)), (93, .bool ((decide (0 ≤ (n.M))) && (decide ((n.M) ≤ 6)))), (1000000, .bool false)] ∧ St w0 Z none_ gw [.box i0 39 [.int .i64 (n.K), .int .i64 (n.N), .int .i64 (n.M), .string n.S], .box f0 113 [.slice h0 ((shp (((n.K)).toNat)).b.length) m0, .bool ((shp (((n.K)).toNat)).n), .bool ((shp (((n.K)).toNat)).m), .bool ((shp (((n.K)).toNat)).s)]] [dShapes, dRow 1 h0 (shp (((n.K)).toNat)).b.length m0 (encIs (shp (((n.K)).toNat)).b)]) 4 ?_ ?_
      ·
       rcases Decidable.em (0 ≤ (n.M)) with f0 | f0
       ·
        have m0 := v0.setb (d := 89) (b := true) rfl (decide_eq_true f0)
        refine m_field (j' := 2) (st_listV_w (wt m0)) m0 rfl rfl rfl Tryd.underlying39 rfl sz3 rfl rfl (by decide) (fun h0 i0 => ?_)
        refine m_load (i := 0) (st_listV_w (wt i0)) i0 k0 rfl rfl rfl rfl rfl Tryd.underlying3 rfl (by decide) (fun h0 m0 => ?_)
        refine r_leq (st_listV_w (wt m0)) m0 rfl rfl rfl rfl (by decide) (fun h0 i0 => ?_)
        refine r_pick_t sv i0 rfl rfl rfl rfl (by decide) (fun h0 m0 => ?_)
        refine wpList_nil ?_
        exact x_then_n ⟨(m0.sub (rc rfl (rc rfl (rc rfl (rc (rb rfl (by (simp only [decide_eq_true f0, if_pos f0, bl]; done))) (rc rfl rnl)))))), k0⟩
       ·
        have m0 := v0.setb (d := 89) (b := false) rfl (decide_eq_false f0)
        refine sps m0 (wff m0) (fun v0 h0 => ?_)
        refine sps h0 (wff h0) (fun v0 m0 => ?_)
        refine sps m0 (wff m0) (fun v0 h0 => ?_)
        refine r_pick_f sv h0 rfl rfl rfl rfl (by decide) (fun v0 m0 => ?_)
        refine wpList_nil ?_
        exact x_then_n ⟨(m0.sub (rc rfl (rc rfl (rc rfl (rc (rb rfl (by (simp only [decide_eq_false f0, if_neg f0, bl]; done))) (rc rfl rnl)))))), k0⟩
      rintro m0 f0 ⟨v0, h0⟩
      refine asg v0 (fun f0 m0 => ?_)
      refine wpList_nil (x_then_n (y0 _ _ ?_))
      refine wp_ret ?_
      refine x_block_r ?_
      refine x_then_r ?_
      refine e_ret1 m0 rfl rfl rfl ?_
      refine ⟨?_, h0.fr⟩
      exact congrArg Ending.returned (ret_b (by (rw [right_elim' q0 (by assumption)]; first | rfl | (simp <;> omega) | (simp [j0, b0, d0, q0, c0, u0, c1]; done) | (rw [Bool.eq_iff_iff]; simp <;> omega))))
     ·
      have h0 := b1.setb (d := 82) (b := false) rfl (decide_eq_false c1)
      refine wp_cond_false (h0.ev rfl) ?_
      refine wp_skip ?_
      refine x_block_n ?_
      refine x_then_n (n0 _ _ ?_)
      refine wp_seq_k (fun n0 b1 => ?_)
      obtain ⟨n0, m0, y0⟩ := k0.agree
      refine d_reg3 (n := 17) y0 2 (pB 0 0 (pB 1 0 pn)) (pan_then pan_body) (fun m0 n0 k0 f0 v0 i0 => ?_)
      refine dtF 0 1 n0 h0 i0 Tryd.underlying113 sz4 (fun f0 m0 => ?_)
      refine dtC 1 5 n0 m0 i0 Tryd.underlying4 (fun f0 h0 => ?_)
      refine dt 2 rfl n0 h0 (want_n rfl) (fun x hx => r_not (sy h0) h0 rfl rfl rfl (by decide) gt) i0 (fun f0 m0 => ?_)
      refine dtM 3 n0 m0 i0 (fun f0 h0 => ?_)
      rcases Bool.eq_false_or_eq_true ((shp (((n.K)).toNat)).n) with f0 | f0
      ·
       have m0 := h0.setb (d := 97) (b := false) rfl (by rw [f0]; rfl)
       refine dtF 4 1 n0 m0 i0 Tryd.underlying39 sz3 (fun y0 t0 => ?_) (hw := wt m0)
       refine dtC 5 1 n0 t0 i0 Tryd.underlying3 (fun y0 m0 => ?_) (hw := wt t0)
       refine dt 6 rfl n0 m0 (wt m0) (fun x hx => r_geq (sy m0) m0 rfl rfl rfl rfl (by decide) gt) i0 (fun y0 t0 => ?_)
       refine dtM 7 n0 t0 i0 (fun y0 m0 => ?_) (hw := wt t0)
       rcases Decidable.em (0 ≤ (n.N)) with y0 | y0
       ·
        have t0 := m0.setb (d := 101) (b := true) rfl (decide_eq_true y0)
        refine dtF 8 1 n0 t0 i0 Tryd.underlying39 sz3 (fun z0 o0 => ?_) (hw := wt t0)
        refine dtC 9 1 n0 o0 i0 Tryd.underlying3 (fun z0 t0 => ?_) (hw := wt o0)
        refine dtF 10 0 n0 t0 i0 Tryd.underlying39 sz3 (fun z0 o0 => ?_) (hw := wt t0)
        refine dtC 11 0 n0 o0 i0 Tryd.underlying3 (fun z0 t0 => ?_) (hw := wt o0)
        refine d1 12 ?_
        have z0 := v0.nf
        refine k_call (xs := [.tmp 105]) (st_op rfl (wt t0)) t0 rfl rfl rfl (by decide) ok124 (most_calls _ _ z0.il (n.K)) ?_
        rintro t0 o0 ⟨rfl, h1⟩
        have o0 := z0.below h1.below
        refine ⟨_, rfl, fun h1 z0 => ?_⟩
        have h1 := sWI o0 2 (pB 0 0 (pB 1 0 pn))
        refine ⟨h1, ?_⟩
        refine dt 13 rfl n0 z0 (wt z0) (fun x hx => r_leq (sy z0) z0 rfl rfl rfl rfl (by decide) gt) h1 (fun t0 f1 => ?_)
        refine dt 14 rfl n0 f1 (wt f1) (fun x hx => r_pick_t (sy f1) f1 rfl rfl rfl rfl (by decide) gt) h1 (fun t0 z0 => ?_)
        refine dtQ 15 n0 z0 h1 (fun t0 f1 => ?_)
        refine dtA 16 n0 f1 h1 (fun t0 z0 => ?_)
        refine wpAnyH_done (by kernel_rfl) (k0 _ _ ?_) _
        refine x_then_n (b1 _ _ ?_)
        refine wp_ret ?_
        refine e_ret1 z0 rfl rfl rfl ?_
        refine ⟨?_, o0.fr⟩
        exact congrArg Ending.returned (ret_b (by (rw [right_oth q0 (by omega) (by omega) (by assumption) (by assumption) (by assumption)]; first | rfl | (simp <;> omega) | (simp [j0, b0, d0, q0, c0, u0, c1, f0, y0]; done) | (rw [Bool.eq_iff_iff]; simp <;> omega))))
       ·
        have o0 := m0.setb (d := 101) (b := false) rfl (decide_eq_false y0)
        refine dp 8 rfl n0 o0 (wff o0) i0 (fun m0 z0 => ?_)
        refine dp 9 rfl n0 z0 (wff z0) i0 (fun m0 o0 => ?_)
        refine dp 10 rfl n0 o0 (wff o0) i0 (fun m0 z0 => ?_)
        refine dp 11 rfl n0 z0 (wff z0) i0 (fun m0 o0 => ?_)
        refine dp 12 rfl n0 o0 (wff o0) i0 (fun m0 z0 => ?_)
        refine dp 13 rfl n0 z0 (wff z0) i0 (fun m0 o0 => ?_)
        refine dtQ 14 n0 o0 i0 (fun m0 z0 => ?_) (hw := wt o0)
        refine dtQ 15 n0 z0 i0 (fun m0 o0 => ?_)
        refine dtA 16 n0 o0 i0 (fun m0 z0 => ?_)
        refine wpAnyH_done (by kernel_rfl) (k0 _ _ ?_) _
        refine x_then_n (b1 _ _ ?_)
        refine wp_ret ?_
        refine e_ret1 z0 rfl rfl rfl ?_
        refine ⟨?_, v0.fr⟩
        exact congrArg Ending.returned (ret_b (by (rw [right_oth q0 (by omega) (by omega) (by assumption) (by assumption) (by assumption)]; first | rfl | (simp <;> omega) | (simp [j0, b0, d0, q0, c0, u0, c1, f0, y0]; done) | (rw [Bool.eq_iff_iff]; simp <;> omega))))
      ·
       have y0 := h0.setb (d := 97) (b := true) rfl (by rw [f0]; rfl)
       refine dp 4 rfl n0 y0 (wff y0) i0 (fun h0 z0 => ?_)
       refine dp 5 rfl n0 z0 (wff z0) i0 (fun h0 y0 => ?_)
       refine dp 6 rfl n0 y0 (wff y0) i0 (fun h0 z0 => ?_)
       refine dp 7 rfl n0 z0 (wff z0) i0 (fun h0 y0 => ?_)
       refine dp 8 rfl n0 y0 (wu y0) i0 (fun h0 z0 => ?_)
       refine dp 9 rfl n0 z0 (wu z0) i0 (fun h0 y0 => ?_)
       refine dp 10 rfl n0 y0 (wu y0) i0 (fun h0 z0 => ?_)
       refine dp 11 rfl n0 z0 (wu z0) i0 (fun h0 y0 => ?_)
       refine dp 12 rfl n0 y0 (wu y0) i0 (fun h0 z0 => ?_)
       refine dp 13 rfl n0 z0 (wu z0) i0 (fun h0 y0 => ?_)
       refine dp 14 rfl n0 y0 (wff y0) i0 (fun h0 z0 => ?_)
       refine dt 15 rfl n0 z0 (want_n rfl) (fun x hx => r_pick_t (sy z0) z0 rfl rfl rfl rfl (by decide) gt) i0 (fun h0 y0 => ?_)
       refine dtA 16 n0 y0 i0 (fun h0 z0 => ?_)
       refine wpAnyH_done (by kernel_rfl) (k0 _ _ ?_) _
       refine x_then_n (b1 _ _ ?_)
       refine wp_ret ?_
       refine e_ret1 z0 rfl rfl rfl ?_
       refine ⟨?_, v0.fr⟩
       exact congrArg Ending.returned (ret_b (by (rw [right_oth q0 (by omega) (by omega) (by assumption) (by assumption) (by assumption)]; first | rfl | (simp <;> omega) | (simp [j0, b0, d0, q0, c0, u0, c1, f0]; done) | (rw [Bool.eq_iff_iff]; simp <;> omega))))
end Go.Proofs.YtcfponnkfhkbdaaDoor
/- Contracts of functions, one theorem each: what the call returns, and that nothing old is changed. Printed by gen.py. -/
namespace Go.Proofs.YtcfponnkfhkbdaaDoor
open Go Go.RowKit
set_option linter.unusedSimpArgs false
set_option linter.unusedVariables false
set_option maxRecDepth 100000 in
set_option maxHeartbeats 1000000 in
theorem measured_calls (w0 : World) (Z : Nat → Prop) (hZ : ∀ k, Z k → k < w0.heap.size) (tA : Option Addr) (tc : Nat) (t : List Nd) (hShp : Shapes w0 Z) (ht : (dRow 4 tA t.length tc (encNs t)).φ w0 Z) (hl : t.length ≤ 4000 := by first | assumption | omega | (simp; done) | (simp; omega)) (hsm : sml t := by first | assumption | omega | (simp; done) | (simp; omega)) :
    Calls Tryd.prog 85 [.slice tA t.length tc].toArray w0 (fun e w' => ∃ (rA0 : Option Addr) (rc0 : Nat), e = .returned (.tuple #[.slice rA0 (measL t).length rc0, .bool (measB t)]) ∧ Fr none_ w0 w' ∧ (dRow 2 rA0 ((measL t).length) rc0 (encMs (measL t))).φ w' (nxt Z w0 w')) := by
 have b0 := s0 (M := none_) hZ (zc (d := dShapes) hShp (zc ht zn))
 refine c_enter Tryd.func85 rfl Tryd.ntmps85 rfl (fun c0 d0 => ?_)
 refine wsc (fun c0 f0 => ?_)
 refine asg d0 (fun c0 h0 => ?_)
 refine asg h0 (fun c0 d0 => ?_)
 refine wpList_nil (x_then_n (f0 _ _ ?_))
 refine wsc (fun f0 c0 => ?_)
 refine asg d0 (fun f0 h0 => ?_)
 refine asg h0 (fun f0 d0 => ?_)
 refine wpList_nil (x_then_n (c0 _ _ ?_))
 refine wp_seq_k (fun c0 f0 => ?_)
 refine wsc (fun c0 h0 => ?_)
 refine mv d0 (fun c0 i0 => ?_)
 refine r_len sv i0 rfl rfl rfl rfl Tryd.underlying22 (by decide) (fun c0 d0 => ?_)
 refine mv d0 (fun c0 i0 => ?_)
 refine wpList_nil (x_then_n (h0 _ _ ?_))
 refine wp_block ?_
 have h0 := b0.nilrow 111 2
 have b0 := h0.nilrow 111 2
 refine wp_loop_ghost (fun gn ga gw => ∃ k : Nat, ∃ st : List T, ∃ Aa : Option Addr, ∃ ca : Nat, ∃ Ao : Option Addr, ∃ co : Nat, (Reg ga 73 [(1000000, .bool false), (12, .slice tA t.length tc), (13, .int .i64 ((t.length : Nat) : Int)), (14, .int .i64 ((k : Nat) : Int)), (4, .slice Aa ((allTs 0 st).length) ca), (5, .slice Ao ((meas 0 st).length) co)]) ∧ (St w0 Z none_ gw [.row Aa ((allTs 0 st).length) ca 111 2 (encMs (allTs 0 st)), .row Ao ((meas 0 st).length) co 111 2 (encMs (meas 0 st))] [dShapes, dRow 4 tA t.length tc (encNs t)]) ∧ (k ≤ t.length) ∧ (scanT [] (t.take k) = some st) ∧ (t.length - k) = gn) _ ⟨0, [], none, 0, none, 0, (i0.sub (rc rfl (rc rfl (rc rfl (rc rfl (rc rfl (rc rfl rnl))))))), b0, by omega, rfl, rfl⟩ ?_
 rintro b0 i0 h0 ⟨k, st, Aa, ca, Ao, co, c0, d0, hk, hsc, j0⟩
 have hfl := scan_flats hsc hk
 have hml := meas_length 0 st
 have hal := allTs_length 0 st
 have hsl := flats_len_ge st
 refine wsc (fun j0 h0 => ?_)
 refine r_lss sv c0 rfl rfl rfl rfl (by decide) (fun j0 i0 => ?_)
 refine wpList_nil (x_then_n (h0 _ _ ?_))
 refine wp_seq_k (fun h0 j0 => ?_)
 rcases Decidable.em (((k : Nat) : Int) < ((t.length : Nat) : Int)) with h0 | h0
 ·
  have c0 := i0.setb (d := 15) (b := true) rfl (decide_eq_true h0)
  refine wp_cond_true (c0.ev rfl) ?_
  refine wp_skip ?_
  refine x_then_n (j0 _ _ ?_)
  refine wp_seq_k (fun j0 b0 => ?_)
  refine wp_block ?_
  refine wsc (fun j0 k0 => ?_)
  refine mv c0 (fun j0 m0 => ?_)
  refine m_index (i := k) (j := k * 4) sv m0 rfl rfl rfl rfl Tryd.underlying22 sz39 (by omega) (by omega) (nds_elem (t := t) (k := k) (d0.row (i := 1) rfl).2 (by omega)).some_ rfl (by decide) (fun j0 c0 => ?_)
  refine m_loadEN sv c0 rfl rfl rfl (nds_elem (t := t) (k := k) (d0.row (i := 1) rfl).2 (by omega)) Tryd.underlying39 rfl sz39 (by decide) (fun j0 m0 => ?_)
  refine m_alloc (cs := [.int .i64 0, .int .i64 0, .int .i64 0, .string (⟨#[]⟩ : ByteArray)]) sv m0 d0 rfl rfl ze39 rfl (by decide) (fun j0 c0 n0 o0 p0 => ?_)
  refine asg o0 (fun c0 j0 => ?_)
  refine m_store (i := 2) (cs' := [.int .i64 (((nth t k).K)), .int .i64 (((nth t k).N)), .int .i64 (((nth t k).M)), .string ((nth t k).S)]) se j0 p0 rfl rfl rfl rfl rfl sz39 rfl rfl rfl (fun c0 o0 m0 q0 => ?_)
  refine wpList_nil (x_then_n (k0 _ _ ?_))
  refine wp_seq_k (fun k0 o0 => ?_)
  refine wsc (fun k0 c0 => ?_)
  refine m_loadN (i := 2) (vs := [.int .i64 (((nth t k).K)), .int .i64 (((nth t k).N)), .int .i64 (((nth t k).M)), .string ((nth t k).S)]) sv m0 q0 rfl rfl rfl rfl rfl Tryd.underlying39 rfl sz39 (by decide) (fun k0 j0 => ?_)
  have k0 := q0.nf
  refine k_call (xs := [.tmp 19]) se j0 rfl rfl rfl (by decide) ok112 (right_calls _ _ k0.il (nth t k) (k0.g 0) (hs := (hsm _ (by omega)))) ?_
  rintro j0 q0 ⟨rfl, m0⟩
  have q0 := k0.below m0.below
  refine ⟨_, rfl, fun m0 k0 => ?_⟩
  refine r_not sv k0 rfl rfl rfl (by decide) (fun m0 j0 => ?_)
  refine mv j0 (fun m0 k0 => ?_)
  refine l_join (fun ga gw => Reg ga 73 [(4, .slice Aa ((allTs 0 st).length) ca), (5, .slice Ao ((meas 0 st).length) co), (6, .int .i64 ((k : Nat) : Int)), (7, .pointer (some ⟨n0, 0, none⟩)), (12, .slice tA t.length tc), (13, .int .i64 ((t.length : Nat) : Int)), (14, .int .i64 ((k : Nat) : Int)), (28, .bool ((!(right (nth t k))) || (decide ((((meas 0 st).length : Nat) : Int) < ((many (nth t k) : Nat) : Int))))), (1000000, .bool false)] ∧ St w0 Z none_ gw [.row Aa ((allTs 0 st).length) ca 111 2 (encMs (allTs 0 st)), .row Ao ((meas 0 st).length) co 111 2 (encMs (meas 0 st)), .box n0 39 [.int .i64 (((nth t k).K)), .int .i64 (((nth t k).N)), .int .i64 (((nth t k).M)), .string ((nth t k).S)]] [dShapes, dRow 4 tA t.length tc (encNs t)]) 6 ?_ ?_
  ·
   rcases Bool.eq_false_or_eq_true (right (nth t k)) with m0 | m0
   ·
    have j0 := k0.setb (d := 22) (b := false) rfl (by rw [m0]; rfl)
    refine m_loadN (i := 2) (vs := [.int .i64 (((nth t k).K)), .int .i64 (((nth t k).N)), .int .i64 (((nth t k).M)), .string ((nth t k).S)]) (st_listV_w (wt j0)) j0 q0 rfl rfl rfl rfl rfl Tryd.underlying39 rfl sz39 (by decide) (fun p0 t0 => ?_)
    have p0 := q0.nf
    refine k_call (xs := [.tmp 23]) (st_list_w (wt t0)) t0 rfl rfl rfl (by decide) ok58 (many_calls _ _ p0.il (nth t k) (p0.g 0)) ?_
    rintro t0 j0 ⟨rfl, u0⟩
    have j0 := p0.below u0.below
    refine ⟨_, rfl, fun u0 p0 => ?_⟩
    refine r_move (st_listV_w (wt p0)) p0 rfl rfl rfl (by decide) (fun u0 t0 => ?_)
    refine r_len (st_listV_w (wt t0)) t0 rfl rfl rfl rfl Tryd.underlying85 (by decide) (fun u0 p0 => ?_)
    refine r_gtr (st_listV_w (wt p0)) p0 rfl rfl rfl rfl (by decide) (fun u0 t0 => ?_)
    refine r_pick_f sv t0 rfl rfl rfl rfl (by decide) (fun u0 p0 => ?_)
    refine wpList_nil ?_
    exact x_then_n ⟨(p0.sub (rc rfl (rc rfl (rc rfl (rc rfl (rc rfl (rc rfl (rc rfl (rc (rb rfl (by (simp only [m0, bl]; done))) (rc rfl rnl)))))))))), j0⟩
   ·
    have p0 := k0.setb (d := 22) (b := true) rfl (by rw [m0]; rfl)
    refine sps p0 (wff p0) (fun k0 j0 => ?_)
    refine sps j0 (wff j0) (fun k0 p0 => ?_)
    refine sps p0 (wff p0) (fun k0 j0 => ?_)
    refine sps j0 (wff j0) (fun k0 p0 => ?_)
    refine sps p0 (wff p0) (fun k0 j0 => ?_)
    refine r_pick_t sv j0 rfl rfl rfl rfl (by decide) (fun k0 p0 => ?_)
    refine wpList_nil ?_
    exact x_then_n ⟨(p0.sub (rc rfl (rc rfl (rc rfl (rc rfl (rc rfl (rc rfl (rc rfl (rc (rb rfl (by (simp only [m0, bl]; done))) (rc rfl rnl)))))))))), q0⟩
  rintro p0 m0 ⟨q0, k0⟩
  refine wpList_nil (x_then_n (c0 _ _ ?_))
  rcases Bool.eq_false_or_eq_true (((!(right (nth t k))) || (decide ((((meas 0 st).length : Nat) : Int) < ((many (nth t k) : Nat) : Int))))) with c0 | c0
  ·
   have m0 := c0
   try simp only [Bool.or_eq_true, Bool.and_eq_true, Bool.not_eq_true', Bool.not_eq_false', decide_eq_true_eq, decide_eq_false_iff_not, Bool.or_eq_false_iff, Bool.and_eq_false_iff] at m0
   have p0 := q0.setb (d := 28) (b := true) rfl c0
   refine wp_cond_true (p0.ev rfl) ?_
   refine wsc (fun j0 u0 => ?_)
   refine asg p0 (fun j0 t0 => ?_)
   refine asg t0 (fun j0 p0 => ?_)
   refine wpList_nil (x_then_n (u0 _ _ ?_))
   refine wp_ret ?_
   refine x_then_r ?_
   refine x_block_r ?_
   refine x_then_r ?_
   refine x_then_r ?_
   refine x_block_r ?_
   refine x_then_r ?_
   refine e_ret2 p0 rfl rfl rfl rfl ?_
   have p0 : measL t = [] := (meas_bad (scan_none hsc (by omega) (push_none (by rcases m0 with h | h; exact .inl h; exact .inr (by omega))))).1
   rw [p0]
   refine ⟨none, 0, ?_, k0.fr, ⟨Nat.le_refl _, RowI.nil _ _ _ _⟩⟩
   exact ret_t2 rfl (ret_b (by exact (meas_bad (scan_none hsc (by omega) (push_none (by rcases m0 with h | h; exact .inl h; exact .inr (by omega))))).2.symm))
  ·
   have m0 := or_fl c0
   have p0 := not_f m0
   have p0 := or_fr c0
   have m0 := of_decide_eq_false p0
   have m0 := q0.setb (d := 28) (b := false) rfl c0
   refine wp_cond_false (m0.ev rfl) ?_
   refine wp_skip ?_
   refine x_then_n (o0 _ _ ?_)
   refine wsc (fun o0 c0 => ?_)
   refine mv m0 (fun o0 q0 => ?_)
   refine r_len sv q0 rfl rfl rfl rfl Tryd.underlying85 (by decide) (fun o0 m0 => ?_)
   refine m_loadN (i := 2) (vs := [.int .i64 (((nth t k).K)), .int .i64 (((nth t k).N)), .int .i64 (((nth t k).M)), .string ((nth t k).S)]) sv m0 k0 rfl rfl rfl rfl rfl Tryd.underlying39 rfl sz39 (by decide) (fun o0 q0 => ?_)
   have o0 := k0.nf
   refine k_call (xs := [.tmp 31]) se q0 rfl rfl rfl (by decide) ok58 (many_calls _ _ o0.il (nth t k) (o0.g 0)) ?_
   rintro q0 k0 ⟨rfl, m0⟩
   have k0 := o0.below m0.below
   refine ⟨_, rfl, fun m0 o0 => ?_⟩
   refine r_sub (z := ((((meas 0 st).length : Nat) : Int) - ((many (nth t k) : Nat) : Int))) sv o0 rfl rfl rfl rfl (by decide) (by omega) (by omega) (by omega) (fun m0 q0 => ?_)
   refine asg q0 (fun m0 o0 => ?_)
   refine wpList_nil (x_then_n (c0 _ _ ?_))
   refine wsc (fun c0 m0 => ?_)
   refine mv o0 (fun c0 q0 => ?_)
   refine m_build (ps := [(0, .tmp 34), (1, .const (.int .i64 1))]) (v := .agg #[.int .i64 ((k : Nat) : Int), .int .i64 1]) sv q0 rfl rfl rfl (fun _ => by kernel_rfl) (by decide) (fun c0 o0 => ?_)
   refine m_alloc (cs := [.int .i64 0, .int .i64 0]) sv o0 k0 rfl rfl ze111 rfl (by decide) (fun c0 q0 p0 u0 j0 => ?_)
   refine m_store (i := 3) (cs' := [.int .i64 ((k : Nat) : Int), .int .i64 1]) se u0 j0 rfl rfl rfl rfl rfl sz111 rfl rfl rfl (fun q0 c0 o0 k0 => ?_)
   refine wpList_nil (x_then_n (m0 _ _ ?_))
   refine wp_seq_k (fun m0 c0 => ?_)
   refine wsc (fun m0 q0 => ?_)
   refine mv o0 (fun m0 j0 => ?_)
   refine mv j0 (fun m0 o0 => ?_)
   have m0 := own_cap (k0.res (i := 1) rfl)
   refine m_sliceV (lo := some (.tmp 37)) (hi := none) (vlo := (some (.int .i64 ((((meas 0 st).length : Nat) : Int) - ((many (nth t k) : Nat) : Int))))) (vhi := none) (kd := .i64) (kd' := .i64) sv o0 rfl rfl rfl rfl rfl (((meas 0 st).length) - (many (nth t k))) (many (nth t k)) (.inl (by (congr 2; omega))) (.inr ⟨rfl, by omega⟩) Tryd.underlying85 sz111 (by omega) (by decide) (fun m0 j0 u0 t0 v0 x0 => ?_)
   refine r_len sv x0 rfl rfl rfl rfl Tryd.underlying85 (by decide) (fun t0 m0 => ?_)
   refine mv m0 (fun t0 x0 => ?_)
   refine wpList_nil (x_then_n (q0 _ _ ?_))
   refine wp_block ?_
   refine wp_loop_ghost (fun gn ga gw => ∃ j : Nat, (Reg ga 73 [(4, .slice Aa ((allTs 0 st).length) ca), (5, .slice Ao ((meas 0 st).length) co), (12, .slice tA t.length tc), (13, .int .i64 ((t.length : Nat) : Int)), (14, .int .i64 ((k : Nat) : Int)), (1000000, .bool false), (8, .int .i64 ((((meas 0 st).length : Nat) : Int) - ((many (nth t k) : Nat) : Int))), (9, .pointer (some ⟨p0, 0, none⟩)), (38, .slice j0 (many (nth t k)) u0), (39, .int .i64 ((many (nth t k) : Nat) : Int)), (40, .int .i64 ((j : Nat) : Int))]) ∧ (St w0 Z none_ gw [.row Aa ((allTs 0 st).length) ca 111 2 (encMs (allTs 0 st)), .row Ao ((meas 0 st).length) co 111 2 (encMs (meas 0 st)), .box n0 39 [.int .i64 (((nth t k).K)), .int .i64 (((nth t k).N)), .int .i64 (((nth t k).M)), .string ((nth t k).S)], .box p0 111 [.int .i64 ((fromQ k (meas 0 st) (((meas 0 st).length) - (many (nth t k))) j)), .int .i64 ((deepQ (meas 0 st) (((meas 0 st).length) - (many (nth t k))) j))]] [dShapes, dRow 4 tA t.length tc (encNs t)]) ∧ (j ≤ many (nth t k)) ∧ (many (nth t k) - j) = gn) _ ⟨0, (x0.sub (rc rfl (rc rfl (rc rfl (rc rfl (rc rfl (rc rfl (rc rfl (rc rfl (rc rfl (rc rfl (rc rfl rnl)))))))))))), k0, by omega, rfl⟩ ?_
   rintro x0 k0 q0 ⟨j, t0, m0, hj, o0⟩
   obtain ⟨o0, q0⟩ := deepQ_le (st := st) (b := ((meas 0 st).length) - (many (nth t k))) (q := j)
   obtain ⟨q0, o0⟩ := meas_deep_le (st := st) (i := (((meas 0 st).length) - (many (nth t k))) + j)
   refine wsc (fun o0 q0 => ?_)
   refine r_lss sv t0 rfl rfl rfl rfl (by decide) (fun o0 k0 => ?_)
   refine wpList_nil (x_then_n (q0 _ _ ?_))
   refine wp_seq_k (fun q0 o0 => ?_)
   rcases Decidable.em (((j : Nat) : Int) < ((many (nth t k) : Nat) : Int)) with q0 | q0
   ·
    have t0 := k0.setb (d := 41) (b := true) rfl (decide_eq_true q0)
    refine wp_cond_true (t0.ev rfl) ?_
    refine wp_skip ?_
    refine x_then_n (o0 _ _ ?_)
    refine wp_seq_k (fun o0 x0 => ?_)
    refine wp_block ?_
    refine wsc (fun o0 y0 => ?_)
    refine mv t0 (fun o0 z0 => ?_)
    refine m_index (i := j) (j := j * 2) sv z0 rfl rfl rfl rfl Tryd.underlying85 sz111 (by omega) (by omega) (Cut.elem v0 (by omega) (own_ms (t := meas 0 st) (k := (((meas 0 st).length) - (many (nth t k))) + j) (m0.res (i := 1) rfl) (by omega))).some_ rfl (by decide) (fun o0 t0 => ?_)
    refine m_loadEN sv t0 rfl rfl rfl (Cut.elem v0 (by omega) (own_ms (t := meas 0 st) (k := (((meas 0 st).length) - (many (nth t k))) + j) (m0.res (i := 1) rfl) (by omega))) Tryd.underlying111 rfl sz111 (by decide) (fun o0 z0 => ?_)
    refine m_alloc (cs := [.int .i64 0, .int .i64 0]) sv z0 m0 rfl rfl ze111 rfl (by decide) (fun o0 t0 v0 b1 c1 => ?_)
    refine asg b1 (fun t0 o0 => ?_)
    refine m_store (i := 4) (cs' := [.int .i64 (((nthM (meas 0 st) ((((meas 0 st).length) - (many (nth t k))) + j)).1)), .int .i64 (((nthM (meas 0 st) ((((meas 0 st).length) - (many (nth t k))) + j)).2))]) se o0 c1 rfl rfl rfl rfl rfl sz111 rfl rfl rfl (fun t0 b1 z0 f1 => ?_)
    refine wpList_nil (x_then_n (y0 _ _ ?_))
    refine c_join (fun ga gw => Reg ga 73 [(4, .slice Aa ((allTs 0 st).length) ca), (5, .slice Ao ((meas 0 st).length) co), (8, .int .i64 ((((meas 0 st).length : Nat) : Int) - ((many (nth t k) : Nat) : Int))), (9, .pointer (some ⟨p0, 0, none⟩)), (11, .pointer (some ⟨v0, 0, none⟩)), (12, .slice tA t.length tc), (13, .int .i64 ((t.length : Nat) : Int)), (14, .int .i64 ((k : Nat) : Int)), (38, .slice j0 (many (nth t k)) u0), (39, .int .i64 ((many (nth t k) : Nat) : Int)), (40, .int .i64 ((j : Nat) : Int)), (1000000, .bool false)] ∧ St w0 Z none_ gw [.row Aa ((allTs 0 st).length) ca 111 2 (encMs (allTs 0 st)), .row Ao ((meas 0 st).length) co 111 2 (encMs (meas 0 st)), .box n0 39 [.int .i64 (((nth t k).K)), .int .i64 (((nth t k).N)), .int .i64 (((nth t k).M)), .string ((nth t k).S)], .box p0 111 [.int .i64 ((if (((j : Nat) : Int) = 0) then (((nthM (meas 0 st) ((((meas 0 st).length) - (many (nth t k))) + j)).1)) else ((fromQ k (meas 0 st) (((meas 0 st).length) - (many (nth t k))) j)))), .int .i64 ((deepQ (meas 0 st) (((meas 0 st).length) - (many (nth t k))) j))], .box v0 111 [.int .i64 (((nthM (meas 0 st) ((((meas 0 st).length) - (many (nth t k))) + j)).1)), .int .i64 (((nthM (meas 0 st) ((((meas 0 st).length) - (many (nth t k))) + j)).2))]] [dShapes, dRow 4 tA t.length tc (encNs t)]) ?_ ?_
    ·
     refine wsc (fun v0 u0 => ?_)
     refine mv z0 (fun v0 j0 => ?_)
     refine r_eql sv j0 rfl rfl rfl rfl (by decide) (fun v0 z0 => ?_)
     refine wpList_nil (x_then_n (u0 _ _ ?_))
     rcases Decidable.em (((j : Nat) : Int) = 0) with u0 | u0
     ·
      have v0 := z0.setb (d := 46) (b := true) rfl (decide_eq_true u0)
      refine wp_cond_true (v0.ev rfl) ?_
      refine c_region ?_
      refine m_field (j' := 0) sv v0 rfl rfl rfl Tryd.underlying111 rfl sz3 rfl rfl (by decide) (fun j0 p0 => ?_)
      refine m_load (i := 4) sv p0 f1 rfl rfl rfl rfl rfl Tryd.underlying3 rfl (by decide) (fun j0 v0 => ?_)
      refine m_field (j' := 0) sv v0 rfl rfl rfl Tryd.underlying111 rfl sz3 rfl rfl (by decide) (fun j0 p0 => ?_)
      refine m_store (i := 3) (cs' := [.int .i64 (((nthM (meas 0 st) ((((meas 0 st).length) - (many (nth t k))) + j)).1)), .int .i64 ((deepQ (meas 0 st) (((meas 0 st).length) - (many (nth t k))) j))]) se p0 f1 rfl rfl rfl rfl rfl sz3 rfl rfl rfl (fun j0 v0 n0 y0 => ?_)
      refine wpList_nil ?_
      have hSj := y0
      exact x_then_n ⟨(n0.sub (rc rfl (rc rfl (rc rfl (rc rfl (rc rfl (rc rfl (rc rfl (rc rfl (rc rfl (rc rfl (rc rfl (rc rfl rnl))))))))))))), by rw [(show (((if (((j : Nat) : Int) = 0) then (((nthM (meas 0 st) ((((meas 0 st).length) - (many (nth t k))) + j)).1)) else ((fromQ k (meas 0 st) (((meas 0 st).length) - (many (nth t k))) j)))) : Int) = (((nthM (meas 0 st) ((((meas 0 st).length) - (many (nth t k))) + j)).1)) by (simp only [decide_eq_true u0, if_pos u0, bl]; done))]; exact hSj⟩
     ·
      have n0 := z0.setb (d := 46) (b := false) rfl (decide_eq_false u0)
      refine wp_cond_false (n0.ev rfl) ?_
      refine wp_skip ?_
      have hSj := f1
      exact x_then_n ⟨(n0.sub (rc rfl (rc rfl (rc rfl (rc rfl (rc rfl (rc rfl (rc rfl (rc rfl (rc rfl (rc rfl (rc rfl (rc rfl rnl))))))))))))), by rw [(show (((if (((j : Nat) : Int) = 0) then (((nthM (meas 0 st) ((((meas 0 st).length) - (many (nth t k))) + j)).1)) else ((fromQ k (meas 0 st) (((meas 0 st).length) - (many (nth t k))) j)))) : Int) = ((fromQ k (meas 0 st) (((meas 0 st).length) - (many (nth t k))) j)) by (simp only [decide_eq_false u0, if_neg u0, bl]; done))]; exact hSj⟩
    rintro n0 u0 ⟨f1, z0⟩
    refine c_region ?_
    refine m_field (j' := 1) sv f1 rfl rfl rfl Tryd.underlying111 rfl sz3 rfl rfl (by decide) (fun u0 n0 => ?_)
    refine m_load (i := 3) sv n0 z0 rfl rfl rfl rfl rfl Tryd.underlying3 rfl (by decide) (fun u0 f1 => ?_)
    refine m_field (j' := 1) sv f1 rfl rfl rfl Tryd.underlying111 rfl sz3 rfl rfl (by decide) (fun u0 n0 => ?_)
    refine m_load (i := 4) sv n0 z0 rfl rfl rfl rfl rfl Tryd.underlying3 rfl (by decide) (fun u0 f1 => ?_)
    refine r_add (z := (((nthM (meas 0 st) ((((meas 0 st).length) - (many (nth t k))) + j)).2) + 1)) sv f1 rfl rfl rfl rfl (by decide) (by omega) (by omega) (by omega) (fun u0 n0 => ?_)
    refine r_max sv n0 rfl rfl rfl rfl rfl (by decide) (fun u0 f1 => ?_)
    refine m_field (j' := 1) sv f1 rfl rfl rfl Tryd.underlying111 rfl sz3 rfl rfl (by decide) (fun u0 n0 => ?_)
    refine m_store (i := 3) (cs' := [.int .i64 ((if (((j : Nat) : Int) = 0) then (((nthM (meas 0 st) ((((meas 0 st).length) - (many (nth t k))) + j)).1)) else ((fromQ k (meas 0 st) (((meas 0 st).length) - (many (nth t k))) j)))), .int .i64 ((max ((deepQ (meas 0 st) (((meas 0 st).length) - (many (nth t k))) j)) (((nthM (meas 0 st) ((((meas 0 st).length) - (many (nth t k))) + j)).2) + 1)))]) se n0 z0 rfl rfl rfl rfl rfl sz3 rfl rfl rfl (fun u0 f1 y0 v0 => ?_)
    refine wpList_nil ?_
    refine x_block_n ?_
    refine x_then_n (x0 _ _ ?_)
    refine c_region ?_
    refine r_add (z := ((j + 1 : Nat) : Int)) sv y0 rfl rfl rfl rfl (by decide) (by omega) (by omega) (by omega) (fun x0 f1 => ?_)
    refine mv f1 (fun x0 y0 => ?_)
    refine wpList_nil ?_
    have x0 : ((if (((j : Nat) : Int) = 0) then (((nthM (meas 0 st) ((((meas 0 st).length) - (many (nth t k))) + j)).1)) else ((fromQ k (meas 0 st) (((meas 0 st).length) - (many (nth t k))) j)))) = ((fromQ k (meas 0 st) (((meas 0 st).length) - (many (nth t k))) (j + 1))) := by unfold fromQ; (repeat' split) <;> first | rfl | omega | (congr 2; omega) | (congr 3; omega)
    have f1 := v0
    rw [x0] at f1
    have x0 : ((max ((deepQ (meas 0 st) (((meas 0 st).length) - (many (nth t k))) j)) (((nthM (meas 0 st) ((((meas 0 st).length) - (many (nth t k))) + j)).2) + 1))) = ((deepQ (meas 0 st) (((meas 0 st).length) - (many (nth t k))) (j + 1))) := rfl
    have v0 := f1
    rw [x0] at v0
    have x0 := v0.erase 4
    exact ⟨_, by omega, j + 1, (y0.sub (rc rfl (rc rfl (rc rfl (rc rfl (rc rfl (rc rfl (rc rfl (rc rfl (rc rfl (rc rfl (rc rfl rnl)))))))))))), x0, by omega, rfl⟩
   ·
    have x0 := k0.setb (d := 41) (b := false) rfl (decide_eq_false q0)
    refine wp_cond_false (x0.ev rfl) ?_
    refine wp_exit ?_
    refine x_then_e ?_
    refine x_then_e ?_
    refine x_block_eq ?_
    refine x_then_n (c0 _ _ ?_)
    refine wp_seq_k (fun c0 q0 => ?_)
    obtain ⟨c0, k0, y0⟩ := m0.agree
    refine d_reg3 (n := 7) y0 2 (pB 3 0 pn) (pan_then (pan_block (pan_then (pan_then (pan_block (pan_then pan_body)))))) (fun k0 c0 m0 v0 f1 u0 => ?_)
    refine dtM 0 c0 x0 u0 (fun v0 k0 => ?_)
    refine dtM 1 c0 k0 u0 (fun v0 x0 => ?_)
    refine dt 2 rfl c0 x0 (want_n rfl) (fun x hx => m_sliceP (q := ((meas 0 st).length) - (many (nth t k))) (sy x0) x0 rfl rfl rfl rfl (by omega) Tryd.underlying85 sz111 (by omega) (by decide) gt) u0 (fun v0 k0 => ?_)
    refine dt 3 rfl c0 k0 (want_n rfl) (fun x hx => m_loadCN (sy k0) k0 rfl rfl rfl (CellsAt.cons_ (hx.c 0) (CellsAt.cons_ (hx.c 1) (CellsAt.nil _ _))) Tryd.underlying111 rfl sz111 (by decide) gt) u0 (fun v0 x0 => ?_)
    refine d1 4 ?_
    refine mbs [(0, .tmp 61)] [.int .i64 ((fromQ k (meas 0 st) (((meas 0 st).length) - (many (nth t k))) j)), .int .i64 ((deepQ (meas 0 st) (((meas 0 st).length) - (many (nth t k))) j))] (st_opV rfl (want_n rfl)) x0 f1 Tryd.underlying85 zi111 (fun v0 k0 u0 y0 n0 => ?_)
    have u0 := sWI n0 2 (pB 3 0 pn)
    refine ⟨u0, ?_⟩
    refine d1 5 ?_
    refine m_appendC (f := encM) (i := 1) (meas 0 st) ([(((fromQ k (meas 0 st) (((meas 0 st).length) - (many (nth t k))) j)), ((deepQ (meas 0 st) (((meas 0 st).length) - (many (nth t k))) j)))]) (st_opV rfl (want_n rfl)) y0 n0 rfl rfl rfl rfl rfl (by omega) encM_len (encM_one _) Tryd.underlying85 zi111 rfl rfl (own_lnews (f := encM) (n0.res (i := 4) rfl)) rfl (by first | omega | (simp only [List.length_cons, List.length_nil]; omega)) (by decide) (fun u0 k0 v0 x0 f1 z0 j0 => ?_)
    have f1 : ((meas 0 st).take (((meas 0 st).length) - (many (nth t k))) ++ ([(((fromQ k (meas 0 st) (((meas 0 st).length) - (many (nth t k))) j)), ((deepQ (meas 0 st) (((meas 0 st).length) - (many (nth t k))) j)))]) : List (Int × Int)).length = ((meas 0 st).length + 1) - (many (nth t k)) := by (simp only [List.length_append, List.length_take, List.length_cons, List.length_nil]; omega)
    have f1 := j0.erase 4
    have j0 := sWI f1 2 (pB 3 0 pn)
    refine ⟨j0, ?_⟩
    refine dtA 6 c0 z0 j0 (fun k0 u0 => ?_)
    refine wpAnyH_done (by kernel_rfl) (m0 _ _ ?_) _
    refine x_then_n (q0 _ _ ?_)
    refine c_region ?_
    refine mv u0 (fun q0 m0 => ?_)
    refine m_loadN (i := 3) (vs := [.int .i64 ((fromQ k (meas 0 st) (((meas 0 st).length) - (many (nth t k))) j)), .int .i64 ((deepQ (meas 0 st) (((meas 0 st).length) - (many (nth t k))) j))]) sv m0 f1 rfl rfl rfl rfl rfl Tryd.underlying111 rfl sz111 (by decide) (fun q0 u0 => ?_)
    refine mbs [(0, .tmp 65)] [.int .i64 ((fromQ k (meas 0 st) (((meas 0 st).length) - (many (nth t k))) j)), .int .i64 ((deepQ (meas 0 st) (((meas 0 st).length) - (many (nth t k))) j))] sv u0 f1 Tryd.underlying85 zi111 (fun q0 m0 k0 j0 z0 => ?_)
    refine m_appendF (f := encM) (i := 0) (allTs 0 st) ([(((fromQ k (meas 0 st) (((meas 0 st).length) - (many (nth t k))) j)), ((deepQ (meas 0 st) (((meas 0 st).length) - (many (nth t k))) j)))]) sv j0 z0 rfl rfl rfl rfl rfl encM_len (encM_one _) Tryd.underlying85 zi111 rfl rfl (own_lnews (f := encM) (z0.res (i := 4) rfl)) rfl (by first | omega | (simp only [List.length_cons, List.length_nil]; omega)) (by decide) (fun k0 m0 q0 u0 f1 c0 n0 => ?_)
    have f1 : ((allTs 0 st) ++ ([(((fromQ k (meas 0 st) (((meas 0 st).length) - (many (nth t k))) j)), ((deepQ (meas 0 st) (((meas 0 st).length) - (many (nth t k))) j)))]) : List (Int × Int)).length = (allTs 0 st).length + 1 := by (simp only [List.length_append, List.length_take, List.length_cons, List.length_nil]; done)
    have f1 := n0.erase 4
    refine asg c0 (fun n0 m0 => ?_)
    refine wpList_nil ?_
    refine x_block_n ?_
    refine x_then_n (b0 _ _ ?_)
    refine c_region ?_
    refine r_add (z := ((k + 1 : Nat) : Int)) sv m0 rfl rfl rfl rfl (by decide) (by omega) (by omega) (by omega) (fun b0 n0 => ?_)
    refine mv n0 (fun b0 m0 => ?_)
    refine wpList_nil ?_
    obtain ⟨st', hp, hpl⟩ := push_some (st := st) (n := nth t k) (by assumption) (by omega)
    obtain ⟨hm1, hm2⟩ := push_meas hp hfl
    have hjq : j = many (nth t k) := by omega
    have b0 : (allTs 0 st) ++ ([(((fromQ k (meas 0 st) (((meas 0 st).length) - (many (nth t k))) j)), ((deepQ (meas 0 st) (((meas 0 st).length) - (many (nth t k))) j)))]) = allTs 0 st' := by rw [hm2, hjq]; try simp only [meas_length]
    have n0 := m0
    have m0 := f1
    rw [b0] at n0 m0
    have b0 : (meas 0 st).take (((meas 0 st).length) - (many (nth t k))) ++ ([(((fromQ k (meas 0 st) (((meas 0 st).length) - (many (nth t k))) j)), ((deepQ (meas 0 st) (((meas 0 st).length) - (many (nth t k))) j)))]) = meas 0 st' := by rw [hm1, hjq]; try simp only [meas_length]
    have f1 := n0
    have n0 := m0
    rw [b0] at f1 n0
    have b0 := n0.erase 3
    have n0 := b0.erase 2
    have b0 := n0.forget 2
    exact ⟨_, by omega, k + 1, st', q0, u0, v0, x0, (f1.sub (rc rfl (rc rfl (rc rfl (rc rfl (rc rfl (rc rfl rnl))))))), b0, by omega, (scan_step hsc (by omega)).trans hp, rfl⟩
 ·
  have b0 := i0.setb (d := 15) (b := false) rfl (decide_eq_false h0)
  refine wp_cond_false (b0.ev rfl) ?_
  refine wp_exit ?_
  refine x_then_e ?_
  refine x_then_e ?_
  refine x_block_eq ?_
  refine x_then_n (f0 _ _ ?_)
  refine wsc (fun f0 h0 => ?_)
  refine mv b0 (fun f0 i0 => ?_)
  refine mv i0 (fun f0 b0 => ?_)
  refine r_len sv b0 rfl rfl rfl rfl Tryd.underlying85 (by decide) (fun f0 i0 => ?_)
  refine r_eql sv i0 rfl rfl rfl rfl (by decide) (fun f0 b0 => ?_)
  refine asg b0 (fun f0 i0 => ?_)
  refine asg i0 (fun f0 b0 => ?_)
  refine wpList_nil (x_then_n (h0 _ _ ?_))
  refine wp_ret ?_
  refine e_ret2 b0 rfl rfl rfl rfl ?_
  have b0 : measL t = allTs 0 st := measL_end (by rw [← hsc, List.take_of_length_le (by omega)])
  rw [b0]
  have b0 := own_cap (d0.res (i := 0) rfl)
  obtain ⟨h0, f0⟩ := d0.row_data (i := 0) rfl (fun _ h => h)
  have d0 := h0.data (dRow 2 Aa ((allTs 0 st).length) ca (encMs (allTs 0 st))) ⟨b0, f0⟩
  refine ⟨Aa, ca, ?_, d0.fr, d0.rx 2⟩
  exact ret_t2 rfl (ret_b (by (rw [measB_end (by rw [← hsc, List.take_of_length_le (by omega)]), meas_length]; done)))
set_option maxRecDepth 100000 in
set_option maxHeartbeats 1000000 in
theorem look_calls (w0 : World) (Z : Nat → Prop) (hZ : ∀ k, Z k → k < w0.heap.size) (tA : Option Addr) (tc : Nat) (t : List Nd) (hShp : Shapes w0 Z) (ht : (dRow 4 tA t.length tc (encNs t)).φ w0 Z) (hsm : sml t := by first | assumption | omega | (simp; done) | (simp; omega)) (hl : t.length ≤ 1000000 := by first | assumption | omega | (simp; done) | (simp; omega)) :
    Calls Tryd.prog 57 [.slice tA t.length tc].toArray w0 (fun e w' => ∃ (rA0 : Option Addr) (rc0 : Nat), e = .returned (.tuple #[.slice rA0 (lookL t).length rc0, .int .i64 (chk t)]) ∧ Fr none_ w0 w' ∧ (dRow 2 rA0 ((lookL t).length) rc0 (encMs (lookL t))).φ w' (nxt Z w0 w')) := by
 have b0 := s0 (M := none_) hZ (zc (d := dShapes) hShp (zc ht zn))
 refine c_enter Tryd.func57 rfl Tryd.ntmps57 rfl (fun c0 d0 => ?_)
 refine wsc (fun c0 f0 => ?_)
 refine asg d0 (fun c0 h0 => ?_)
 refine asg h0 (fun c0 d0 => ?_)
 refine wpList_nil (x_then_n (f0 _ _ ?_))
 refine wp_seq_k (fun f0 c0 => ?_)
 refine wsc (fun f0 h0 => ?_)
 refine mv d0 (fun f0 i0 => ?_)
 refine r_len sv i0 rfl rfl rfl rfl Tryd.underlying22 (by decide) (fun f0 d0 => ?_)
 refine r_gtr sv d0 rfl rfl rfl rfl (by decide) (fun f0 i0 => ?_)
 refine wpList_nil (x_then_n (h0 _ _ ?_))
 rcases Decidable.em (4000 < ((t.length : Nat) : Int)) with h0 | h0
 ·
  have f0 := i0.setb (d := 8) (b := true) rfl (decide_eq_true h0)
  refine wp_cond_true (f0.ev rfl) ?_
  refine wsc (fun d0 j0 => ?_)
  refine asg f0 (fun d0 k0 => ?_)
  refine asg k0 (fun d0 f0 => ?_)
  refine wpList_nil (x_then_n (j0 _ _ ?_))
  refine wp_ret ?_
  refine x_then_r ?_
  refine e_ret2 f0 rfl rfl rfl rfl ?_
  have f0 : lookL t = [] := lookL_bad (by rw [chk_size (by omega)]; omega)
  rw [f0]
  refine ⟨none, 0, ?_, b0.fr, ⟨Nat.le_refl _, RowI.nil _ _ _ _⟩⟩
  exact ret_t2 rfl (ret_i (by first | exact (chk_size (by omega)).symm))
 ·
  have f0 := i0.setb (d := 8) (b := false) rfl (decide_eq_false h0)
  refine wp_cond_false (f0.ev rfl) ?_
  refine wp_skip ?_
  refine x_then_n (c0 _ _ ?_)
  refine wsc (fun c0 h0 => ?_)
  refine mv f0 (fun c0 i0 => ?_)
  have c0 := b0.nf
  refine k_call (xs := [.tmp 10]) se i0 rfl rfl rfl (by decide) ok85 (measured_calls _ _ c0.il _ _ _ (c0.g 0) (c0.g 1)) ?_
  rintro i0 b0 ⟨f0, j0, rfl, d0, k0⟩
  have b0 := c0.below d0.below
  have d0 := c0.dN b0 k0
  refine ⟨_, rfl, fun b0 k0 => ?_⟩
  refine mv k0 (fun b0 c0 => ?_)
  refine r_extract sv c0 rfl rfl rfl rfl (by decide) (fun b0 k0 => ?_)
  refine r_extract sv k0 rfl rfl rfl rfl (by decide) (fun b0 c0 => ?_)
  refine asg c0 (fun b0 k0 => ?_)
  refine asg k0 (fun b0 c0 => ?_)
  refine wpList_nil (x_then_n (h0 _ _ ?_))
  refine wp_seq_k (fun h0 b0 => ?_)
  refine wp_block ?_
  refine wsc (fun h0 k0 => ?_)
  refine mv c0 (fun h0 i0 => ?_)
  refine r_not sv i0 rfl rfl rfl (by decide) (fun h0 c0 => ?_)
  refine asg c0 (fun h0 i0 => ?_)
  refine wpList_nil (x_then_n (k0 _ _ ?_))
  rcases Bool.eq_false_or_eq_true (measB t) with k0 | k0
  ·
   have hpos := measL_pos k0
   have hml := measL_length k0
   have h0 := i0.setb (d := 14) (b := false) rfl (by rw [k0]; rfl)
   refine wp_cond_false (h0.ev rfl) ?_
   refine wsc (fun c0 m0 => ?_)
   refine mv h0 (fun c0 n0 => ?_)
   refine mv n0 (fun c0 h0 => ?_)
   refine r_len sv h0 rfl rfl rfl rfl Tryd.underlying85 (by decide) (fun c0 n0 => ?_)
   refine r_sub (z := ((((measL t).length : Nat) : Int) - 1)) sv n0 rfl rfl rfl rfl (by decide) (by omega) (by omega) (by omega) (fun c0 h0 => ?_)
   refine m_index (i := ((measL t).length) - (1)) (j := (((measL t).length) - (1)) * 2) sv h0 rfl rfl rfl rfl Tryd.underlying85 sz111 (by omega) (by omega) (ms_elem (t := measL t) (k := ((measL t).length) - (1)) (d0.row (i := 2) rfl).2 (by omega)).some_ rfl (by decide) (fun c0 n0 => ?_)
   refine m_fieldE (j' := (((measL t).length) - (1)) * 2 + 1) sv n0 rfl rfl rfl (ms_elem (t := measL t) (k := ((measL t).length) - (1)) (d0.row (i := 2) rfl).2 (by omega)).some_ Tryd.underlying111 rfl sz3 rfl rfl (by decide) (fun c0 h0 => ?_)
   refine m_loadE sv h0 rfl rfl rfl 1 ((((measL t).length) - (1)) * 2) (ms_elem (t := measL t) (k := ((measL t).length) - (1)) (d0.row (i := 2) rfl).2 (by omega)) rfl rfl Tryd.underlying3 rfl (by decide) (fun c0 n0 => ?_)
   refine r_gtr sv n0 rfl rfl rfl rfl (by decide) (fun c0 h0 => ?_)
   refine asg h0 (fun c0 n0 => ?_)
   refine wpList_nil (x_then_n (m0 _ _ ?_))
   rcases Decidable.em (60 < (((nthM (measL t) (((measL t).length) - (1))).2))) with m0 | m0
   ·
    have c0 := n0.setb (d := 17) (b := true) rfl (decide_eq_true m0)
    refine wp_cond_true (c0.ev rfl) ?_
    refine wsc (fun h0 o0 => ?_)
    refine asg c0 (fun h0 p0 => ?_)
    refine asg p0 (fun h0 c0 => ?_)
    refine wpList_nil (x_then_n (o0 _ _ ?_))
    refine wp_ret ?_
    refine x_block_r ?_
    refine x_then_r ?_
    refine e_ret2 c0 rfl rfl rfl rfl ?_
    have c0 : lookL t = [] := lookL_bad (by (rw [chk_deep (by omega) (by assumption) (by assumption)]; omega))
    rw [c0]
    refine ⟨none, 0, ?_, d0.fr, ⟨Nat.le_refl _, RowI.nil _ _ _ _⟩⟩
    exact ret_t2 rfl (ret_i (by first | exact (chk_deep (by omega) (by assumption) (by assumption)).symm))
   ·
    have c0 := n0.setb (d := 17) (b := false) rfl (decide_eq_false m0)
    refine wp_cond_false (c0.ev rfl) ?_
    refine wp_skip ?_
    refine x_block_n ?_
    refine x_then_n (b0 _ _ ?_)
    refine wsc (fun b0 m0 => ?_)
    refine mv c0 (fun b0 n0 => ?_)
    refine asg n0 (fun b0 c0 => ?_)
    refine asg c0 (fun b0 n0 => ?_)
    refine wpList_nil (x_then_n (m0 _ _ ?_))
    refine wp_ret ?_
    refine e_ret2 n0 rfl rfl rfl rfl ?_
    have n0 : lookL t = measL t := lookL_good (chk_good (by omega) (by assumption) (by assumption))
    rw [n0]
    refine ⟨f0, j0, ?_, d0.fr, d0.rx 2⟩
    exact ret_t2 rfl (ret_i (by first | exact (chk_good (by omega) (by assumption) (by assumption)).symm))
  ·
   have j0 := i0.setb (d := 14) (b := true) rfl (by rw [k0]; rfl)
   refine wp_cond_true (j0.ev rfl) ?_
   refine wsc (fun k0 i0 => ?_)
   refine asg j0 (fun k0 f0 => ?_)
   refine asg f0 (fun k0 j0 => ?_)
   refine wpList_nil (x_then_n (i0 _ _ ?_))
   refine wp_ret ?_
   refine x_block_r ?_
   refine x_then_r ?_
   refine e_ret2 j0 rfl rfl rfl rfl ?_
   have j0 : lookL t = [] := lookL_bad (by (rw [chk_form (by omega) (by assumption)]; omega))
   rw [j0]
   refine ⟨none, 0, ?_, d0.fr, ⟨Nat.le_refl _, RowI.nil _ _ _ _⟩⟩
   exact ret_t2 rfl (ret_i (by first | exact (chk_form (by omega) (by assumption)).symm))
set_option maxRecDepth 100000 in
set_option maxHeartbeats 1000000 in
theorem check_calls (w0 : World) (Z : Nat → Prop) (hZ : ∀ k, Z k → k < w0.heap.size) (tA : Option Addr) (tc : Nat) (t : List Nd) (hShp : Shapes w0 Z) (ht : (dRow 4 tA t.length tc (encNs t)).φ w0 Z) (hsm : sml t := by first | assumption | omega | (simp; done) | (simp; omega)) (hl : t.length ≤ 1000000 := by first | assumption | omega | (simp; done) | (simp; omega)) :
    Calls Tryd.prog 40 [.slice tA t.length tc].toArray w0 (fun e w' => e = .returned (.int .i64 (chk t)) ∧ Fr none_ w0 w') := by
 have b0 := s0 (M := none_) hZ (zc (d := dShapes) hShp (zc ht zn))
 refine c_enter Tryd.func40 rfl Tryd.ntmps40 rfl (fun c0 d0 => ?_)
 refine wsc (fun c0 f0 => ?_)
 refine asg d0 (fun c0 h0 => ?_)
 refine wpList_nil (x_then_n (f0 _ _ ?_))
 refine wsc (fun f0 c0 => ?_)
 refine mv h0 (fun f0 d0 => ?_)
 have f0 := b0.nf
 refine k_call (xs := [.tmp 6]) se d0 rfl rfl rfl (by decide) ok57 (look_calls _ _ f0.il _ _ _ (f0.g 0) (f0.g 1)) ?_
 rintro d0 b0 ⟨h0, i0, rfl, j0, k0⟩
 have i0 := f0.below j0.below
 have j0 := f0.dN i0 k0
 refine ⟨_, rfl, fun i0 k0 => ?_⟩
 refine mv k0 (fun i0 f0 => ?_)
 refine r_extract sv f0 rfl rfl rfl rfl (by decide) (fun i0 k0 => ?_)
 refine r_extract sv k0 rfl rfl rfl rfl (by decide) (fun i0 f0 => ?_)
 refine asg f0 (fun i0 k0 => ?_)
 refine asg k0 (fun i0 f0 => ?_)
 refine wpList_nil (x_then_n (c0 _ _ ?_))
 refine wsc (fun c0 i0 => ?_)
 refine mv f0 (fun c0 k0 => ?_)
 refine asg k0 (fun c0 f0 => ?_)
 refine wpList_nil (x_then_n (i0 _ _ ?_))
 refine wp_ret ?_
 refine e_ret1 f0 rfl rfl rfl ?_
 refine ⟨?_, j0.fr⟩
 exact congrArg Ending.returned (ret_i (by rfl))
end Go.Proofs.YtcfponnkfhkbdaaDoor
/- Contracts of functions, one theorem each: what the call returns, and that nothing old is changed. Printed by gen.py. -/
namespace Go.Proofs.YtcfponnkfhkbdaaDoor
open Go Go.RowKit
set_option linter.unusedSimpArgs false
set_option linter.unusedVariables false
set_option maxRecDepth 100000 in
set_option maxHeartbeats 1000000 in
theorem cloneI_calls (w0 : World) (Z : Nat → Prop) (hZ : ∀ k, Z k → k < w0.heap.size) (tA : Option Addr) (tc : Nat) (t : List Int) (ht : (dRow 1 tA t.length tc (encIs t)).φ w0 Z) (hl : t.length ≤ 1000000 := by first | assumption | omega | (simp; done) | (simp; omega)) :
    Calls Tryd.prog 133 [.slice tA t.length tc].toArray w0 (fun e w' => ∃ (rA0 : Option Addr) (rc0 : Nat), e = .returned (.slice rA0 (t).length rc0) ∧ Fr none_ w0 w' ∧ (dRow 1 rA0 ((t).length) rc0 (encIs t)).φ w' (nxt Z w0 w')) := by
 have b0 := s0 (M := none_) hZ (zc ht zn)
 refine c_enter Tryd.func133 rfl Tryd.ntmps133 rfl (fun c0 d0 => ?_)
 refine wsc (fun c0 f0 => ?_)
 refine asg d0 (fun c0 h0 => ?_)
 refine wpList_nil (x_then_n (f0 _ _ ?_))
 refine wp_seq_k (fun f0 c0 => ?_)
 refine wsc (fun f0 d0 => ?_)
 refine mv h0 (fun f0 i0 => ?_)
 refine r_eqlNil sv i0 rfl rfl rfl rfl Tryd.underlying79 (by decide) (fun f0 h0 => ?_)
 refine wpList_nil (x_then_n (d0 _ _ ?_))
 rcases Bool.eq_false_or_eq_true (Option.isNone tA) with d0 | d0
 ·
  have f0 := h0.setb (d := 4) (b := true) rfl d0
  refine wp_cond_true (f0.ev rfl) ?_
  refine wsc (fun i0 j0 => ?_)
  refine asg f0 (fun i0 k0 => ?_)
  refine wpList_nil (x_then_n (j0 _ _ ?_))
  refine wp_ret ?_
  refine x_then_r ?_
  refine e_ret1 k0 rfl rfl rfl ?_
  have k0 : t = [] := List.eq_nil_of_length_eq_zero (nil_len ht (by assumption))
  rw [k0]
  refine ⟨none, 0, ?_, b0.fr, ⟨Nat.le_refl _, RowI.nil _ _ _ _⟩⟩
  exact congrArg Ending.returned rfl
 ·
  have k0 := h0.setb (d := 4) (b := false) rfl d0
  refine wp_cond_false (k0.ev rfl) ?_
  refine wp_skip ?_
  refine x_then_n (c0 _ _ ?_)
  refine wsc (fun c0 d0 => ?_)
  refine mbs [] [] sv k0 b0 Tryd.underlying79 zi3 (fun c0 h0 j0 i0 f0 => ?_)
  refine mv i0 (fun j0 h0 => ?_)
  refine m_appendF (f := encI) (i := 0) ([]) (t) sv h0 f0 rfl rfl rfl rfl rfl encI_len (encI_one _) Tryd.underlying79 zi3 rfl rfl (f0.row (i := 0) rfl).2.news rfl (by first | omega | (simp only [List.length_cons, List.length_nil]; omega)) (by decide) (fun j0 i0 c0 k0 b0 m0 n0 => ?_)
  have b0 : (([]) ++ t : List Int).length = t.length := by (simp only [List.length_append, List.length_take, List.length_cons, List.length_nil]; omega)
  refine asg m0 (fun b0 i0 => ?_)
  refine wpList_nil (x_then_n (d0 _ _ ?_))
  refine wp_ret ?_
  refine e_ret1 i0 rfl rfl rfl ?_
  have i0 : t = ([]) ++ t := by simp
  rw [i0]
  have i0 := own_cap (n0.res (i := 0) rfl)
  obtain ⟨d0, b0⟩ := n0.row_data (i := 0) rfl (fun _ h => h)
  have n0 := d0.data (dRow 1 c0 ((([]) ++ t : List Int).length) k0 (encIs (([]) ++ t))) ⟨i0, b0⟩
  refine ⟨c0, k0, ?_, n0.fr, n0.rx 1⟩
  exact congrArg Ending.returned rfl
set_option maxRecDepth 100000 in
set_option maxHeartbeats 1000000 in
theorem cloneN_calls (w0 : World) (Z : Nat → Prop) (hZ : ∀ k, Z k → k < w0.heap.size) (tA : Option Addr) (tc : Nat) (t : List Nd) (ht : (dRow 4 tA t.length tc (encNs t)).φ w0 Z) (hl : t.length ≤ 1000000 := by first | assumption | omega | (simp; done) | (simp; omega)) :
    Calls Tryd.prog 60 [.slice tA t.length tc].toArray w0 (fun e w' => ∃ (rA0 : Option Addr) (rc0 : Nat), e = .returned (.slice rA0 (t).length rc0) ∧ Fr none_ w0 w' ∧ (Res.row rA0 (t).length rc0 39 4 (encNs t)).holds w' ∧ (∀ k, (Res.row rA0 (t).length rc0 39 4 (encNs t)).blk = some k → w0.heap.size ≤ k)) := by
 have b0 := s0 (M := none_) hZ (zc ht zn)
 refine c_enter Tryd.func60 rfl Tryd.ntmps60 rfl (fun c0 d0 => ?_)
 refine wsc (fun c0 f0 => ?_)
 refine asg d0 (fun c0 h0 => ?_)
 refine wpList_nil (x_then_n (f0 _ _ ?_))
 refine wp_seq_k (fun f0 c0 => ?_)
 refine wsc (fun f0 d0 => ?_)
 refine mv h0 (fun f0 i0 => ?_)
 refine r_eqlNil sv i0 rfl rfl rfl rfl Tryd.underlying22 (by decide) (fun f0 h0 => ?_)
 refine wpList_nil (x_then_n (d0 _ _ ?_))
 rcases Bool.eq_false_or_eq_true (Option.isNone tA) with d0 | d0
 ·
  have f0 := h0.setb (d := 4) (b := true) rfl d0
  refine wp_cond_true (f0.ev rfl) ?_
  refine wsc (fun i0 j0 => ?_)
  refine asg f0 (fun i0 k0 => ?_)
  refine wpList_nil (x_then_n (j0 _ _ ?_))
  refine wp_ret ?_
  refine x_then_r ?_
  refine e_ret1 k0 rfl rfl rfl ?_
  have k0 : t = [] := List.eq_nil_of_length_eq_zero (nil_len ht (by assumption))
  rw [k0]
  refine ⟨none, 0, ?_, b0.fr, nil_row1, nil_row2⟩
  exact congrArg Ending.returned rfl
 ·
  have k0 := h0.setb (d := 4) (b := false) rfl d0
  refine wp_cond_false (k0.ev rfl) ?_
  refine wp_skip ?_
  refine x_then_n (c0 _ _ ?_)
  refine wsc (fun c0 d0 => ?_)
  refine mbs [] [] sv k0 b0 Tryd.underlying22 zi39 (fun c0 h0 j0 i0 f0 => ?_)
  refine mv i0 (fun j0 h0 => ?_)
  refine m_appendF (f := encN) (i := 0) ([]) (t) sv h0 f0 rfl rfl rfl rfl rfl encN_len (encN_one _) Tryd.underlying22 zi39 rfl rfl (f0.row (i := 0) rfl).2.news rfl (by first | omega | (simp only [List.length_cons, List.length_nil]; omega)) (by decide) (fun j0 i0 c0 k0 b0 m0 n0 => ?_)
  have b0 : (([]) ++ t : List Nd).length = t.length := by (simp only [List.length_append, List.length_take, List.length_cons, List.length_nil]; omega)
  refine asg m0 (fun b0 i0 => ?_)
  refine wpList_nil (x_then_n (d0 _ _ ?_))
  refine wp_ret ?_
  refine e_ret1 i0 rfl rfl rfl ?_
  have i0 : t = ([]) ++ t := by simp
  rw [i0]
  refine ⟨c0, k0, ?_, n0.fr, (n0.res (i := 0) rfl), (n0.fresh (i := 0) rfl)⟩
  exact congrArg Ending.returned rfl
end Go.Proofs.YtcfponnkfhkbdaaDoor
/- Contracts of functions, one theorem each: what the call returns, and that nothing old is changed. Printed by gen.py. -/
namespace Go.Proofs.YtcfponnkfhkbdaaDoor
open Go Go.RowKit
set_option linter.unusedSimpArgs false
set_option linter.unusedVariables false
set_option maxRecDepth 100000 in
set_option maxHeartbeats 1000000 in
theorem binds_calls (w0 : World) (Z : Nat → Prop) (hZ : ∀ k, Z k → k < w0.heap.size) (n : Nd) (hShp : Shapes w0 Z) (hs : n.S.size < 1000000 := by first | assumption | omega | (simp; done) | (simp; omega)) :
    Calls Tryd.prog 129 [.agg #[.int .i64 (n.K), .int .i64 (n.N), .int .i64 (n.M), .string n.S]].toArray w0 (fun e w' => ∃ (rA0 : Option Addr) (rc0 : Nat), e = .returned (.tuple #[.slice rA0 (bindsR n).length rc0, .bool (right n)]) ∧ Fr none_ w0 w' ∧ (dRow 1 rA0 ((bindsR n).length) rc0 (encIs (bindsR n))).φ w' (nxt Z w0 w')) := by
 have b0 := s0 (M := none_) hZ (zc (d := dShapes) hShp zn)
 refine c_enter Tryd.func129 rfl Tryd.ntmps129 rfl (fun c0 d0 => ?_)
 refine wsc (fun c0 f0 => ?_)
 refine m_box (cs := [.int .i64 (n.K), .int .i64 (n.N), .int .i64 (n.M), .string n.S]) sv d0 b0 rfl rfl rfl rfl (by decide) (fun c0 h0 i0 j0 k0 => ?_)
 refine asg j0 (fun i0 h0 => ?_)
 refine asg h0 (fun i0 j0 => ?_)
 refine wpList_nil (x_then_n (f0 _ _ ?_))
 refine wp_seq_k (fun f0 i0 => ?_)
 refine wsc (fun f0 h0 => ?_)
 refine m_loadN (i := 0) (vs := [.int .i64 (n.K), .int .i64 (n.N), .int .i64 (n.M), .string n.S]) sv j0 k0 rfl rfl rfl rfl rfl Tryd.underlying39 rfl sz39 (by decide) (fun f0 c0 => ?_)
 have f0 := k0.nf
 refine k_call (xs := [.tmp 4]) se c0 rfl rfl rfl (by decide) ok112 (right_calls _ _ f0.il n (f0.g 0)) ?_
 rintro c0 k0 ⟨rfl, j0⟩
 have k0 := f0.below j0.below
 refine ⟨_, rfl, fun j0 f0 => ?_⟩
 refine r_not sv f0 rfl rfl rfl (by decide) (fun j0 c0 => ?_)
 refine wpList_nil (x_then_n (h0 _ _ ?_))
 rcases Bool.eq_false_or_eq_true (right n) with h0 | h0
 ·
  have hk := right_K h0
  have j0 := c0.setb (d := 6) (b := false) rfl (by rw [h0]; rfl)
  refine wp_cond_false (j0.ev rfl) ?_
  refine wp_skip ?_
  refine x_then_n (i0 _ _ ?_)
  refine wp_seq_k (fun i0 f0 => ?_)
  refine wsc (fun i0 d0 => ?_)
  refine m_field (j' := 0) sv j0 rfl rfl rfl Tryd.underlying39 rfl sz3 rfl rfl (by decide) (fun i0 b0 => ?_)
  refine m_load (i := 0) sv b0 k0 rfl rfl rfl rfl rfl Tryd.underlying3 rfl (by decide) (fun i0 j0 => ?_)
  refine wpList_nil (x_then_n (d0 _ _ ?_))
  refine wp_block ?_
  refine wsc (fun d0 i0 => ?_)
  refine r_eql sv j0 rfl rfl rfl rfl (by decide) (fun d0 b0 => ?_)
  refine asg b0 (fun d0 j0 => ?_)
  refine wpList_nil (x_then_n (i0 _ _ ?_))
  rcases Decidable.em ((n.K) = 26) with i0 | i0
  ·
   have hcn := right_con (by assumption) (by omega)
   have d0 := j0.setb (d := 9) (b := true) rfl (decide_eq_true i0)
   refine wp_cond_true (d0.ev rfl) ?_
   refine wsc (fun b0 m0 => ?_)
   refine m_field (j' := 2) sv d0 rfl rfl rfl Tryd.underlying39 rfl sz3 rfl rfl (by decide) (fun b0 n0 => ?_)
   refine m_load (i := 0) sv n0 k0 rfl rfl rfl rfl rfl Tryd.underlying3 rfl (by decide) (fun b0 d0 => ?_)
   have b0 : (n.M) = ((n.M.toNat : Nat) : Int) := by omega
   refine m_makeInts (n := n.M.toNat) sv d0 k0 rfl rfl rfl rfl b0 b0 Tryd.underlying79 zi3 (by omega) (by decide) (fun n0 o0 p0 q0 t0 => ?_)
   have o0 : (List.replicate (n.M.toNat) (0 : Int)).length = n.M.toNat := by simp
   refine asg q0 (fun o0 n0 => ?_)
   refine asg n0 (fun o0 q0 => ?_)
   refine wpList_nil (x_then_n (m0 _ _ ?_))
   refine wp_ret ?_
   refine x_block_r ?_
   refine x_then_r ?_
   refine e_ret2 q0 rfl rfl rfl rfl ?_
   have q0 : bindsR n = List.replicate (n.M.toNat) (0 : Int) := by unfold bindsR; rw [if_pos (by assumption)]; simp [binds, i0]
   rw [q0]
   have q0 := own_cap (t0.res (i := 1) rfl)
   obtain ⟨m0, o0⟩ := t0.row_data (i := 1) rfl (fun _ h => h)
   have t0 := m0.data (dRow 1 (some ⟨p0, 0, none⟩) ((List.replicate (n.M.toNat) (0 : Int) : List Int).length) ((List.replicate (n.M.toNat) (0 : Int) : List Int).length) (encIs (List.replicate (n.M.toNat) (0 : Int)))) ⟨q0, o0⟩
   refine ⟨(some ⟨p0, 0, none⟩), ((List.replicate (n.M.toNat) (0 : Int) : List Int).length), ?_, t0.fr, t0.rx 1⟩
   exact ret_t2 rfl (ret_b (by (simp [h0, i0]; done)))
  ·
   have t0 := j0.setb (d := 9) (b := false) rfl (decide_eq_false i0)
   refine wp_cond_false (t0.ev rfl) ?_
   refine wsc (fun j0 p0 => ?_)
   refine r_eql sv t0 rfl rfl rfl rfl (by decide) (fun j0 o0 => ?_)
   refine asg o0 (fun j0 t0 => ?_)
   refine wpList_nil (x_then_n (p0 _ _ ?_))
   rcases Decidable.em ((n.K) = 27) with p0 | p0
   ·
    have hel := right_elim (by assumption) (by omega)
    have j0 := t0.setb (d := 14) (b := true) rfl (decide_eq_true p0)
    refine wp_cond_true (j0.ev rfl) ?_
    refine wsc (fun o0 m0 => ?_)
    refine mbs [(0, .const (.int .i64 1))] [.int .i64 1] sv j0 k0 Tryd.underlying79 zi3 (fun o0 q0 n0 b0 d0 => ?_)
    refine m_field (j' := 2) sv b0 rfl rfl rfl Tryd.underlying39 rfl sz3 rfl rfl (by decide) (fun n0 q0 => ?_)
    refine m_load (i := 0) sv q0 d0 rfl rfl rfl rfl rfl Tryd.underlying3 rfl (by decide) (fun n0 b0 => ?_)
    refine r_add (z := (n.M + 1)) sv b0 rfl rfl rfl rfl (by decide) (by omega) (by omega) (by omega) (fun n0 q0 => ?_)
    have n0 : (n.M + 1) = ((n.M.toNat + 1 : Nat) : Int) := by omega
    refine m_appendZ (i := 1) ([1]) (n.M.toNat + 1) sv q0 d0 rfl rfl rfl rfl rfl n0 (by omega) (by simp) (by simp; omega) Tryd.underlying79 Tryd.underlying3 zi3 (by decide) (fun b0 o0 j0 u0 v0 x0 y0 => ?_)
    refine asg x0 (fun v0 o0 => ?_)
    refine asg o0 (fun v0 x0 => ?_)
    refine wpList_nil (x_then_n (m0 _ _ ?_))
    refine wp_ret ?_
    refine x_block_r ?_
    refine x_then_r ?_
    refine e_ret2 x0 rfl rfl rfl rfl ?_
    have x0 : bindsR n = ([1]) ++ List.replicate (n.M.toNat + 1) 0 := by unfold bindsR; rw [if_pos (by assumption)]; simp [binds, i0, p0]
    rw [x0]
    have x0 := own_cap (y0.res (i := 1) rfl)
    obtain ⟨m0, v0⟩ := y0.row_data (i := 1) rfl (fun _ h => h)
    have y0 := m0.data (dRow 1 j0 ((([1]) ++ List.replicate (n.M.toNat + 1) 0 : List Int).length) u0 (encIs (([1]) ++ List.replicate (n.M.toNat + 1) 0))) ⟨x0, v0⟩
    refine ⟨j0, u0, ?_, y0.fr, y0.rx 1⟩
    exact ret_t2 rfl (ret_b (by (simp [h0, i0, p0]; done)))
   ·
    have y0 := t0.setb (d := 14) (b := false) rfl (decide_eq_false p0)
    refine wp_cond_false (y0.ev rfl) ?_
    refine wp_skip ?_
    refine x_block_n ?_
    refine x_then_n (f0 _ _ ?_)
    refine wsc (fun f0 t0 => ?_)
    refine m_field (j' := 0) sv y0 rfl rfl rfl Tryd.underlying39 rfl sz3 rfl rfl (by decide) (fun f0 u0 => ?_)
    refine m_load (i := 0) sv u0 k0 rfl rfl rfl rfl rfl Tryd.underlying3 rfl (by decide) (fun f0 y0 => ?_)
    refine m_indexA (i := ((n.K)).toNat) (j := (((n.K)).toNat) * 4) sv y0 rfl rfl rfl rfl Tryd.underlying114 sz113 (by omega) (by omega) rfl (by decide) (fun f0 u0 => ?_)
    refine m_fieldE (j' := (((n.K)).toNat) * 4) sv u0 rfl rfl rfl rfl Tryd.underlying113 rfl sz79 rfl rfl (by decide) (fun f0 y0 => ?_)
    obtain ⟨f0, u0, j0, v0⟩ := shapes_at (k0.get (i := 0) rfl) (((n.K)).toNat) (by omega)
    have m0 := k0.data (dRow 1 f0 (shp (((n.K)).toNat)).b.length u0 (encIs (shp (((n.K)).toNat)).b)) j0
    refine m_loadE sv y0 rfl rfl rfl 0 ((((n.K)).toNat) * 4) v0 rfl rfl Tryd.underlying79 rfl (by decide) (fun j0 u0 => ?_)
    have j0 := m0.nf
    refine k_call (xs := [.tmp 25]) se u0 rfl rfl rfl (by decide) ok133 (cloneI_calls _ _ j0.il _ _ ((shp (((n.K)).toNat)).b) (j0.g 1) (hl := (Nat.le_trans (shp_le _) (by omega)))) ?_
    rintro u0 m0 ⟨v0, y0, rfl, f0, x0⟩
    have m0 := j0.below f0.below
    have f0 := j0.dN m0 x0
    refine ⟨_, rfl, fun m0 x0 => ?_⟩
    refine asg x0 (fun m0 j0 => ?_)
    refine asg j0 (fun m0 x0 => ?_)
    refine wpList_nil (x_then_n (t0 _ _ ?_))
    refine wp_ret ?_
    refine e_ret2 x0 rfl rfl rfl rfl ?_
    have x0 : bindsR n = ((shp (((n.K)).toNat)).b) := by unfold bindsR; rw [if_pos (by assumption)]; simp [binds, i0, p0]
    rw [x0]
    refine ⟨v0, y0, ?_, f0.fr, f0.rx 2⟩
    exact ret_t2 rfl (ret_b (by (simp [h0, i0, p0]; done)))
 ·
  have p0 := c0.setb (d := 6) (b := true) rfl (by rw [h0]; rfl)
  refine wp_cond_true (p0.ev rfl) ?_
  refine wsc (fun c0 i0 => ?_)
  refine asg p0 (fun c0 f0 => ?_)
  refine asg f0 (fun c0 p0 => ?_)
  refine wpList_nil (x_then_n (i0 _ _ ?_))
  refine wp_ret ?_
  refine x_then_r ?_
  refine e_ret2 p0 rfl rfl rfl rfl ?_
  have p0 : bindsR n = [] := by unfold bindsR; rw [if_neg (by simp [h0])]
  rw [p0]
  refine ⟨none, 0, ?_, k0.fr, ⟨Nat.le_refl _, RowI.nil _ _ _ _⟩⟩
  exact ret_t2 rfl (ret_b (by (simp [h0]; done)))
end Go.Proofs.YtcfponnkfhkbdaaDoor
/- Contracts of functions, one theorem each: what the call returns, and that nothing old is changed. Printed by gen.py. -/
namespace Go.Proofs.YtcfponnkfhkbdaaDoor
open Go Go.RowKit
set_option linter.unusedSimpArgs false
set_option linter.unusedVariables false
set_option maxRecDepth 100000 in
set_option maxHeartbeats 1000000 in
theorem tback_yields (w0 : World) (Z : Nat → Prop) (tg : Nat) (tA : Option Addr) (tc : Nat) (t : List Nd) (msg : Nat) (msA : Option Addr) (msc : Nat) (ms : List (Int × Int)) (hShp : Shapes w0 Z) (ht : (dRow 4 tA t.length tc (encNs t)).φ w0 Z) (htb : (dBox tg [.slice tA t.length tc]).φ w0 Z) (hms : (dRow 2 msA ms.length msc (encMs ms)).φ w0 Z) (hmsb : (dBox msg [.slice msA ms.length msc]).φ w0 Z) (hl : t.length ≤ 1000000) (hsm : sml t) (hc : chk t = 0) (hmq : ms = measL t) :
    Yields Tryd.prog 86 [.pointer (some ⟨tg, 0, none⟩), .pointer (some ⟨msg, 0, none⟩)].toArray (fun x : Int × Sl => #[.int .i64 x.1, .slice x.2.1 x.2.2.2.length x.2.2.1]) (bkS tA tc t) Z w0 := by
 refine yields_of Tryd.func86 rfl Tryd.ntmps86 rfl [dShapes, dRow 4 tA t.length tc (encNs t), dBox tg [.slice tA t.length tc], dRow 2 msA ms.length msc (encMs ms), dBox msg [.slice msA ms.length msc]] (by
  intro d hd
  simp only [List.mem_cons, List.not_mem_nil, or_false] at hd
  rcases hd with rfl | rfl | rfl | rfl | rfl
  · exact hShp
  · exact ht
  · exact htb
  · exact hms
  · exact hmsb
  ) (fun lp jf jx w0 C0 M0 hY hds b0 c0 d0 => ?_)
 have hb := meas_chk hc
 have hp0 := meas_pos hb
 have hrt := right_at hb (show t.length - 1 < t.length by omega)
 have hm8 := many_le hrt
 have hml : ms.length = t.length := by rw [hmq]; exact measL_length hb
 refine wsc (fun b0 f0 => ?_)
 refine m_loadC sv c0 rfl rfl rfl (dbox_cell (d0.get (i := 3) rfl) rfl) Tryd.underlying22 rfl (by decide) (fun b0 h0 => ?_)
 refine r_len sv h0 rfl rfl rfl rfl Tryd.underlying22 (by decide) (fun b0 c0 => ?_)
 refine r_sub (z := (((t.length : Nat) : Int) - 1)) sv c0 rfl rfl rfl rfl (by decide) (by omega) (by omega) (by omega) (fun b0 h0 => ?_)
 refine asg h0 (fun b0 c0 => ?_)
 refine wpList_nil (x_then_n (f0 _ _ ?_))
 refine wsc (fun f0 b0 => ?_)
 refine m_loadC sv c0 rfl rfl rfl (dbox_cell (d0.get (i := 3) rfl) rfl) Tryd.underlying22 rfl (by decide) (fun f0 h0 => ?_)
 refine mv h0 (fun f0 c0 => ?_)
 refine m_index (i := (t.length) - (1)) (j := ((t.length) - (1)) * 4) sv c0 rfl rfl rfl rfl Tryd.underlying22 sz39 (by omega) (by omega) (nds_elem (t := t) (k := (t.length) - (1)) (d0.row (i := 2) rfl).2 (by omega)).some_ rfl (by decide) (fun f0 h0 => ?_)
 refine m_loadEN sv h0 rfl rfl rfl (nds_elem (t := t) (k := (t.length) - (1)) (d0.row (i := 2) rfl).2 (by omega)) Tryd.underlying39 rfl sz39 (by decide) (fun f0 c0 => ?_)
 have f0 := d0.nf
 refine k_call (xs := [.tmp 13]) se c0 rfl rfl rfl (by decide) ok58 (many_calls _ _ f0.il (nth t ((t.length) - (1))) (f0.g 1)) ?_
 rintro c0 d0 ⟨rfl, h0⟩
 have d0 := f0.below h0.below
 refine ⟨_, rfl, fun h0 f0 => ?_⟩
 refine r_sub (z := (((many (nth t ((t.length) - (1))) : Nat) : Int) - 1)) sv f0 rfl rfl rfl rfl (by decide) (by omega) (by omega) (by omega) (fun h0 c0 => ?_)
 refine asg c0 (fun h0 f0 => ?_)
 refine wpList_nil (x_then_n (b0 _ _ ?_))
 refine wp_block ?_
 refine wp_loop_ghost (fun gn ga gw => ∃ k : Nat, (Reg ga 35 [(1000000, .bool false), (0, .func (.yield lp) #[] #[]), (1, .pointer (some ⟨tg, 0, none⟩)), (2, .pointer (some ⟨msg, 0, none⟩)), (4, .int .i64 ((posL t (t.length - 1) k : Nat) : Int)), (5, .int .i64 (((many (nth t (t.length - 1)) : Nat) : Int) - ((k : Nat) : Int) - 1))]) ∧ (St w0 (oldB w0) M0 gw [] [dJ jf ((bkS tA tc t).take k) C0 M0 w0.heap.size, dShapes, dRow 4 tA t.length tc (encNs t), dBox tg [.slice tA t.length tc], dRow 2 msA ms.length msc (encMs ms), dBox msg [.slice msA ms.length msc]]) ∧ (k ≤ many (nth t (t.length - 1))) ∧ (many (nth t (t.length - 1)) - k) = gn) _ ⟨0, (f0.sub (rc rfl (rc rfl (rc rfl (rc rfl (rc (ri rfl (by rw [posL_zero hb (by omega)]; omega)) (rc (ri rfl (by omega)) rnl))))))), d0, by omega, rfl⟩ ?_
 rintro f0 d0 b0 ⟨k, h0, c0, hk, i0⟩
 refine wp_seq_k (fun i0 b0 => ?_)
 refine wsc (fun i0 d0 => ?_)
 refine mv h0 (fun i0 f0 => ?_)
 refine r_geq sv f0 rfl rfl rfl rfl (by decide) (fun i0 h0 => ?_)
 refine wpList_nil (x_then_n (d0 _ _ ?_))
 rcases Decidable.em (0 ≤ (((many (nth t (t.length - 1)) : Nat) : Int) - ((k : Nat) : Int) - 1)) with d0 | d0
 ·
  obtain ⟨hps1, hps2, hps3, hps4⟩ := ps_step hb (show k < many (nth t (t.length - 1)) by omega)
  rw [← hmq] at hps3
  have i0 := h0.setb (d := 17) (b := true) rfl (decide_eq_true d0)
  refine wp_cond_true (i0.ev rfl) ?_
  refine wp_skip ?_
  refine x_then_n (b0 _ _ ?_)
  refine wp_seq_k (fun b0 f0 => ?_)
  refine wp_block ?_
  refine wsc (fun b0 j0 => ?_)
  refine m_loadC sv i0 rfl rfl rfl (dbox_cell (c0.get (i := 5) rfl) rfl) Tryd.underlying85 rfl (by decide) (fun b0 k0 => ?_)
  refine mv k0 (fun b0 i0 => ?_)
  refine r_sub (z := (((posL t (t.length - 1) k : Nat) : Int) - 1)) sv i0 rfl rfl rfl rfl (by decide) (by omega) (by omega) (by omega) (fun b0 k0 => ?_)
  refine m_index (i := (posL t (t.length - 1) k) - (1)) (j := ((posL t (t.length - 1) k) - (1)) * 2) sv k0 rfl rfl rfl rfl Tryd.underlying85 sz111 (by omega) (by omega) (ms_elem (t := ms) (k := (posL t (t.length - 1) k) - (1)) (c0.row (i := 4) rfl).2 (by omega)).some_ rfl (by decide) (fun b0 i0 => ?_)
  refine m_fieldE (j' := ((posL t (t.length - 1) k) - (1)) * 2) sv i0 rfl rfl rfl (ms_elem (t := ms) (k := (posL t (t.length - 1) k) - (1)) (c0.row (i := 4) rfl).2 (by omega)).some_ Tryd.underlying111 rfl sz3 rfl rfl (by decide) (fun b0 k0 => ?_)
  refine m_loadE sv k0 rfl rfl rfl 0 (((posL t (t.length - 1) k) - (1)) * 2) (ms_elem (t := ms) (k := (posL t (t.length - 1) k) - (1)) (c0.row (i := 4) rfl).2 (by omega)) rfl rfl Tryd.underlying3 rfl (by decide) (fun b0 i0 => ?_)
  refine asg i0 (fun b0 k0 => ?_)
  have b0 := Reg.cons k0 k0 (ri (i := 6) (b := ((posL t (t.length - 1) (k + 1) : Nat) : Int)) rfl (hps3.symm))
  refine wpList_nil (x_then_n (j0 _ _ ?_))
  refine wp_seq_k (fun j0 k0 => ?_)
  refine wp_seq_k (fun j0 i0 => ?_)
  refine cy_region ?_
  refine r_move (st_listInV rfl rfl) b0 rfl rfl rfl (by decide) (fun j0 m0 => ?_)
  refine r_move (st_listInV rfl rfl) m0 rfl rfl rfl (by decide) (fun j0 b0 => ?_)
  refine m_loadC (st_listInV rfl rfl) b0 rfl rfl rfl (dbox_cell (c0.get (i := 3) rfl) rfl) Tryd.underlying22 rfl (by decide) (fun j0 m0 => ?_)
  refine r_move (st_listInV rfl rfl) m0 rfl rfl rfl (by decide) (fun j0 b0 => ?_)
  refine r_move (st_listInV rfl rfl) b0 rfl rfl rfl (by decide) (fun j0 m0 => ?_)
  have j0 : (((t).drop (posL t (t.length - 1) (k + 1))).take ((posL t (t.length - 1) k) - (posL t (t.length - 1) (k + 1)))).length = (posL t (t.length - 1) k) - (posL t (t.length - 1) (k + 1)) := by simp only [List.length_drop, List.length_take]; omega
  have j0 := c0.data (dRow 4 (if tc = posL t (t.length - 1) (k + 1) then tA else (tA).map (·.add ((posL t (t.length - 1) (k + 1)) * 4))) ((((t).drop (posL t (t.length - 1) (k + 1))).take ((posL t (t.length - 1) k) - (posL t (t.length - 1) (k + 1)))).length) (tc - (posL t (t.length - 1) (k + 1))) (encNs (((t).drop (posL t (t.length - 1) (k + 1))).take ((posL t (t.length - 1) k) - (posL t (t.length - 1) (k + 1)))))) (cut_row (f := encN) (L := t) (c0.get (i := 2) rfl) encN_len (by omega))
  have b0 := (j0.get (i := 2) rfl).1
  refine m_sliceA (lo := some (.tmp 29)) (hi := some (.tmp 30)) (vlo := (some (.int .i64 ((posL t (t.length - 1) (k + 1) : Nat) : Int)))) (vhi := (some (.int .i64 ((posL t (t.length - 1) k : Nat) : Int)))) (kd := .i64) (kd' := .i64) (st_listInV rfl rfl) m0 rfl rfl rfl rfl rfl (posL t (t.length - 1) (k + 1)) ((((t).drop (posL t (t.length - 1) (k + 1))).take ((posL t (t.length - 1) k) - (posL t (t.length - 1) (k + 1)))).length) (.inl (by rfl)) (.inl (by (congr 2; omega))) Tryd.underlying22 sz39 (by omega) (by decide) (fun b0 n0 => ?_)
  have b0 := j0.nf
  refine y_call (t := .tmp 26) (xs := [.tmp 27, .tmp 31]) (pre := (bkS tA tc t).take k) (i := 0) (ds0 := [dShapes, dRow 4 tA t.length tc (encNs t), dBox tg [.slice tA t.length tc], dRow 2 msA ms.length msc (encMs ms), dBox msg [.slice msA ms.length msc]]) hY rfl n0 b0 rfl rfl rfl rfl (by decide) ((((((many (nth t (t.length - 1)) : Nat) : Int) - ((k : Nat) : Int) - 1), (((if tc = posL t (t.length - 1) (k + 1) then tA else (tA).map (·.add ((posL t (t.length - 1) (k + 1)) * 4))), (tc - (posL t (t.length - 1) (k + 1))), ((t).drop (posL t (t.length - 1) (k + 1))).take ((posL t (t.length - 1) k) - (posL t (t.length - 1) (k + 1)))) : Sl)) : Int × Sl)) rfl rfl (bkS_pre (k := k) (by omega) (bk_eq (k := k) (by omega) rfl)) hds (fun j0 m0 o0 p0 => ?_) (fun j0 m0 o0 p0 => ?_)
  ·
   refine r_not (st_listInV rfl rfl) o0 rfl rfl rfl (by decide) (fun m0 j0 => ?_)
   refine li_nil ?_
   refine x_then_n (i0 _ _ ?_)
   refine wp_cond_false (j0.ev rfl) ?_
   refine wp_skip ?_
   refine x_then_n (k0 _ _ ?_)
   refine c_region ?_
   refine mv j0 (fun k0 m0 => ?_)
   refine asg m0 (fun k0 j0 => ?_)
   refine wpList_nil ?_
   refine x_block_n ?_
   refine x_then_n (f0 _ _ ?_)
   refine c_region ?_
   refine mv j0 (fun f0 k0 => ?_)
   refine r_sub (z := (((many (nth t (t.length - 1)) : Nat) : Int) - ((k : Nat) : Int) - 2)) sv k0 rfl rfl rfl rfl (by decide) (by omega) (by omega) (by omega) (fun f0 j0 => ?_)
   refine asg j0 (fun f0 k0 => ?_)
   refine wpList_nil ?_
   have f0 : (bkS tA tc t).take k ++ [((((((many (nth t (t.length - 1)) : Nat) : Int) - ((k : Nat) : Int) - 1), (((if tc = posL t (t.length - 1) (k + 1) then tA else (tA).map (·.add ((posL t (t.length - 1) (k + 1)) * 4))), (tc - (posL t (t.length - 1) (k + 1))), ((t).drop (posL t (t.length - 1) (k + 1))).take ((posL t (t.length - 1) k) - (posL t (t.length - 1) (k + 1)))) : Sl)) : Int × Sl))] = (bkS tA tc t).take (k + 1) := by rw [← bkS_step (show k < many (nth t (t.length - 1)) by omega)]; exact congrArg (fun z => (bkS tA tc t).take k ++ [z]) (bk_eq (k := k) (by omega) rfl)
   have j0 := p0
   rw [f0] at j0
   exact ⟨_, by omega, k + 1, (k0.sub (rc rfl (rc rfl (rc rfl (rc rfl (rc rfl (rc (ri rfl (by omega)) rnl))))))), j0, by omega, rfl⟩
  ·
   refine r_not (st_listInV rfl rfl) o0 rfl rfl rfl (by decide) (fun j0 k0 => ?_)
   refine li_nil ?_
   refine x_then_n (i0 _ _ ?_)
   refine wp_cond_true (k0.ev rfl) ?_
   refine wp_ret ?_
   refine x_then_r ?_
   refine x_block_r ?_
   refine x_then_r ?_
   refine x_then_r ?_
   refine x_block_r ?_
   refine e_ret0 k0 rfl rfl ?_
   exact it_stop p0 (i := 0) rfl (bkS_pre (k := k) (by omega) (bk_eq (k := k) (by omega) rfl))
 ·
  have p0 := h0.setb (d := 17) (b := false) rfl (decide_eq_false d0)
  refine wp_cond_false (p0.ev rfl) ?_
  refine wp_exit ?_
  refine x_then_e ?_
  refine x_then_e ?_
  refine x_block_eq ?_
  refine e_end0 p0 rfl rfl ?_
  exact it_all c0 (i := 0) rfl (bkS_all (by omega))
set_option maxRecDepth 100000 in
set_option maxHeartbeats 1000000 in
theorem tbackMk_calls (w0 : World) (Z : Nat → Prop) (hZ : ∀ k, Z k → k < w0.heap.size) (tA : Option Addr) (tc : Nat) (t : List Nd) (msA : Option Addr) (msc : Nat) (ms : List (Int × Int)) (ht : (dRow 4 tA t.length tc (encNs t)).φ w0 Z) (hms : (dRow 2 msA ms.length msc (encMs ms)).φ w0 Z) (hl : t.length ≤ 1000000 := by first | assumption | omega | (simp; done) | (simp; omega)) :
    Calls Tryd.prog 59 [.slice tA t.length tc, .slice msA ms.length msc].toArray w0 (fun e w' => ∃ q0_0 : Nat, ∃ q0_1 : Nat, e = .returned (.func (.func 86) #[] #[.pointer (some ⟨q0_0, 0, none⟩), .pointer (some ⟨q0_1, 0, none⟩)]) ∧ Fr none_ w0 w' ∧ (dBox q0_0 [.slice tA t.length tc]).φ w' (nxt Z w0 w') ∧ (dBox q0_1 [.slice msA ms.length msc]).φ w' (nxt Z w0 w')) := by
 have b0 := s0 (M := none_) hZ (zc ht (zc hms zn))
 refine c_enter Tryd.func59 rfl Tryd.ntmps59 rfl (fun c0 d0 => ?_)
 refine wsc (fun c0 f0 => ?_)
 refine m_box (cs := [.slice tA t.length tc]) sv d0 b0 rfl rfl rfl rfl (by decide) (fun c0 h0 i0 j0 k0 => ?_)
 refine m_box (cs := [.slice msA ms.length msc]) sv j0 k0 rfl rfl rfl rfl (by decide) (fun h0 c0 d0 b0 m0 => ?_)
 refine asg b0 (fun c0 h0 => ?_)
 refine wpList_nil (x_then_n (f0 _ _ ?_))
 refine wsc (fun f0 c0 => ?_)
 refine r_makeFunc sv h0 rfl rfl rfl (by decide) (fun f0 b0 => ?_)
 refine asg b0 (fun f0 h0 => ?_)
 refine wpList_nil (x_then_n (c0 _ _ ?_))
 refine wp_ret ?_
 refine e_ret1 h0 rfl rfl rfl ?_
 obtain ⟨h0, c0⟩ := m0.box_data (i := 0) rfl (fun _ h => h)
 have m0 := h0.data (dBox i0 [.slice tA t.length tc]) c0
 obtain ⟨c0, h0⟩ := m0.box_data (i := 0) rfl (fun _ h => h)
 have m0 := c0.data (dBox d0 [.slice msA ms.length msc]) h0
 refine ⟨i0, d0, ?_, m0.fr, ((m0.get (i := 2) rfl).imp imm_nxt id), ((m0.get (i := 3) rfl).imp imm_nxt id)⟩
 exact congrArg Ending.returned rfl
end Go.Proofs.YtcfponnkfhkbdaaDoor
/- Contracts of functions, one theorem each: what the call returns, and that nothing old is changed. Printed by gen.py. -/
namespace Go.Proofs.YtcfponnkfhkbdaaDoor
open Go Go.RowKit
set_option linter.unusedSimpArgs false
set_option linter.unusedVariables false
set_option maxRecDepth 100000 in
set_option maxHeartbeats 1000000 in
theorem args_calls (w0 : World) (Z : Nat → Prop) (hZ : ∀ k, Z k → k < w0.heap.size) (tA : Option Addr) (tc : Nat) (t : List Nd) (hShp : Shapes w0 Z) (ht : (dRow 4 tA t.length tc (encNs t)).φ w0 Z) (hsm : sml t := by first | assumption | omega | (simp; done) | (simp; omega)) (hl : t.length ≤ 1000000 := by first | assumption | omega | (simp; done) | (simp; omega)) :
    Calls Tryd.prog 33 [.slice tA t.length tc].toArray w0 (fun e w' => ∃ (rA0 : Option Addr) (rc0 : Nat) (rL0 : List Sl), e = .returned (.tuple #[.slice rA0 rL0.length rc0, .int .i64 (chk t)]) ∧ Fr none_ w0 w' ∧ (dRow 1 rA0 rL0.length rc0 (encSs rL0)).φ w' (nxt Z w0 w') ∧ (dAll rL0).φ w' (nxt Z w0 w') ∧ lsts rL0 = agA t) := by
 have b0 := s0 (M := none_) hZ (zc (d := dShapes) hShp (zc ht zn))
 refine c_enterM Tryd.func33 rfl Tryd.ntmps33 rfl (fun c0 d0 => ?_)
 refine wsc (fun c0 f0 => ?_)
 refine asg d0 (fun c0 h0 => ?_)
 refine asg h0 (fun c0 d0 => ?_)
 refine wpList_nil (x_then_n (f0 _ _ ?_))
 refine wsc (fun f0 c0 => ?_)
 refine mv d0 (fun f0 h0 => ?_)
 have f0 := b0.nf
 refine k_call (xs := [.tmp 10]) se h0 rfl rfl rfl (by decide) ok57 (look_calls _ _ f0.il _ _ _ (f0.g 0) (f0.g 1)) ?_
 rintro h0 b0 ⟨d0, i0, rfl, j0, k0⟩
 have b0 := f0.below j0.below
 have j0 := f0.dN b0 k0
 refine ⟨_, rfl, fun b0 k0 => ?_⟩
 refine mv k0 (fun b0 f0 => ?_)
 refine r_extract sv f0 rfl rfl rfl rfl (by decide) (fun b0 k0 => ?_)
 refine r_extract sv k0 rfl rfl rfl rfl (by decide) (fun b0 f0 => ?_)
 refine asg f0 (fun b0 k0 => ?_)
 refine asg k0 (fun b0 f0 => ?_)
 refine wpList_nil (x_then_n (c0 _ _ ?_))
 refine wp_seq_k (fun c0 b0 => ?_)
 refine wsc (fun c0 k0 => ?_)
 refine mv f0 (fun c0 h0 => ?_)
 refine r_neq sv h0 rfl rfl rfl rfl (by decide) (fun c0 f0 => ?_)
 refine wpList_nil (x_then_n (k0 _ _ ?_))
 rcases Decidable.em (((chk t)) = 0) with k0 | k0
 ·
  have hc := k0
  have hb := meas_chk hc
  have hp0 := meas_pos hb
  have hrt := right_at hb (show t.length - 1 < t.length by omega)
  have hm8 := many_le hrt
  have c0 := f0.setb (d := 15) (b := false) rfl (by rw [(decide_eq_true k0)]; rfl)
  refine wp_cond_false (c0.ev rfl) ?_
  refine wp_skip ?_
  refine x_then_n (b0 _ _ ?_)
  refine wsc (fun b0 h0 => ?_)
  refine mv c0 (fun b0 m0 => ?_)
  refine mv m0 (fun b0 c0 => ?_)
  refine r_len sv c0 rfl rfl rfl rfl Tryd.underlying22 (by decide) (fun b0 m0 => ?_)
  refine r_sub (z := (((t.length : Nat) : Int) - 1)) sv m0 rfl rfl rfl rfl (by decide) (by omega) (by omega) (by omega) (fun b0 c0 => ?_)
  refine m_index (i := (t.length) - (1)) (j := ((t.length) - (1)) * 4) sv c0 rfl rfl rfl rfl Tryd.underlying22 sz39 (by omega) (by omega) (nds_elem (t := t) (k := (t.length) - (1)) (j0.row (i := 1) rfl).2 (by omega)).some_ rfl (by decide) (fun b0 m0 => ?_)
  refine m_loadEN sv m0 rfl rfl rfl (nds_elem (t := t) (k := (t.length) - (1)) (j0.row (i := 1) rfl).2 (by omega)) Tryd.underlying39 rfl sz39 (by decide) (fun b0 c0 => ?_)
  have b0 := j0.nf
  refine k_call (xs := [.tmp 22]) se c0 rfl rfl rfl (by decide) ok58 (many_calls _ _ b0.il (nth t ((t.length) - (1))) (b0.g 0) (hr := hrt)) ?_
  rintro c0 m0 ⟨rfl, n0⟩
  have m0 := b0.below n0.below
  refine ⟨_, rfl, fun n0 b0 => ?_⟩
  have n0 : ((many (nth t ((t.length) - (1))) : Nat) : Int) = ((many (nth t ((t.length) - (1))) : Nat) : Int) := by omega
  refine m_makeSs (n := many (nth t ((t.length) - (1)))) sv b0 m0 rfl rfl rfl rfl n0 n0 Tryd.underlying42 zi22 (by decide) (by omega) (by decide) (fun c0 o0 p0 q0 t0 => ?_)
  have o0 : (List.replicate (many (nth t ((t.length) - (1)))) slz).length = many (nth t ((t.length) - (1))) := by simp
  refine m_alloc (cs := [.slice none 0 0]) sv q0 t0 rfl rfl ze42 rfl (by decide) (fun o0 c0 n0 b0 m0 => ?_)
  refine m_store (i := 1) (cs' := [.slice (some ⟨p0, 0, none⟩) ((List.replicate (many (nth t ((t.length) - (1)))) slz).length) ((List.replicate (many (nth t ((t.length) - (1)))) slz).length)]) se b0 m0 rfl rfl rfl rfl rfl sz42 rfl rfl rfl (fun c0 o0 t0 q0 => ?_)
  refine wpList_nil (x_then_n (h0 _ _ ?_))
  refine wp_seq_k (fun h0 o0 => ?_)
  refine wsc (fun h0 c0 => ?_)
  refine mv t0 (fun h0 m0 => ?_)
  refine mv m0 (fun h0 t0 => ?_)
  have h0 := q0.nf
  refine k_call (xs := [.tmp 25, .tmp 26]) se t0 rfl rfl rfl (by decide) ok59 (tbackMk_calls _ _ h0.il _ _ _ _ _ (lookL t) (h0.g 1) (h0.g 2)) ?_
  rintro t0 q0 ⟨m0, b0, rfl, u0, v0, x0⟩
  have q0 := h0.below u0.below
  have u0 := h0.dN q0 v0
  have q0 := h0.dN u0 x0
  refine ⟨_, rfl, fun u0 x0 => ?_⟩
  refine wpList_nil (x_then_n (c0 _ _ ?_))
  refine wp_block ?_
  have c0 := q0.nf
  have q0 : Reg u0 36 [(1000000, .bool false), (2, .slice none 0 0), (3, .int .i64 0), (6, .pointer (some ⟨n0, 0, none⟩)), (27, .func (.func 86) #[] #[.pointer (some ⟨m0, 0, none⟩), .pointer (some ⟨b0, 0, none⟩)])] := (x0.sub (rc rfl (rc rfl (rc rfl (rc rfl (rc rfl rnl))))))
  refine w_range (xs := bkS tA tc t) (encs := (fun x : Int × Sl => #[.int .i64 x.1, .slice x.2.1 x.2.2.2.length x.2.2.1])) (q0.ev rfl) ok86 (tback_yields _ (imm Z w0 [.row (some ⟨p0, 0, none⟩) ((List.replicate (many (nth t ((t.length) - (1)))) slz).length) ((List.replicate (many (nth t ((t.length) - (1)))) slz).length) 22 1 (encSs (List.replicate (many (nth t ((t.length) - (1)))) slz)), .box n0 42 [.slice (some ⟨p0, 0, none⟩) ((List.replicate (many (nth t ((t.length) - (1)))) slz).length) ((List.replicate (many (nth t ((t.length) - (1)))) slz).length)]] _) m0 tA tc t b0 d0 i0 (lookL t) (c0.get (i := 0) rfl) (c0.get (i := 1) rfl) (c0.get (i := 3) rfl) (c0.get (i := 2) rfl) (c0.get (i := 4) rfl) hl hsm hc (lookL_good hc)) (fun _ => rfl) c0 (fun _ h => h) (fun (pre : List (Int × Sl)) (mm : List Res) => ∃ k : Nat, ∃ Ao : Option Addr, ∃ co : Nat, ∃ Ls : List Sl, mm = ([.row Ao ((List.replicate (many (nth t (t.length - 1)) - k) slz ++ Ls.reverse).length) co 22 1 (encSs (List.replicate (many (nth t (t.length - 1)) - k) slz ++ Ls.reverse)), .box n0 42 [.slice Ao ((List.replicate (many (nth t (t.length - 1)) - k) slz ++ Ls.reverse).length) co]] ++ (Ls).map (rowOf 39)) ∧ (k ≤ many (nth t (t.length - 1))) ∧ (pre.length = k) ∧ (Ls.length = k) ∧ (lsts Ls.reverse = ptD t k)) (fun _ _ _ => False) ⟨0, (some ⟨p0, 0, none⟩), (List.replicate (many (nth t ((t.length) - (1)))) slz).length, [], (by rw [List.reverse_nil, List.append_nil, Nat.sub_zero]; rfl), by omega, rfl, rfl, (ptD_zero t).symm⟩ ?_ ?_ ?_
  ·
   rintro c0 pre x p0 m1 hp ⟨k, Ao, co, Ls, rfl, hk, hpk, hLn, hL⟩ x0
   obtain ⟨hkm, rfl⟩ := bkS_next hpk hp
   have hal : (bkAt tA tc t k).2.2.2.length ≤ t.length := by show ((t.drop _).take _).length ≤ t.length; rw [List.length_take, List.length_drop]; omega
   have hrl : (List.replicate (many (nth t (t.length - 1)) - k) slz ++ Ls.reverse).length = many (nth t (t.length - 1)) := by simp; omega
   refine (?_ : ∀ u0, Reg u0 36 [(29, .slice ((bkAt tA tc t k).2.1) ((bkAt tA tc t k).2.2.2.length) ((bkAt tA tc t k).2.2.1)), (28, .int .i64 ((many (nth t (t.length - 1)) - 1 - k : Nat) : Int)), (1000000, .bool false), (2, .slice none 0 0), (3, .int .i64 0), (6, .pointer (some ⟨n0, 0, none⟩)), (27, .func (.func 86) #[] #[.pointer (some ⟨m0, 0, none⟩), .pointer (some ⟨b0, 0, none⟩)])] → Code.wpIn (rI c0) 0 _ _ _ u0 p0) _ (Reg.round2n q0 (by decide) (by decide) rfl)
   intro u0 c0
   refine wpIn_seq_k (fun u0 h0 => ?_)
   refine ci_region (by kernel_rfl) (out_then (out_then (fun _ _ h => h))) ?_
   refine asg c0 (fun u0 v0 => ?_)
   refine wpList_nil (x_then_n (h0 _ _ ?_))
   refine ci_region (by kernel_rfl) (out_then (fun _ _ h => h)) ?_
   refine asg v0 (fun h0 u0 => ?_)
   refine wpList_nil ?_
   have h0 : St w0 Z none_ p0 ([.row Ao ((List.replicate (many (nth t (t.length - 1)) - k) slz ++ Ls.reverse).length) co 22 1 (encSs (List.replicate (many (nth t (t.length - 1)) - k) slz ++ Ls.reverse)), .box n0 42 [.slice Ao ((List.replicate (many (nth t (t.length - 1)) - k) slz ++ Ls.reverse).length) co]] ++ (Ls).map (rowOf 39)) [dShapes, dRow 4 tA t.length tc (encNs t), dRow 2 d0 ((lookL t).length) i0 (encMs (lookL t)), dBox m0 [.slice tA t.length tc], dBox b0 [.slice d0 ((lookL t).length) i0], dAg p0 (imm Z w0 ([.row Ao ((List.replicate (many (nth t (t.length - 1)) - k) slz ++ Ls.reverse).length) co 22 1 (encSs (List.replicate (many (nth t (t.length - 1)) - k) slz ++ Ls.reverse)), .box n0 42 [.slice Ao ((List.replicate (many (nth t (t.length - 1)) - k) slz ++ Ls.reverse).length) co]] ++ (Ls).map (rowOf 39)) p0)] := x0
   refine x_then_n ⟨_, _, 5, h0, rfl, (fun _ h => False.elim h), (fun _ h => False.elim h), fun x0 p0 => ?_⟩
   have h0 := p0.data (dRow 4 ((bkAt tA tc t k).2.1) ((bkAt tA tc t k).2.2.2.length) ((bkAt tA tc t k).2.2.1) (encNs ((bkAt tA tc t k).2.2.2))) (bk_row hb (p0.get (i := 1) rfl) hkm)
   refine wpIn_block ?_
   obtain ⟨p0, v0, c0⟩ := h0.agree
   refine dli_region2 (S := (sW x0 p0 [cel n0 0 (.slice Ao ((List.replicate (many (nth t (t.length - 1)) - k) slz ++ Ls.reverse).length) co), (Res.row Ao ((List.replicate (many (nth t (t.length - 1)) - k) slz ++ Ls.reverse).length) co 22 1 (encSs (List.replicate (many (nth t (t.length - 1)) - k) slz ++ Ls.reverse))).holds])) (k := 6) [5] mixed rfl (by kernel_rfl) c0 (pan_block pan_rPost) (out_block out_rPost) (fun v0 h0 t0 y0 z0 => ?_)
   have v0 := sWI z0 7 (pc 1 0 (pr 0 pn))
   refine dl_take (i := 0) rfl (by kernel_rfl) (by kernel_rfl) (by kernel_rfl) (by kernel_rfl) (fun c a w h => h0 c _ _ _ _ h) rfl (by decide) u0 (want_n rfl) (fun x hx => m_loadC (sy u0) u0 rfl rfl rfl (hx.c 0) Tryd.underlying42 rfl (by decide) gt) v0 (fun c0 b1 => ?_)
   refine dl_takeA (i := 1) rfl (by kernel_rfl) (by kernel_rfl) (by kernel_rfl) (fun c a w h => h0 c _ _ _ _ h) rfl (by decide) b1 (want_n rfl) (fun x => r_move (sy b1) b1 rfl rfl rfl (by decide) gt) (fun c0 v0 => ?_)
   refine dl_takeA (i := 2) rfl (by kernel_rfl) (by kernel_rfl) (by kernel_rfl) (fun c a w h => h0 c _ _ _ _ h) rfl (by decide) v0 (want_n rfl) (fun x => r_move (sy v0) v0 rfl rfl rfl (by decide) gt) (fun c0 b1 => ?_)
   refine dl_one (i := 3) (by kernel_rfl) ?_
   have c0 : St w0 Z none_ y0 ([.row Ao ((List.replicate (many (nth t (t.length - 1)) - k) slz ++ Ls.reverse).length) co 22 1 (encSs (List.replicate (many (nth t (t.length - 1)) - k) slz ++ Ls.reverse)), .box n0 42 [.slice Ao ((List.replicate (many (nth t (t.length - 1)) - k) slz ++ Ls.reverse).length) co]] ++ (Ls).map (rowOf 39)) [dShapes, dRow 4 tA t.length tc (encNs t), dRow 2 d0 ((lookL t).length) i0 (encMs (lookL t)), dBox m0 [.slice tA t.length tc], dBox b0 [.slice d0 ((lookL t).length) i0], dAg x0 (imm Z w0 ([.row Ao ((List.replicate (many (nth t (t.length - 1)) - k) slz ++ Ls.reverse).length) co 22 1 (encSs (List.replicate (many (nth t (t.length - 1)) - k) slz ++ Ls.reverse)), .box n0 42 [.slice Ao ((List.replicate (many (nth t (t.length - 1)) - k) slz ++ Ls.reverse).length) co]] ++ (Ls).map (rowOf 39)) x0), dRow 4 ((bkAt tA tc t k).2.1) ((bkAt tA tc t k).2.2.2.length) ((bkAt tA tc t k).2.2.1) (encNs ((bkAt tA tc t k).2.2.2)), dAg x0 p0] := z0
   refine k_call (xs := [.tmp 32]) (st_op rfl (want_n rfl)) b1 rfl rfl rfl (by decide) ok60 (cloneN_calls _ _ c0.il _ _ ((bkAt tA tc t k).2.2.2) (c0.g 6)) ?_
   rintro b1 z0 ⟨y0, v0, rfl, u0, c1, d1⟩
   have z0 := c0.callO u0 c1 d1
   have d1 := St.rot (A := [.row Ao ((List.replicate (many (nth t (t.length - 1)) - k) slz ++ Ls.reverse).length) co 22 1 (encSs (List.replicate (many (nth t (t.length - 1)) - k) slz ++ Ls.reverse)), .box n0 42 [.slice Ao ((List.replicate (many (nth t (t.length - 1)) - k) slz ++ Ls.reverse).length) co]]) (T := (Ls).map (rowOf 39)) z0
   refine ⟨_, rfl, fun z0 c1 => ?_⟩
   have z0 := sWI d1 7 (pc 1 0 (pr 0 pn))
   refine ⟨fun _ _ => z0, ?_⟩
   refine dl_takeA (i := 4) rfl (by kernel_rfl) (by kernel_rfl) (by kernel_rfl) (fun c a w h => h0 c _ _ _ _ h) rfl (by decide) c1 (want_n rfl) (fun x => m_index (i := many (nth t (t.length - 1)) - 1 - k) (j := (many (nth t (t.length - 1)) - 1 - k) * 1) (sy c1) c1 rfl rfl rfl rfl Tryd.underlying42 sz22 (by omega) (by omega) (own_ss (t := List.replicate (many (nth t (t.length - 1)) - k) slz ++ Ls.reverse) (k := many (nth t (t.length - 1)) - 1 - k) (d1.res (i := 0) rfl) (by omega)).some_ rfl (by decide) gt) (fun z0 u0 => ?_)
   refine dl_one (i := 5) (by kernel_rfl) ?_
   have z0 := St.absorb (e := 39) (A := [.row Ao ((List.replicate (many (nth t (t.length - 1)) - k) slz ++ Ls.reverse).length) co 22 1 (encSs (List.replicate (many (nth t (t.length - 1)) - k) slz ++ Ls.reverse)), .box n0 42 [.slice Ao ((List.replicate (many (nth t (t.length - 1)) - k) slz ++ Ls.reverse).length) co]]) (Ls := Ls) (B := y0) (c := v0) (L := ((bkAt tA tc t k).2.2.2)) d1
   refine m_storeE (f := encS) (i := 0) (k := many (nth t (t.length - 1)) - 1 - k) (L := (List.replicate (many (nth t (t.length - 1)) - k) slz ++ Ls.reverse)) (z := ((y0, v0, ((bkAt tA tc t k).2.2.2)) : Sl)) (st_op rfl (want_n rfl)) u0 z0 rfl rfl rfl rfl rfl rfl (by omega) encS_len (one1 (f := encS) encS_one) rfl sz22 (fun d1 c1 h0 c0 => ?_)
   have h0 : ((List.replicate (many (nth t (t.length - 1)) - k) slz ++ Ls.reverse).set (many (nth t (t.length - 1)) - 1 - k) ((y0, v0, ((bkAt tA tc t k).2.2.2)) : Sl) : List Sl).length = (List.replicate (many (nth t (t.length - 1)) - k) slz ++ Ls.reverse).length := by simp
   refine ⟨fun h => absurd h (by decide), ?_⟩
   refine dl_done (by kernel_rfl) (t0 _ _ ?_) _
   refine x_block_n ?_
   have t0 : St w0 Z none_ c1 ([.row Ao (((List.replicate (many (nth t (t.length - 1)) - k) slz ++ Ls.reverse).set (many (nth t (t.length - 1)) - 1 - k) ((y0, v0, ((bkAt tA tc t k).2.2.2)) : Sl) : List Sl).length) co 22 1 (encSs ((List.replicate (many (nth t (t.length - 1)) - k) slz ++ Ls.reverse).set (many (nth t (t.length - 1)) - 1 - k) ((y0, v0, ((bkAt tA tc t k).2.2.2)) : Sl))), .box n0 42 [.slice Ao ((List.replicate (many (nth t (t.length - 1)) - k) slz ++ Ls.reverse).length) co]] ++ (Ls ++ [((y0, v0, ((bkAt tA tc t k).2.2.2)) : Sl)]).map (rowOf 39)) [dShapes, dRow 4 tA t.length tc (encNs t), dRow 2 d0 ((lookL t).length) i0 (encMs (lookL t)), dBox m0 [.slice tA t.length tc], dBox b0 [.slice d0 ((lookL t).length) i0], dAg x0 (imm Z w0 ([.row Ao ((List.replicate (many (nth t (t.length - 1)) - k) slz ++ Ls.reverse).length) co 22 1 (encSs (List.replicate (many (nth t (t.length - 1)) - k) slz ++ Ls.reverse)), .box n0 42 [.slice Ao ((List.replicate (many (nth t (t.length - 1)) - k) slz ++ Ls.reverse).length) co]] ++ (Ls).map (rowOf 39)) x0), dRow 4 ((bkAt tA tc t k).2.1) ((bkAt tA tc t k).2.2.2.length) ((bkAt tA tc t k).2.2.1) (encNs ((bkAt tA tc t k).2.2.2)), dAg x0 p0] := c0
   exact ⟨_, _, 5, t0, rfl, k + 1, _, _, Ls ++ [((y0, v0, ((bkAt tA tc t k).2.2.2)) : Sl)], (by rw [← rep_set (Ls := Ls) hkm rfl, List.length_set]), by omega, by simp [hpk], by simp [hLn], arg_step hb hL hkm⟩
  ·
   rintro t0 m1 v0 ⟨k, Ao, co, Ls, rfl, hk, hpk, hLn, hL⟩ y0
   have v0 := Reg.marked q0 t0
   have t0 := St.tail_data (e := 39) (A := [.row Ao ((List.replicate (many (nth t (t.length - 1)) - k) slz ++ Ls.reverse).length) co 22 1 (encSs (List.replicate (many (nth t (t.length - 1)) - k) slz ++ Ls.reverse)), .box n0 42 [.slice Ao ((List.replicate (many (nth t (t.length - 1)) - k) slz ++ Ls.reverse).length) co]]) (Ls := Ls) y0 (fun _ h => h)
   have hkm : k = many (nth t (t.length - 1)) := by rw [← hpk]; exact bkS_len tA tc t
   have y0 := t0.data (dAll (List.replicate (many (nth t (t.length - 1)) - k) slz ++ Ls.reverse)) (all_append (all_rep _) (all_rev (t0.get (i := 6) rfl)))
   refine x_block_n ?_
   refine x_then_n (o0 _ _ ?_)
   refine wsc (fun o0 t0 => ?_)
   refine m_load (i := 1) sv v0 y0 rfl rfl rfl rfl rfl Tryd.underlying42 rfl (by decide) (fun o0 n0 => ?_)
   refine asg n0 (fun o0 v0 => ?_)
   refine asg v0 (fun o0 n0 => ?_)
   refine wpList_nil (x_then_n (t0 _ _ ?_))
   refine wp_ret ?_
   have t0 := own_cap (y0.res (i := 0) rfl)
   obtain ⟨o0, v0⟩ := y0.row_data (i := 0) rfl (fun _ h => h)
   have y0 := o0.data (dRow 1 Ao ((List.replicate (many (nth t (t.length - 1)) - k) slz ++ Ls.reverse).length) co (encSs (List.replicate (many (nth t (t.length - 1)) - k) slz ++ Ls.reverse))) ⟨t0, v0⟩
   have v0 := y0.nf
   obtain ⟨y0, o0⟩ := v0.shut (i := 5) rfl [dRow 1 Ao ((List.replicate (many (nth t (t.length - 1)) - k) slz ++ Ls.reverse).length) co (encSs (List.replicate (many (nth t (t.length - 1)) - k) slz ++ Ls.reverse)), dAll (List.replicate (many (nth t (t.length - 1)) - k) slz ++ Ls.reverse)] (by intro d hd; simp only [List.mem_cons, List.not_mem_nil, or_false] at hd; rcases hd with rfl | rfl; exact ⟨List.mem_of_getElem? (i := 8) rfl, datC_row (by decide) _ _ _ _⟩; exact ⟨List.mem_of_getElem? (i := 7) rfl, datC_all _⟩)
   refine m_mark (.inl rfl) n0 rfl y0 (res2 n0 rfl rfl rfl _) ?_
   refine ⟨Ao, co, (List.replicate (many (nth t (t.length - 1)) - k) slz ++ Ls.reverse), ?_, o0.fr, o0.rx 0, o0.rx 1, (by rw [agA_ok hc, lsts_app, hkm, Nat.sub_self, hL, ← ptD_all hb, hkm]; rfl)⟩
   exact ret_t2 (ret_s (by rfl)) (ret_i (by omega))
  ·
   rintro _ _ _ _ _ _ h _
   exact h.elim
 ·
  have o0 := f0.setb (d := 15) (b := true) rfl (by rw [(decide_eq_false k0)]; rfl)
  refine wp_cond_true (o0.ev rfl) ?_
  refine wsc (fun k0 f0 => ?_)
  refine mv o0 (fun k0 y0 => ?_)
  refine asg y0 (fun k0 o0 => ?_)
  refine asg o0 (fun k0 y0 => ?_)
  refine wpList_nil (x_then_n (f0 _ _ ?_))
  refine wp_ret ?_
  refine x_then_r ?_
  refine m_none (.inl rfl) y0 rfl (res2 y0 rfl rfl rfl _) ?_
  refine ⟨none, 0, [], ?_, j0.fr, ⟨Nat.le_refl _, RowI.nil _ _ _ _⟩, all_nil, (agA_no (by assumption)).symm⟩
  exact ret_t2 (ret_s (by rfl)) (ret_i (by rfl))
end Go.Proofs.YtcfponnkfhkbdaaDoor
/- What makers make, behind an error nothing. -/
namespace Go.Proofs.YtcfponnkfhkbdaaDoor
set_option linter.unusedSimpArgs false
set_option linter.unusedVariables false
open Go Go.RowKit
def noL (e : Int) (n : Nd) (p : List (List Nd)) : List Nd := if e = 0 then p.flatten ++ [n] else []
def upE (e : Int) (t : List Nd) (n k : Int) : Int := if e = 0 then sfE t n k else e
def inL (e : Int) (t : List Nd) (l : List (List Nd)) : List Nd := if e = 0 then inA t l else []
def inQ (e : Int) (t : List Nd) (l : List (List Nd)) : Int := if e = 0 then inE t l else e
theorem noL_len {e : Int} {n : Nd} {p : List (List Nd)} : (noL e n p).length ≤ p.flatten.length + 1 := by
 unfold noL
 split <;> simp
theorem noL_sml {e : Int} {n : Nd} {p : List (List Nd)} (hn : n.S.size < 1000000) (hp : ∀ x ∈ p, sml x) : sml (noL e n p) := by
 rw [sml_mem]
 unfold noL
 split
 ·
  intro m hm
  rcases List.mem_append.1 hm with h | h
  ·
   obtain ⟨x, hx, h⟩ := List.mem_flatten.1 h
   exact sml_mem.1 (hp x hx) m h
  ·
   simp only [List.mem_singleton] at h
   rw [h]; exact hn
 · intro m hm; simp at hm
theorem inL_sml {e : Int} {t : List Nd} {l : List (List Nd)} (h : sml t) (hl : ∀ x ∈ l, sml x) : sml (inL e t l) := by
 unfold inL
 split
 · exact inA_sml h hl
 · intro k hk; simp at hk
theorem inL_len {e : Int} {t : List Nd} {l : List (List Nd)} : (inL e t l).length ≤ 4000 := by
 unfold inL
 split
 · exact inA_len _ _
 · simp
section
variable {r : List Nd} {e : Int}
end
theorem many_3 {n : Nd} (h : n.K = 3) : many n = 2 := by simp [many, binds, h, shp]
theorem many_23 {n : Nd} (h : n.K = 23) : many n = 2 := by simp [many, binds, h, shp]
end Go.Proofs.YtcfponnkfhkbdaaDoor
/- Terms that are built of parts: whether they are terms, what their parts are, and which errors there may be. -/
namespace Go.Proofs.YtcfponnkfhkbdaaDoor
set_option linter.unusedSimpArgs false
set_option linter.unusedVariables false
theorem chk_meas {t : List Nd} (h : measB t = true) : chk t = 0 ∨ chk t = 21 ∨ chk t = 22 := by
 by_cases hl : t.length ≤ 4000
 ·
  by_cases hd : 60 < (nthM (measL t) ((measL t).length - 1)).2
  · exact .inr (.inr (chk_deep hl h hd))
  · exact .inl (chk_good hl h hd)
 · exact .inr (.inl (chk_size (by omega)))
def dpL (t : List Nd) : Nat := (treeOf t).deep
theorem chk_of {t : List Nd} (h : measB t = true) (hl : t.length ≤ 4000) (hd : dpL t ≤ 60) : chk t = 0 := by
 obtain ⟨hw, hf⟩ := treeOf_meas h
 rw [← hf]
 exact chk_flat hw hd (by rw [hf]; exact hl)
theorem chk_le {t : List Nd} (h : chk t = 0) : t.length ≤ 4000 := (treeOf_ok h).2.2.2
theorem deeps_bd {l : List T} {b : Nat} (h : ∀ t ∈ l, t.deep ≤ b) : T.deeps l ≤ b := by
 induction l with
 | nil => simp [T.deeps]
 | cons t l ih =>
  simp only [T.deeps]
  have h1 := h t (by simp)
  have h2 := ih (fun x hx => h x (by simp [hx]))
  omega
theorem built {n : Nd} {p : List (List Nd)} (hr : right n = true) (hm : many n = p.length) (hp : ∀ x ∈ p, measB x = true) :
  measB (p.flatten ++ [n]) = true ∧ treeOf (p.flatten ++ [n]) = .mk n (p.map treeOf) ∧ ptL (p.flatten ++ [n]) = p ∧ nth (p.flatten ++ [n]) ((p.flatten ++ [n]).length - 1) = n := by
 have e1 : (p.map treeOf).map T.flat = p := by
  rw [List.map_map]
  have : p.map (T.flat ∘ treeOf) = p.map id := List.map_congr_left fun x hx => (treeOf_meas (hp x hx)).2
  rw [this, List.map_id]
 have e2 : T.flats (p.map treeOf) = p.flatten := by rw [← flats_flatten, e1]
 have hw : (T.mk n (p.map treeOf)).wf = true := by
  rw [T.wf_mk]
  simp only [Bool.and_eq_true, beq_iff_eq, List.length_map]
  refine ⟨⟨hr, hm⟩, (T.wfs_iff _).2 ?_⟩
  intro t ht
  obtain ⟨x, hx, rfl⟩ := List.mem_map.1 ht
  exact (treeOf_meas (hp x hx)).1
 have e3 : (T.mk n (p.map treeOf)).flat = p.flatten ++ [n] := by rw [T.flat_mk, e2]
 have e4 : treeOf (p.flatten ++ [n]) = .mk n (p.map treeOf) := by rw [← e3, treeOf_flat hw]
 refine ⟨by rw [← e3]; exact meas_flat hw, e4, ?_, ?_⟩
 ·
  unfold ptL
  rw [e4]
  exact e1
 · simp [nth]
theorem built_deep {n : Nd} {p : List (List Nd)} {b : Nat} (hr : right n = true) (hm : many n = p.length) (hp : ∀ x ∈ p, measB x = true) (hb : ∀ x ∈ p, dpL x ≤ b) : dpL (p.flatten ++ [n]) ≤ b + 1 := by
 unfold dpL
 rw [(built hr hm hp).2.1]
 simp only [T.deep]
 have := deeps_bd (l := p.map treeOf) (b := b) (by
  intro t ht
  obtain ⟨x, hx, rfl⟩ := List.mem_map.1 ht
  exact hb x hx)
 omega
theorem right_lit {k : Nat} (h : k < 30 ∧ k ≠ 1 ∧ k ≠ 25 ∧ k ≠ 26 ∧ k ≠ 27) : right ⟨(k : Int), 0, 0, ⟨#[]⟩⟩ = true ∧ many ⟨(k : Int), 0, 0, ⟨#[]⟩⟩ = (shp k).b.length := by
 obtain ⟨h0, h1, h2, h3, h4⟩ := h
 have : ∀ k : Fin 30, k.val ≠ 1 → k.val ≠ 25 → k.val ≠ 26 → k.val ≠ 27 → right ⟨(k.val : Int), 0, 0, ⟨#[]⟩⟩ = true ∧ many ⟨(k.val : Int), 0, 0, ⟨#[]⟩⟩ = (shp k.val).b.length := by decide
 exact this ⟨k, h0⟩ h1 h2 h3 h4
def GE (e : Int) : Prop := e = 0 ∨ e = 2 ∨ e = 21 ∨ e = 22
theorem GE.zero : GE 0 := .inl rfl
theorem GE.meas {t : List Nd} (h : measB t = true) : GE (chk t) := by
 rcases chk_meas h with q | q | q
 · exact .inl q
 · exact .inr (.inr (.inl q))
 · exact .inr (.inr (.inr q))
theorem ag_part {t : List Nd} (hc : chk t = 0) {k : Nat} (hk : k < many (nth t (t.length - 1))) : chk (nthL (agA t) k) = 0 ∧ nthL (agA t) k ∈ agA t := by
 have hb := meas_chk hc
 rw [agA_ok hc]
 have hm := nthL_mem (l := ptL t) (k := k) (by rw [ptL_length hb]; exact hk)
 exact ⟨ptL_chk hc hm, hm⟩
theorem nthL_any {l : List (List Nd)} {Q : List Nd → Prop} (h : ∀ x ∈ l, Q x) (h0 : Q []) (k : Nat) : Q (nthL l k) := by
 by_cases hk : k < l.length
 · exact h _ (nthL_mem hk)
 ·
  have : nthL l k = [] := by unfold nthL; rw [List.getD_eq_getElem?_getD, List.getElem?_eq_none (by omega)]; rfl
  rw [this]; exact h0
theorem sml_nil : sml [] := fun k hk => by simp at hk
theorem ag_sml {t : List Nd} (hs : sml t) : ∀ x ∈ agA t, sml x ∧ x.length ≤ t.length := by
 intro x hx
 by_cases hc : chk t = 0
 ·
  rw [agA_ok hc] at hx
  obtain ⟨_, h2, h3⟩ := ptL_mem (meas_chk hc) hx
  exact ⟨sml_sub hs h3, by omega⟩
 · rw [agA_no hc] at hx; cases hx
end Go.Proofs.YtcfponnkfhkbdaaDoor
/- What a redex comes to (eliminators of inductive types aside); which kind an argument's type is of. -/
namespace Go.Proofs.YtcfponnkfhkbdaaDoor
set_option linter.unusedSimpArgs false
set_option linter.unusedVariables false
def tgK (n : Nd) : Int := if n.K = 5 ∨ n.K = 8 ∨ n.K = 9 then 0 else if n.K = 13 ∨ n.K = 24 then 3 else if n.K = 27 then n.M + 1 else -1
def tgA (t : List Nd) : Int := if chk t = 0 then tgK (nth t (t.length - 1)) else -1
def tgL (t : List Nd) : List Nd := nthL (agA t) (tgK (nth t (t.length - 1))).toNat
def urX (n x : Nd) (p q : List (List Nd)) : Option (List Nd × Int) :=
 if n.K = 5 ∧ x.K = 4 then some (inL 0 (nthL q 1) [nthL p 1], inQ 0 (nthL q 1) [nthL p 1])
 else if n.K = 8 ∧ x.K = 7 then some (nthL q 1, 0)
 else if n.K = 9 ∧ x.K = 7 then some (nthL q 2, 0)
 else if n.K = 13 ∧ x.K = 11 then some (nthL p 1, 0)
 else if n.K = 13 ∧ x.K = 12 then some (inL 0 (nthL p 2) [noL 0 n (p.set (p.length - 1) (nthL q 0)), nthL q 0], inQ 0 (nthL p 2) [noL 0 n (p.set (p.length - 1) (nthL q 0)), nthL q 0])
 else if n.K = 24 ∧ x.K = 23 then some (inL 0 (nthL p 1) [nthL q 1], inQ 0 (nthL p 1) [nthL q 1])
 else none
def urQ (t : List Nd) : Option (List Nd × Int) := urX (nth t (t.length - 1)) (nth (tgL t) ((tgL t).length - 1)) (agA t) (agA (tgL t))
def urE (t : List Nd) : Int := if ¬ chk t = 0 then chk t else if tgK (nth t (t.length - 1)) < 0 then 120 else match urQ t with
 | none => 120
 | some (x, e) => if e = 0 then chk x else e
def urA (t : List Nd) : List Nd := if ¬ chk t = 0 then [] else if tgK (nth t (t.length - 1)) < 0 then [] else match urQ t with
 | none => []
 | some (x, e) => if (if e = 0 then chk x else e) = 0 then x else []
theorem ur_err {t : List Nd} (h : ¬ chk t = 0) : urE t = chk t ∧ urA t = [] := ⟨if_pos h, if_pos h⟩
theorem ur_neg {t : List Nd} (h : chk t = 0) (h1 : tgK (nth t (t.length - 1)) < 0) : urE t = 120 ∧ urA t = [] := by
 unfold urE urA
 exact ⟨(if_neg (by omega)).trans (if_pos h1), (if_neg (by omega)).trans (if_pos h1)⟩
theorem ur_none {t : List Nd} (h : chk t = 0) (h1 : ¬ tgK (nth t (t.length - 1)) < 0) (h2 : urQ t = none) : urE t = 120 ∧ urA t = [] := by
 unfold urE urA
 refine ⟨(if_neg (by omega)).trans ((if_neg h1).trans ?_), (if_neg (by omega)).trans ((if_neg h1).trans ?_)⟩ <;> rw [h2]
theorem ur_some {t : List Nd} (h : chk t = 0) (h1 : ¬ tgK (nth t (t.length - 1)) < 0) {x : List Nd} {e : Int} (h2 : urQ t = some (x, e)) : urE t = (if e = 0 then chk x else e) ∧ urA t = if (if e = 0 then chk x else e) = 0 then x else [] := by
 unfold urE urA
 refine ⟨(if_neg (by omega)).trans ((if_neg h1).trans ?_), (if_neg (by omega)).trans ((if_neg h1).trans ?_)⟩ <;> rw [h2]
theorem tg_many {t : List Nd} (h : chk t = 0) (h1 : ¬ tgK (nth t (t.length - 1)) < 0) : (tgK (nth t (t.length - 1))).toNat < many (nth t (t.length - 1)) := by
 have hr := right_at (meas_chk h) (show t.length - 1 < t.length by have := chk_pos h; omega)
 revert h1 hr
 generalize nth t (t.length - 1) = n
 intro h1 hr
 unfold tgK at h1 ⊢
 by_cases a : n.K = 5 ∨ n.K = 8 ∨ n.K = 9
 ·
  rw [if_pos a]
  have : 1 ≤ many n := by rcases a with a | a | a <;> simp [many, binds, a, shp]
  omega
 ·
  rw [if_neg a] at h1 ⊢
  by_cases b : n.K = 13 ∨ n.K = 24
  ·
   rw [if_pos b]
   have : many n = 4 := by rcases b with b | b <;> simp [many, binds, b, shp]
   omega
  ·
   rw [if_neg b] at h1 ⊢
   by_cases c : n.K = 27
   ·
    rw [if_pos c]
    have hm : many n = n.M.toNat + 2 := by simp [many, binds, c]
    have h2 := (right_elim2 c).symm.trans hr
    rw [decide_eq_true_eq] at h2
    omega
   · rw [if_neg c] at h1; omega
theorem tg_ok {t : List Nd} (h : chk t = 0) (h1 : ¬ tgK (nth t (t.length - 1)) < 0) : chk (tgL t) = 0 := (ag_part h (tg_many h h1)).1
def ownL (s : ByteArray) : List Nd := [⟨25, 0, 0, s⟩]
def kdA (s : ByteArray) (t : List Nd) : Int := if ¬ chk t = 0 then 0 else if t = ownL s then 1 else if (nth t (t.length - 1)).K = 3 ∧ nthL (agA t) 1 = ownL s then 2 else 0
section
variable {k m : Nat} {t : List Nd} {a b : ByteArray} (hm : m < 4) (ht : chk t = 0) (hd : dpL t ≤ 50) (hl : t.length ≤ 200) (ha : nameOk a = true)
include hm ht hd hl ha
end
theorem ur_half {t pr : List Nd} {k : Nat} {q : List (List Nd)} (hc : chk t = 0) (hk : k = 8 ∨ k = 9) (hr : nth t (t.length - 1) = ⟨(k : Int), 0, 0, ⟨#[]⟩⟩) (hp : ptL t = [pr]) (hx : (nth pr (pr.length - 1)).K = 7) (hq : ptL pr = q) :
  urE t = chk (nthL q (k - 7)) ∧ (chk (nthL q (k - 7)) = 0 → urA t = nthL q (k - 7)) := by
 have htg : tgK (nth t (t.length - 1)) = 0 := by rw [hr]; rcases hk with rfl | rfl <;> rfl
 have hL : tgL t = pr := by unfold tgL; rw [htg, agA_ok hc, hp]; rfl
 have hcp : chk pr = 0 := by
  have := tg_ok hc (by omega)
  rw [hL] at this; exact this
 have hQ : urQ t = some (nthL q (k - 7), 0) := by
  unfold urQ
  rw [hL, agA_ok hcp, hq, hr]
  unfold urX
  rcases hk with rfl | rfl
  · rw [if_neg (by rintro ⟨z, _⟩; exact absurd (show (8 : Int) = 5 from z) (by decide)), if_pos ⟨rfl, hx⟩]
  · rw [if_neg (by rintro ⟨z, _⟩; exact absurd (show (9 : Int) = 5 from z) (by decide)), if_neg (by rintro ⟨z, _⟩; exact absurd (show (9 : Int) = 8 from z) (by decide)), if_pos ⟨rfl, hx⟩]
 obtain ⟨h1, h2⟩ := ur_some hc (by omega) hQ
 rw [if_pos rfl] at h1 h2
 exact ⟨h1, fun h => by rw [h2, if_pos h]⟩
end Go.Proofs.YtcfponnkfhkbdaaDoor
/- What a cast comes to: its errors, and its parts. -/
namespace Go.Proofs.YtcfponnkfhkbdaaDoor
set_option linter.unusedSimpArgs false
set_option linter.unusedVariables false
section
variable {a b t : List Nd} (ha : chk a = 0) (hb : chk b = 0) (ht : chk t = 0)
include ha hb ht
end
theorem many_4 {n : Nd} (h : n.K = 4) : many n = 2 := by simp [many, binds, h, shp]
theorem many_7 {n : Nd} (h : n.K = 7) : many n = 3 := by simp [many, binds, h, shp]
end Go.Proofs.YtcfponnkfhkbdaaDoor
/- What the walks of redexes ask: parts of roots, sizes, strings. -/
namespace Go.Proofs.YtcfponnkfhkbdaaDoor
set_option linter.unusedSimpArgs false
set_option linter.unusedVariables false
theorem right_M {n : Nd} (h : right n = true) : 0 ≤ n.M ∧ n.M ≤ 6 := by
 obtain ⟨_, h2, _, h4⟩ := (right_split n).1 h
 by_cases hn : (shp n.K.toNat).m = true
 · exact h4 hn
 ·
  have : n.M = 0 := by
   unfold fieldsBad at h2
   simp only [Bool.or_eq_false_iff, Bool.and_eq_false_iff, Bool.not_eq_false', decide_eq_false_iff_not, decide_eq_true_eq] at h2
   simp only [Bool.not_eq_true] at hn
   simp [hn] at h2
   exact h2.2.1
  omega
theorem lsts_set {p : List Sl} {k : Nat} {s : Sl} : lsts (p.set k s) = (lsts p).set k s.2.2 := by unfold lsts; rw [List.map_set]
theorem all_set {w : World} {I : Nat → Prop} {L : List Sl} {k : Nat} {z : Sl} (h : (dAll L).φ w I) (hz : (dRow 4 z.1 z.2.2.length z.2.1 (encNs z.2.2)).φ w I) : (dAll (L.set k z)).φ w I := fun s hs => by
 rcases List.mem_or_eq_of_mem_set hs with h1 | h1
 · exact h s h1
 · rw [h1]; exact hz
theorem set_bd {p : List Sl} {z : Sl} {k : Nat} (hp : ∀ x ∈ lsts p, sml x ∧ x.length ≤ 4000) (hz : z.2.2.length ≤ 4000) : ∀ s ∈ p.set k z, s.2.2.length ≤ 100000 := fun s hs => by
 rcases List.mem_or_eq_of_mem_set hs with h1 | h1
 · exact Nat.le_trans (hp _ (List.mem_map_of_mem h1)).2 (by decide)
 · rw [h1]; omega
theorem nthS_in {Ls : List Sl} {k : Nat} (h : k < Ls.length) : (nthS Ls k).2.2 ∈ lsts Ls := by
 rw [lsts_nth]; exact nthL_mem (by rw [lsts_len]; exact h)
theorem ag_nth {t : List Nd} {Ls : List Sl} {k : Nat} (hc : chk t = 0) (hL : lsts Ls = agA t) (hs : sml t) (hk : k < many (nth t (t.length - 1))) : (nthS Ls k).2.2.length ≤ 4000 ∧ sml (nthS Ls k).2.2 ∧ chk (nthS Ls k).2.2 = 0 := by
 obtain ⟨h1, h2⟩ := ag_part hc hk
 obtain ⟨h3, h4⟩ := ag_sml hs _ h2
 rw [lsts_nth, hL]
 exact ⟨chk_le h1, h3, h1⟩
theorem ag_all {t : List Nd} {Ls : List Sl} (hc : chk t = 0) (hL : lsts Ls = agA t) (hs : sml t) : ∀ x ∈ lsts Ls, sml x ∧ x.length ≤ 4000 := by
 intro x hx
 rw [hL] at hx
 obtain ⟨h1, h2⟩ := ag_sml hs x hx
 exact ⟨h1, Nat.le_trans h2 (chk_le hc)⟩
theorem ag_len {t : List Nd} {Ls : List Sl} (hc : chk t = 0) (hL : lsts Ls = agA t) : Ls.length = many (nth t (t.length - 1)) ∧ Ls.length ≤ 8 := by
 have h1 : Ls.length = many (nth t (t.length - 1)) := by rw [← lsts_len, hL, agA_ok hc, ptL_length (meas_chk hc)]
 have h2 := many_le (right_at (meas_chk hc) (show t.length - 1 < t.length by have := chk_pos hc; omega))
 exact ⟨h1, by omega⟩
theorem many_5 {n : Nd} (h : n.K = 5) : many n = 2 := by simp [many, binds, h, shp]
theorem many_8 {n : Nd} (h : n.K = 8) : many n = 1 := by simp [many, binds, h, shp]
theorem many_9 {n : Nd} (h : n.K = 9) : many n = 1 := by simp [many, binds, h, shp]
theorem many_13 {n : Nd} (h : n.K = 13) : many n = 4 := by simp [many, binds, h, shp]
theorem many_24 {n : Nd} (h : n.K = 24) : many n = 4 := by simp [many, binds, h, shp]
theorem many_12 {n : Nd} (h : n.K = 12) : many n = 1 := by simp [many, binds, h, shp]
def urR (n x : Nd) (p q : List (List Nd)) : List Nd × Int := (urX n x p q).getD ([], 120)
theorem lsts_cons1 {s : Sl} {l : List Sl} : lsts (s :: l) = s.2.2 :: lsts l := rfl
theorem lsts_nil1 : lsts [] = [] := rfl
theorem nand_of {A B : Prop} [Decidable A] [Decidable B] (h : (decide A && decide B) = false) : ¬ (A ∧ B) := by simpa using h
theorem ur_of {t : List Nd} (h : chk t = 0) (h1 : ¬ tgK (nth t (t.length - 1)) < 0) {R : List Nd × Int} (hR : R = urR (nth t (t.length - 1)) (nth (tgL t) ((tgL t).length - 1)) (agA t) (agA (tgL t))) :
  urE t = (if R.2 = 0 then chk R.1 else R.2) ∧ urA t = if (if R.2 = 0 then chk R.1 else R.2) = 0 then R.1 else [] := by
 cases hq : urQ t with
 | none =>
  have e : R = ([], 120) := by rw [hR]; unfold urR; rw [show urX _ _ _ _ = none from hq]; rfl
  obtain ⟨a, b⟩ := ur_none h h1 hq
  rw [a, b, e]
  exact ⟨rfl, rfl⟩
 | some y =>
  obtain ⟨x, e⟩ := y
  have e' : R = (x, e) := by rw [hR]; unfold urR; rw [show urX _ _ _ _ = some (x, e) from hq]; rfl
  obtain ⟨a, b⟩ := ur_some h h1 hq
  rw [a, b, e']
  exact ⟨rfl, rfl⟩
theorem urR_sz {n x : Nd} {p q : List (List Nd)} (hn : n.S.size < 1000000) (hp : ∀ x ∈ p, sml x ∧ x.length ≤ 4000) (hq : ∀ x ∈ q, sml x ∧ x.length ≤ 4000) : sml (urR n x p q).1 ∧ (urR n x p q).1.length ≤ 100000 := by
 have h0 : sml ([] : List Nd) ∧ ([] : List Nd).length ≤ 4000 := ⟨sml_nil, by simp⟩
 have hp' : ∀ k, sml (nthL p k) ∧ (nthL p k).length ≤ 4000 := nthL_any (Q := fun x => sml x ∧ x.length ≤ 4000) hp h0
 have hq' : ∀ k, sml (nthL q k) ∧ (nthL q k).length ≤ 4000 := nthL_any (Q := fun x => sml x ∧ x.length ≤ 4000) hq h0
 have hi : ∀ t l, sml t → (∀ x ∈ l, sml x) → sml (inL 0 t l) ∧ (inL 0 t l).length ≤ 100000 := fun t l a b => ⟨inL_sml a b, Nat.le_trans inL_len (by decide)⟩
 have one : ∀ a : List Nd, sml a → ∀ x ∈ [a], sml x := fun a h x hx => by simp only [List.mem_cons, List.not_mem_nil, or_false] at hx; rw [hx]; exact h
 unfold urR urX
 (repeat' split) <;> simp only [Option.getD_some, Option.getD_none]
 · exact hi _ _ (hq' 1).1 (one _ (hp' 1).1)
 · exact ⟨(hq' 1).1, Nat.le_trans (hq' 1).2 (by decide)⟩
 · exact ⟨(hq' 2).1, Nat.le_trans (hq' 2).2 (by decide)⟩
 · exact ⟨(hp' 1).1, Nat.le_trans (hp' 1).2 (by decide)⟩
 ·
  refine hi _ _ (hp' 2).1 ?_
  intro y hy
  simp only [List.mem_cons, List.not_mem_nil, or_false] at hy
  rcases hy with rfl | rfl
  ·
   refine noL_sml hn ?_
   intro z hz
   rcases List.mem_or_eq_of_mem_set hz with h | h
   · exact (hp z h).1
   · rw [h]; exact (hq' 0).1
  · exact (hq' 0).1
 · exact hi _ _ (hp' 1).1 (one _ (hq' 1).1)
 · exact ⟨sml_nil, by simp⟩
theorem name_size {s : ByteArray} (h : nameOk s = true) : s.size < 1000000 := by
 have := ((name_iff s).1 h).2.1
 omega
theorem again_sz {r : List Nd} {e : Int} {n : Nd} {p : List Sl} {t : List Nd} (h : r = noL e n ((lsts p).set ((lsts p).length - 1) t)) (hp : ∀ x ∈ lsts p, sml x ∧ x.length ≤ 4000) (hn : n.S.size < 1000000) (ht : sml t) (hl : t.length ≤ 4000) (hq : p.length ≤ 9) : r.length ≤ 40000 ∧ sml r := by
 have hm : ∀ x ∈ (lsts p).set ((lsts p).length - 1) t, sml x ∧ x.length ≤ 4000 := by
  intro z hz
  rcases List.mem_or_eq_of_mem_set hz with h | h
  · exact hp z h
  · rw [h]; exact ⟨ht, hl⟩
 rw [h]
 refine ⟨?_, noL_sml hn (fun x hx => (hm x hx).1)⟩
 have h1 : (noL e n ((lsts p).set ((lsts p).length - 1) t)).length ≤ _ := noL_len
 have h2 : ((lsts p).set ((lsts p).length - 1) t).flatten.length ≤ ((lsts p).set ((lsts p).length - 1) t).length * 4000 := flatten_le (fun x hx => (hm x hx).2)
 have h3 : ((lsts p).set ((lsts p).length - 1) t).length = p.length := by rw [List.length_set, lsts_len]
 rw [h3] at h2
 have : p.length * 4000 ≤ 9 * 4000 := Nat.mul_le_mul_right _ hq
 omega
theorem sml_14 : sml [⟨10, 0, 0, ⟨#[]⟩⟩, ⟨11, 0, 0, ⟨#[]⟩⟩, ⟨16, 0, 0, ⟨#[]⟩⟩, ⟨7, 0, 0, ⟨#[]⟩⟩, ⟨8, 0, 0, ⟨#[]⟩⟩] := by
 rw [sml_mem]
 decide
theorem sh14 : urE [⟨10, 0, 0, ⟨#[]⟩⟩, ⟨11, 0, 0, ⟨#[]⟩⟩, ⟨16, 0, 0, ⟨#[]⟩⟩, ⟨7, 0, 0, ⟨#[]⟩⟩, ⟨8, 0, 0, ⟨#[]⟩⟩] = 0 ∧ urA [⟨10, 0, 0, ⟨#[]⟩⟩, ⟨11, 0, 0, ⟨#[]⟩⟩, ⟨16, 0, 0, ⟨#[]⟩⟩, ⟨7, 0, 0, ⟨#[]⟩⟩, ⟨8, 0, 0, ⟨#[]⟩⟩] = [⟨11, 0, 0, ⟨#[]⟩⟩] ∧
  tgA [⟨10, 0, 0, ⟨#[]⟩⟩, ⟨11, 0, 0, ⟨#[]⟩⟩, ⟨16, 0, 0, ⟨#[]⟩⟩, ⟨7, 0, 0, ⟨#[]⟩⟩, ⟨8, 0, 0, ⟨#[]⟩⟩] = 0 := by
 have hc : chk [⟨10, 0, 0, ⟨#[]⟩⟩, ⟨11, 0, 0, ⟨#[]⟩⟩, ⟨16, 0, 0, ⟨#[]⟩⟩, ⟨7, 0, 0, ⟨#[]⟩⟩, ⟨8, 0, 0, ⟨#[]⟩⟩] = 0 := by decide
 have hz : chk [⟨11, 0, 0, ⟨#[]⟩⟩] = 0 := by decide
 have h := ur_half (pr := [⟨10, 0, 0, ⟨#[]⟩⟩, ⟨11, 0, 0, ⟨#[]⟩⟩, ⟨16, 0, 0, ⟨#[]⟩⟩, ⟨7, 0, 0, ⟨#[]⟩⟩]) (q := [[⟨10, 0, 0, ⟨#[]⟩⟩], [⟨11, 0, 0, ⟨#[]⟩⟩], [⟨16, 0, 0, ⟨#[]⟩⟩]]) hc (k := 8) (.inl rfl) rfl rfl rfl rfl
 refine ⟨h.1.trans hz, h.2 hz, ?_⟩
 unfold tgA
 rw [if_pos hc]
 rfl
end Go.Proofs.YtcfponnkfhkbdaaDoor
/- Arrays of two numbers compared. -/
namespace Go.Proofs.YtcfponnkfhkbdaaDoor
set_option linter.unusedSimpArgs false
set_option linter.unusedVariables false
open Go Go.RowKit
section
variable {X : Prop} {Next : Act → World → Prop} {o : Oper} {a : Act} {w w0 : World} {N : Nat} {l : List (Nat × Value)} {d : Nat}
theorem pairs_equal (w : World) (a b c e : Int) : (Op.equalIn 10000 93 (.agg #[.int .i64 a, .int .i64 b]) (.agg #[.int .i64 c, .int .i64 e])).run Tryd.prog w = .ok (decide (a = c) && decide (b = e)) w := by
 have hsz : Tryd.prog.cellsOf 3 = 1 := by kernel_rfl
 have hi : ∃ i, Tryd.prog.info? 3 = some i := by
  cases h : Tryd.prog.info? 3 with
  | none => exact absurd (show (Tryd.prog.info? 3).isSome = true by kernel_rfl) (by rw [h]; simp)
  | some i => exact ⟨i, rfl⟩
 obtain ⟨i, hi⟩ := hi
 have hg : ∀ w, (isAgg 3).run Tryd.prog w = .ok false w := fun w => run_isAgg Tryd.underlying3 w
 have e1 : ∀ w x y, (Op.equalIn 9999 3 (.int .i64 x) (.int .i64 y)).run Tryd.prog w = .ok (x == y) w := fun w x y => run_equalIn_int w 9998 _ _ _ _ _ Tryd.underlying3
 rw [run_equalIn_array w 9999 _ _ Tryd.underlying93 hi, hsz]
 simp only [show List.range 2 = [0, 1] from rfl, Op.eqItems, part, Sem.run_bind, hg, Result.andThen_ok, Bool.false_eq_true, if_false, List.getElem?_toArray, List.getElem?_cons_zero, List.getElem?_cons_succ, Sem.run_pure, e1, Nat.zero_mul, Nat.one_mul]
 by_cases q1 : a = c <;> by_cases q2 : b = e <;> simp [q1, q2, e1]
theorem guard_pairs (op : BinOp) (x y : Operand) (xs ys : Array Value) : (eqGuard op 93 x y (.agg xs) (.agg ys)).run Tryd.prog w = .ok () w :=
 run_eqGuard_agg w op _ x y _ _ (by kernel_rfl)
theorem r_eqlP {x y : Operand} {u : TypeId} {p q r s : Int} (hs : SteV Tryd.prog X Next o a w) (hR : Reg a N l) (hd : o.dst = some d) (ho : o.op = .binOp .eql 93 x y u) (hx : ev l x = some (.agg #[.int .i64 p, .int .i64 q])) (hy : ev l y = some (.agg #[.int .i64 r, .int .i64 s])) (hdN : d < N)
  (k : ∀ a', Reg a' N ((d, .bool (decide (p = r) && decide (q = s))) :: l) → Next a' w) : X := by
 refine r_pure hs hR hd hdN ?_ k
 unfold execOp
 rw [ho]
 simp only [hR.ev hx, hR.ev hy, Sem.run_bind, guard_pairs, Result.andThen_ok, run_eql_struct, pairs_equal, Sem.run_pure]
end
end Go.Proofs.YtcfponnkfhkbdaaDoor
