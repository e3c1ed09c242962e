import Derived.Test.YthdemmcfnpmmiaaDoorWce
/- Terms compared: the answer for any two lists of nodes; how many casts there are. -/
namespace Go.Proofs.YthdemmcfnpmmiaaDoor
set_option linter.unusedSimpArgs false
set_option linter.unusedVariables false
open Go Go.RowKit
def smE (a b : List Nd) : Int := if ¬ chk a = 0 then chk a else if ¬ chk b = 0 then chk b else (cv (treeOf a) (treeOf b)).1
def smB (a b : List Nd) : Bool := decide (chk a = 0) && decide (chk b = 0) && (cv (treeOf a) (treeOf b)).2
theorem sm_bad {a b : List Nd} (h : ¬ chk a = 0) : smB a b = false ∧ smE a b = chk a := by
 unfold smB smE
 rw [if_pos h, decide_eq_false h]
 exact ⟨rfl, rfl⟩
theorem sm_bad2 {a b : List Nd} (ha : chk a = 0) (h : ¬ chk b = 0) : smB a b = false ∧ smE a b = chk b := by
 unfold smB smE
 rw [if_neg (not_not_intro ha), if_pos h, decide_eq_false h]
 exact ⟨by simp, rfl⟩
theorem sm_ok {a b : List Nd} (ha : chk a = 0) (hb : chk b = 0) : smB a b = (cv (treeOf a) (treeOf b)).2 ∧ smE a b = (cv (treeOf a) (treeOf b)).1 := by
 unfold smB smE
 rw [if_neg (not_not_intro ha), if_neg (not_not_intro hb), decide_eq_true ha, decide_eq_true hb]
 exact ⟨rfl, rfl⟩
theorem ck_leaf {n : Nd} (hr : right n = true) (hm : many n = 0) : chk [n] = 0 ∧ treeOf [n] = .mk n [] := by
 have hw : (T.mk n []).wf = true := by simp [T.wf, T.wfs, hr, hm]
 have hf : (T.mk n []).flat = [n] := by simp [T.flat, T.flats]
 refine ⟨chk_ok.2 ⟨.mk n [], hw, hf.symm, by simp, by simp [T.deep, T.deeps]⟩, ?_⟩
 rw [← hf]
 exact treeOf_flat hw
theorem ck_k {k : Nat} (h : k = 10 ∨ k = 11 ∨ k = 29) : chk [cN (k : Int)] = 0 ∧ treeOf [cN (k : Int)] = .mk (cN (k : Int)) [] := by
 have h2 := cN_right (k := k) (by omega)
 refine ck_leaf h2.1 (h2.2.trans ?_)
 rcases h with rfl | rfl | rfl <;> rfl
def sucT : Nat → T
 | 0 => .mk (cN 11) []
 | k + 1 => .mk (cN 12) [sucT k]
def suL (k : Nat) : List Nd := ⟨11, 0, 0, ⟨#[]⟩⟩ :: List.replicate k ⟨12, 0, 0, ⟨#[]⟩⟩
theorem suL_len (k : Nat) : (suL k).length = k + 1 := by simp [suL]
theorem suL_app {k : Nat} : suL k ++ [⟨12, 0, 0, ⟨#[]⟩⟩] = suL (k + 1) := by
 unfold suL
 rw [List.replicate_succ', List.cons_append]
theorem su_ok : ∀ k, (sucT k).wf = true ∧ (sucT k).flat = suL k ∧ (sucT k).deep = k + 1
 | 0 => ⟨by decide, rfl, by simp [sucT, T.deep, T.deeps]⟩
 | k + 1 => by
  obtain ⟨h1, h2, h3⟩ := su_ok k
  refine ⟨?_, ?_, ?_⟩
  ·
   have a := cN_right (k := 12) (by decide)
   have b : right (cN 12) = true := a.1
   have c : many (cN 12) = 1 := a.2
   simp only [sucT, T.wf, T.wfs, h1, b, c, List.length_cons, List.length_nil, BEq.rfl, Bool.and_self]
  ·
   rw [sucT, T.flat_mk, T.flats_one, h2]
   exact suL_app
  · simp [sucT, T.deep, T.deeps, h3]
theorem suL_chk {k : Nat} (h : k ≤ 50) : chk (suL k) = 0 ∧ treeOf (suL k) = sucT k := by
 obtain ⟨h1, h2, h3⟩ := su_ok k
 rw [← h2]
 refine ⟨chk_ok.2 ⟨sucT k, h1, rfl, by rw [h2, suL_len]; omega, by omega⟩, treeOf_flat h1⟩
theorem suT_root (k : Nat) : (sucT k).root = if k = 0 then cN 11 else cN 12 := by cases k <;> rfl
theorem suT_K (k : Nat) : ¬ (sucT k).root.K = 29 ∧ ¬ (sucT k).root.K = 20 ∧ ¬ (sucT k).root.K = 4 ∧ ¬ (sucT k).root.K = 7 := by
 rw [suT_root]
 split <;> decide
theorem cvB_plain {f : T → T → Int × Bool} {a b : T} (ha : ¬ a.root.K = 4) (hb : ¬ b.root.K = 4) (ha7 : ¬ a.root.K = 7) (hb7 : ¬ b.root.K = 7) : cvB f a b = if a.root = b.root then seqF f (kidsF a b 0) else (0, false) := by
 unfold cvB stepE stepL
 rw [if_neg (c := a.root.K = 4 ∨ b.root.K = 4) (by omega), if_neg (c := a.root.K = 7 ∨ b.root.K = 7) (by omega)]
 rw [decide_eq_false (by omega), Bool.false_and, if_neg (by decide)]
 by_cases h : a.root = b.root
 · rw [if_pos h, if_pos h]
 · rw [if_neg h, if_neg h]
theorem cv_plain {a b : T} (wa : a.wf = true) (wb : b.wf = true) (ha : ¬ a.root.K = 29 ∧ ¬ a.root.K = 20 ∧ ¬ a.root.K = 4 ∧ ¬ a.root.K = 7) (hb : ¬ b.root.K = 29 ∧ ¬ b.root.K = 20 ∧ ¬ b.root.K = 4 ∧ ¬ b.root.K = 7) :
  cv a b = if a.root = b.root then seqF cv (kidsF a b 0) else (0, false) := by
 rw [cv_eq wa wb (by omega), br_no ha.2.1, br_no hb.2.1]
 unfold cvX
 rw [if_neg (by simp), if_neg ha.1, if_neg (by simp), if_neg hb.1]
 exact cvB_plain ha.2.2.1 hb.2.2.1 ha.2.2.2 hb.2.2.2
theorem cv_num : ∀ m n : Nat, cv (sucT m) (sucT n) = (0, decide (m = n))
 | 0, 0 => by
  rw [cv_plain (su_ok _).1 (su_ok _).1 (suT_K _) (suT_K _), if_pos rfl]
  rfl
 | 0, n + 1 => by
  rw [cv_plain (su_ok _).1 (su_ok _).1 (suT_K _) (suT_K _), if_neg (show ¬ (sucT 0).root = (sucT (n + 1)).root from (by decide : ¬ cN 11 = cN 12))]
  simp
 | m + 1, 0 => by
  rw [cv_plain (su_ok _).1 (su_ok _).1 (suT_K _) (suT_K _), if_neg (show ¬ (sucT (m + 1)).root = (sucT 0).root from (by decide : ¬ cN 12 = cN 11))]
  simp
 | m + 1, n + 1 => by
  rw [cv_plain (su_ok _).1 (su_ok _).1 (suT_K _) (suT_K _), if_pos (show (sucT (m + 1)).root = (sucT (n + 1)).root from rfl)]
  have e : kidsF (sucT (m + 1)) (sucT (n + 1)) 0 = [(sucT m, sucT n)] := rfl
  rw [e]
  simp only [seqF, cv_num m n]
  by_cases h : m = n
  · subst h; simp
  ·
   have : ¬ m + 1 = n + 1 := by omega
   simp [h]
theorem sm_num {m n : Nat} (hm : m ≤ 50) (hn : n ≤ 50) : smB (suL m) (suL n) = decide (m = n) ∧ smE (suL m) (suL n) = 0 := by
 obtain ⟨a1, a2⟩ := suL_chk hm
 obtain ⟨b1, b2⟩ := suL_chk hn
 obtain ⟨x1, x2⟩ := sm_ok a1 b1
 rw [x1, x2, a2, b2, cv_num]
 exact ⟨rfl, rfl⟩
theorem sm_nat {m : Nat} (hm : m ≤ 50) : smB (suL m) [⟨10, 0, 0, ⟨#[]⟩⟩] = false ∧ smE (suL m) [⟨10, 0, 0, ⟨#[]⟩⟩] = 0 := by
 obtain ⟨a1, a2⟩ := suL_chk hm
 obtain ⟨b1, b2⟩ := ck_k (k := 10) (by omega)
 obtain ⟨x1, x2⟩ := sm_ok (a := suL m) (b := [⟨10, 0, 0, ⟨#[]⟩⟩]) a1 b1
 have e : cv (treeOf (suL m)) (treeOf [⟨10, 0, 0, ⟨#[]⟩⟩]) = (0, false) := by
  rw [a2, show treeOf [⟨10, 0, 0, ⟨#[]⟩⟩] = .mk (cN 10) [] from b2, cv_plain (su_ok _).1 (by decide) (suT_K _) (by decide), if_neg]
  rw [suT_root]
  split <;> decide
 rw [x1, x2, e]
 exact ⟨rfl, rfl⟩
theorem cv_ne2 {a b : T} (h : ¬ (cv a b).1 = 0) : (cv a b).2 = false := by
 cases q : (cv a b).2 with
 | false => rfl
 | true => exact absurd (cv_two q) h
theorem sml_16 {n : Nd} (h : n.S.size < 1000000 := by decide) : sml [n] := by
 intro k hk
 have : k = 0 := by simpa using hk
 subst this
 exact h
mutual
theorem mu_flat : ∀ t : T, muT t ≤ 4 * t.flat.length
 | .mk n l => by
  have := mus_flat l
  rw [T.flat_mk, List.length_append, List.length_singleton]
  simp only [muT]
  split <;> omega
theorem mus_flat : ∀ l : List T, muTs l ≤ 4 * (T.flats l).length
 | [] => by simp only [muTs]; omega
 | t :: l => by
  have := mu_flat t
  have := mus_flat l
  rw [T.flats_cons, List.length_append]
  simp only [muTs]
  omega
end
theorem mu_len {t : List Nd} (h : measB t = true) : muT (treeOf t) ≤ 4 * t.length := by
 obtain ⟨_, hf⟩ := treeOf_meas h
 have := mu_flat (treeOf t)
 rwa [hf] at this
theorem sm_mu {a b : List Nd} (ha : chk a = 0) (hb : chk b = 0) (hla : a.length ≤ 100000) (hlb : b.length ≤ 100000) : muT (treeOf a) + muT (treeOf b) ≤ 1000000 := by
 have := mu_len (meas_chk ha)
 have := mu_len (meas_chk hb)
 omega
def csK (t : List Nd) : Nat → Nat
 | 0 => 0
 | k + 1 => csK t k + if (nth t k).K = 20 then 1 else 0
theorem csK_le (t : List Nd) : ∀ k, csK t k ≤ k
 | 0 => Nat.le_refl _
 | k + 1 => by have := csK_le t k; simp only [csK]; split <;> omega
end Go.Proofs.YthdemmcfnpmmiaaDoor
/- Contracts of functions, one theorem each: what the call returns, and that nothing old is changed. Printed by gen.py. -/
namespace Go.Proofs.YthdemmcfnpmmiaaDoor
open Go Go.RowKit
set_option linter.unusedSimpArgs false
set_option linter.unusedVariables false
theorem vone_all : ∀ n, OneC n
  | 0 => fun w0 Z hZ cg cb cq ce aA ac a bA bc b hShp hc hcz hci ha hb hba hbb hce hN hB => absurd hN (by have := mu_pos (treeOf a); omega)
  | n + 1 => fun w0 Z hZ cg cb cq ce aA ac a bA bc b hShp hc hcz hci ha hb hba hbb hce hN hB => vone_step n (vone_all n) w0 Z hZ cg cb cq ce aA ac a bA bc b hShp hc hcz hci ha hb hba hbb hce hN hB
theorem vone_calls (w0 : World) (Z : Nat → Prop) (hZ : ∀ k, Z k → k < w0.heap.size) (cg cb : Nat) (cq : IQ) (ce : Int) (aA : Option Addr) (ac : Nat) (a : List Nd) (bA : Option Addr) (bc : Nat) (b : List Nd) (hShp : Shapes w0 Z) (hc : (Res.box cg 55 [.map (some cb), .int .i64 (ce)]).holds w0) (hcz : ¬ Z cg) (hci : (dIdle cb cq).φ w0 Z) (ha : (dRow 4 aA a.length ac (encNs a)).φ w0 Z) (hb : (dRow 4 bA b.length bc (encNs b)).φ w0 Z) (hba : measB a = true := by first | assumption | omega | (simp; done) | (simp; omega)) (hbb : measB b = true := by first | assumption | omega | (simp; done) | (simp; omega)) (hce : ce = 0 := by first | assumption | omega | (simp; done) | (simp; omega)) (hm : muT (treeOf a) + muT (treeOf b) ≤ 1000000 := by first | assumption | omega | (simp; done) | (simp; omega)) :
    Calls Tryd.prog 27 [.pointer (some ⟨cg, 0, none⟩), .slice aA a.length ac, .slice bA b.length bc].toArray w0 (fun e w' => e = .returned (.bool ((cv (treeOf a) (treeOf b)).2)) ∧ Fr (· = cg) w0 w' ∧ (Res.box cg 55 [.map (some cb), .int .i64 (((cv (treeOf a) (treeOf b)).1))]).holds w') :=
  vone_all 1000000 w0 Z hZ cg cb cq ce aA ac a bA bc b hShp hc hcz hci ha hb hba hbb hce hm (Nat.le_refl _)
set_option maxRecDepth 100000 in
set_option maxHeartbeats 1000000 in
theorem vsame_calls (w0 : World) (Z : Nat → Prop) (hZ : ∀ k, Z k → k < w0.heap.size) (aA : Option Addr) (ac : Nat) (a : List Nd) (bA : Option Addr) (bc : Nat) (b : List Nd) (hShp : Shapes w0 Z) (ha : (dRow 4 aA a.length ac (encNs a)).φ w0 Z) (hb : (dRow 4 bA b.length bc (encNs b)).φ w0 Z) (hba : measB a = true := by first | assumption | omega | (simp; done) | (simp; omega)) (hbb : measB b = true := by first | assumption | omega | (simp; done) | (simp; omega)) (hm : muT (treeOf a) + muT (treeOf b) ≤ 1000000 := by first | assumption | omega | (simp; done) | (simp; omega)) :
    Calls Tryd.prog 18 [.slice aA a.length ac, .slice bA b.length bc].toArray w0 (fun e w' => e = .returned (.tuple #[.bool ((cv (treeOf a) (treeOf b)).2), .int .i64 ((cv (treeOf a) (treeOf b)).1)]) ∧ Fr none_ w0 w') := by
 have b0 := s0 (M := none_) hZ (zc (d := dShapes) hShp (zc ha (zc hb zn)))
 refine c_enter Tryd.func18 rfl Tryd.ntmps18 rfl (fun c0 d0 => ?_)
 refine wsc (fun c0 f0 => ?_)
 refine asg d0 (fun c0 h0 => ?_)
 refine asg h0 (fun c0 d0 => ?_)
 refine wpList_nil (x_then_n (f0 _ _ ?_))
 refine wsc (fun f0 c0 => ?_)
 have f0 := b0.nf
 refine k_call (xs := []) se d0 rfl rfl rfl (by decide) ok26 (idle_calls _ _ f0.il ) ?_
 rintro d0 b0 ⟨b18, h0, rfl, i0, j0⟩
 have h0 := f0.below i0.below
 have i0 := f0.dN h0 j0
 refine ⟨_, rfl, fun h0 j0 => ?_⟩
 refine m_build (ps := [(0, .tmp 8)]) (v := .agg #[.map (some b18), .int .i64 0]) sv j0 rfl rfl rfl (fun _ => by kernel_rfl) (by decide) (fun h0 f0 => ?_)
 refine m_box (cs := [.map (some b18), .int .i64 0]) sv f0 i0 rfl rfl rfl rfl (by decide) (fun h0 j0 b0 d0 k0 => ?_)
 refine asg d0 (fun b0 j0 => ?_)
 refine wpList_nil (x_then_n (c0 _ _ ?_))
 refine wsc (fun c0 b0 => ?_)
 refine mv j0 (fun c0 d0 => ?_)
 refine mv d0 (fun c0 j0 => ?_)
 refine mv j0 (fun c0 d0 => ?_)
 have c0 := k0.nf
 refine k_call (xs := [.tmp 11, .tmp 12, .tmp 13]) se d0 rfl rfl rfl (by decide) ok27 (vone_calls _ _ c0.il _ _ _ _ _ _ _ _ _ _ (c0.g 0) (c0.z 0) (imm_box (i := 0) rfl) (c0.g 3) (c0.g 1) (c0.g 2) (hba := hba) (hbb := hbb) (hce := rfl) (hm := hm)) ?_
 rintro d0 k0 ⟨rfl, j0, h0⟩
 have k0 := c0.callM (i := 0) rfl j0 h0
 refine ⟨_, rfl, fun h0 j0 => ?_⟩
 refine asg j0 (fun h0 c0 => ?_)
 refine wpList_nil (x_then_n (b0 _ _ ?_))
 refine wp_seq_k (fun b0 h0 => ?_)
 refine wsc (fun b0 j0 => ?_)
 refine mv c0 (fun b0 d0 => ?_)
 refine r_nilCheck sv d0 rfl rfl rfl (by decide) (fun b0 c0 => ?_)
 refine m_field (j' := 1) sv c0 rfl rfl rfl Tryd.underlying55 rfl sz26 rfl rfl (by decide) (fun b0 d0 => ?_)
 refine m_load (i := 0) sv d0 k0 rfl rfl rfl rfl rfl Tryd.underlying26 rfl (by decide) (fun b0 c0 => ?_)
 refine r_neq sv c0 rfl rfl rfl rfl (by decide) (fun b0 d0 => ?_)
 refine wpList_nil (x_then_n (j0 _ _ ?_))
 rcases Decidable.em ((((cv (treeOf a) (treeOf b)).1)) = 0) with j0 | j0
 ·
  have b0 := d0.setb (d := 19) (b := false) rfl (by rw [(decide_eq_true j0)]; rfl)
  refine wp_cond_false (b0.ev rfl) ?_
  refine wp_skip ?_
  refine x_then_n (h0 _ _ ?_)
  refine wsc (fun h0 c0 => ?_)
  refine mv b0 (fun h0 f0 => ?_)
  refine asg f0 (fun h0 b0 => ?_)
  refine asg b0 (fun h0 f0 => ?_)
  refine wpList_nil (x_then_n (c0 _ _ ?_))
  refine wp_ret ?_
  refine e_ret2 f0 rfl rfl rfl rfl ?_
  refine ⟨?_, k0.fr⟩
  exact ret_t2 (ret_b (by first | exact Eq.symm j0 | rfl)) (ret_i (by first | exact Eq.symm j0 | rfl))
 ·
  have f0 := d0.setb (d := 19) (b := true) rfl (by rw [(decide_eq_false j0)]; rfl)
  refine wp_cond_true (f0.ev rfl) ?_
  refine wp_seq_k (fun d0 c0 => ?_)
  obtain ⟨d0, h0, b0⟩ := k0.agree
  refine d_reg3 (n := 6) b0 4 (pc 0 0 pn) (pan_then (pan_then pan_body)) (fun h0 d0 k0 i0 m0 n0 => ?_)
  refine dtM 0 d0 f0 n0 (fun i0 h0 => ?_)
  refine dtN 1 d0 h0 n0 (fun i0 f0 => ?_)
  refine dtF 2 1 d0 f0 n0 Tryd.underlying55 sz26 (fun i0 h0 => ?_)
  refine dtA 4 d0 h0 n0 (fun i0 f0 => ?_)
  refine d1 3 ?_
  refine m_load (i := 0) (st_opV rfl (want_n rfl)) f0 m0 rfl rfl rfl rfl rfl Tryd.underlying26 rfl (by decide) (fun i0 h0 => ?_)
  have i0 := sWI m0 4 (pc 0 0 pn)
  refine ⟨i0, ?_⟩
  refine dtA 5 d0 h0 i0 (fun f0 n0 => ?_)
  refine wpAnyH_done (by kernel_rfl) (k0 _ _ ?_) _
  refine x_then_n (c0 _ _ ?_)
  refine wp_ret ?_
  refine x_then_r ?_
  refine e_ret2 n0 rfl rfl rfl rfl ?_
  refine ⟨?_, m0.fr⟩
  exact ret_t2 (ret_b (by first | exact (cv_ne2 j0).symm | rfl)) (ret_i (by first | exact (cv_ne2 j0).symm | rfl))
set_option maxRecDepth 100000 in
set_option maxHeartbeats 1000000 in
theorem vSame_calls (w0 : World) (Z : Nat → Prop) (hZ : ∀ k, Z k → k < w0.heap.size) (aA : Option Addr) (ac : Nat) (a : List Nd) (bA : Option Addr) (bc : Nat) (b : List Nd) (hShp : Shapes w0 Z) (ha : (dRow 4 aA a.length ac (encNs a)).φ w0 Z) (hb : (dRow 4 bA b.length bc (encNs b)).φ w0 Z) (hla : a.length ≤ 100000 := by first | assumption | omega | (simp; done) | (simp; omega)) (hlb : b.length ≤ 100000 := by first | assumption | omega | (simp; done) | (simp; omega)) (hsa : sml a := by first | assumption | omega | (simp; done) | (simp; omega)) (hsb : sml b := by first | assumption | omega | (simp; done) | (simp; omega)) :
    Calls Tryd.prog 9 [.slice aA a.length ac, .slice bA b.length bc].toArray w0 (fun e w' => e = .returned (.tuple #[.bool (smB a b), .int .i64 (smE a b)]) ∧ Fr none_ w0 w') := by
 have b0 := s0 (M := none_) hZ (zc (d := dShapes) hShp (zc ha (zc hb zn)))
 refine c_enter Tryd.func9 rfl Tryd.ntmps9 rfl (fun c0 d0 => ?_)
 refine wsc (fun c0 f0 => ?_)
 refine asg d0 (fun c0 h0 => ?_)
 refine asg h0 (fun c0 d0 => ?_)
 refine wpList_nil (x_then_n (f0 _ _ ?_))
 refine wp_seq_k (fun f0 c0 => ?_)
 refine wsc (fun f0 h0 => ?_)
 refine mv d0 (fun f0 i0 => ?_)
 refine mv i0 (fun f0 d0 => ?_)
 have f0 := b0.data (dAll [((aA, ac, a) : Sl), ((bA, bc, b) : Sl)]) (all_cons (b0.get (i := 1) rfl) (all_cons (b0.get (i := 2) rfl) all_nil))
 refine mbs [(0, .tmp 9), (1, .tmp 10)] [.slice aA a.length ac, .slice bA b.length bc] sv d0 f0 Tryd.underlying39 zi22 (fun b0 i0 j0 k0 m0 => ?_)
 refine r_len sv k0 rfl rfl rfl rfl Tryd.underlying39 (by decide) (fun j0 i0 => ?_)
 refine mv i0 (fun j0 k0 => ?_)
 refine wpList_nil (x_then_n (h0 _ _ ?_))
 refine wp_block ?_
 refine wp_loop_rounds 3 (r_round ?_)
 refine wsc (fun h0 j0 => ?_)
 have h0 : (0 : Int) < 2 := by decide
 refine r_lss sv k0 rfl rfl rfl rfl (by decide) (fun i0 b0 => ?_)
 refine wpList_nil (x_then_n (j0 _ _ ?_))
 refine wp_seq_k (fun j0 i0 => ?_)
 have j0 := b0.setb (d := 14) (b := true) rfl (decide_eq_true h0)
 refine wp_cond_true (j0.ev rfl) ?_
 refine wp_skip ?_
 refine x_then_n (i0 _ _ ?_)
 refine wp_seq_k (fun i0 b0 => ?_)
 refine wp_block ?_
 refine wsc (fun i0 h0 => ?_)
 refine m_index (i := 0) (j := 0 * 1) sv j0 rfl rfl rfl rfl Tryd.underlying39 sz22 (by omega) (by simp) (own_ss (t := [((aA, ac, a) : Sl), ((bA, bc, b) : Sl)]) (k := 0) (m0.res (i := 0) rfl) (by simp)).some_ rfl (by decide) (fun i0 k0 => ?_)
 refine m_loadE sv k0 rfl rfl rfl 0 (0 * 1) (own_ss (t := [((aA, ac, a) : Sl), ((bA, bc, b) : Sl)]) (k := 0) (m0.res (i := 0) rfl) (by simp)) rfl rfl Tryd.underlying22 rfl (by decide) (fun i0 j0 => ?_)
 refine asg j0 (fun i0 k0 => ?_)
 refine wpList_nil (x_then_n (h0 _ _ ?_))
 refine wsc (fun h0 i0 => ?_)
 refine mv k0 (fun h0 j0 => ?_)
 have h0 := m0.nf
 refine k_call (xs := [.tmp 17]) se j0 rfl rfl rfl (by decide) ok17 (check_calls _ _ h0.il _ _ a (h0.g 0) (h0.g 1)) ?_
 rintro j0 m0 ⟨rfl, k0⟩
 have m0 := h0.below k0.below
 refine ⟨_, rfl, fun k0 h0 => ?_⟩
 refine asg h0 (fun k0 j0 => ?_)
 refine wpList_nil (x_then_n (i0 _ _ ?_))
 refine wsc (fun i0 k0 => ?_)
 refine mv j0 (fun i0 h0 => ?_)
 refine r_neq sv h0 rfl rfl rfl rfl (by decide) (fun i0 j0 => ?_)
 refine wpList_nil (x_then_n (k0 _ _ ?_))
 rcases Decidable.em (((chk a)) = 0) with k0 | k0
 ·
  have i0 := j0.setb (d := 20) (b := false) rfl (by rw [(decide_eq_true k0)]; rfl)
  refine wp_cond_false (i0.ev rfl) ?_
  refine wp_skip ?_
  refine x_block_n ?_
  refine x_then_n (b0 _ _ ?_)
  refine c_region ?_
  refine r_add (z := 1) sv i0 rfl rfl rfl rfl (by decide) (by omega) (by omega) (by omega) (fun b0 h0 => ?_)
  refine mv h0 (fun b0 i0 => ?_)
  refine wpList_nil ?_
  refine x_then_n (r_round ?_)
  refine wsc (fun b0 h0 => ?_)
  have b0 : (1 : Int) < 2 := by decide
  refine r_lss sv i0 rfl rfl rfl rfl (by decide) (fun f0 d0 => ?_)
  refine wpList_nil (x_then_n (h0 _ _ ?_))
  refine wp_seq_k (fun h0 f0 => ?_)
  have h0 := d0.setb (d := 14) (b := true) rfl (decide_eq_true b0)
  refine wp_cond_true (h0.ev rfl) ?_
  refine wp_skip ?_
  refine x_then_n (f0 _ _ ?_)
  refine wp_seq_k (fun f0 d0 => ?_)
  refine wp_block ?_
  refine wsc (fun f0 b0 => ?_)
  refine m_index (i := 1) (j := 1 * 1) sv h0 rfl rfl rfl rfl Tryd.underlying39 sz22 (by omega) (by simp) (own_ss (t := [((aA, ac, a) : Sl), ((bA, bc, b) : Sl)]) (k := 1) (m0.res (i := 0) rfl) (by simp)).some_ rfl (by decide) (fun f0 i0 => ?_)
  refine m_loadE sv i0 rfl rfl rfl 0 (1 * 1) (own_ss (t := [((aA, ac, a) : Sl), ((bA, bc, b) : Sl)]) (k := 1) (m0.res (i := 0) rfl) (by simp)) rfl rfl Tryd.underlying22 rfl (by decide) (fun f0 h0 => ?_)
  refine asg h0 (fun f0 i0 => ?_)
  refine wpList_nil (x_then_n (b0 _ _ ?_))
  refine wsc (fun b0 f0 => ?_)
  refine mv i0 (fun b0 h0 => ?_)
  have b0 := m0.nf
  refine k_call (xs := [.tmp 17]) se h0 rfl rfl rfl (by decide) ok17 (check_calls _ _ b0.il _ _ b (b0.g 0) (b0.g 2)) ?_
  rintro h0 i0 ⟨rfl, n0⟩
  have i0 := b0.below n0.below
  refine ⟨_, rfl, fun n0 b0 => ?_⟩
  refine asg b0 (fun n0 h0 => ?_)
  refine wpList_nil (x_then_n (f0 _ _ ?_))
  refine wsc (fun f0 n0 => ?_)
  refine mv h0 (fun f0 b0 => ?_)
  refine r_neq sv b0 rfl rfl rfl rfl (by decide) (fun f0 h0 => ?_)
  refine wpList_nil (x_then_n (n0 _ _ ?_))
  rcases Decidable.em (((chk b)) = 0) with n0 | n0
  ·
   have f0 := h0.setb (d := 20) (b := false) rfl (by rw [(decide_eq_true n0)]; rfl)
   refine wp_cond_false (f0.ev rfl) ?_
   refine wp_skip ?_
   refine x_block_n ?_
   refine x_then_n (d0 _ _ ?_)
   refine c_region ?_
   refine r_add (z := 2) sv f0 rfl rfl rfl rfl (by decide) (by omega) (by omega) (by omega) (fun d0 b0 => ?_)
   refine mv b0 (fun d0 f0 => ?_)
   refine wpList_nil ?_
   refine x_then_n (r_round ?_)
   refine wsc (fun d0 b0 => ?_)
   have d0 : ¬ (2 : Int) < 2 := by decide
   refine r_lss sv f0 rfl rfl rfl rfl (by decide) (fun o0 p0 => ?_)
   refine wpList_nil (x_then_n (b0 _ _ ?_))
   refine wp_seq_k (fun b0 o0 => ?_)
   have o0 := p0.setb (d := 14) (b := false) rfl (decide_eq_false d0)
   refine wp_cond_false (o0.ev rfl) ?_
   refine wp_exit ?_
   refine x_then_e ?_
   refine x_then_e ?_
   refine x_block_eq ?_
   refine x_then_n (c0 _ _ ?_)
   refine wsc (fun c0 p0 => ?_)
   refine mv o0 (fun c0 d0 => ?_)
   refine mv d0 (fun c0 o0 => ?_)
   have c0 := i0.nf
   refine k_call (xs := [.tmp 23, .tmp 24]) se o0 rfl rfl rfl (by decide) ok18 (vsame_calls _ _ c0.il _ _ _ _ _ _ (c0.g 0) (c0.g 1) (c0.g 2) (hba := (meas_chk (by assumption))) (hbb := (meas_chk (by assumption))) (hm := (sm_mu (by assumption) (by assumption) hla hlb))) ?_
   rintro o0 d0 ⟨rfl, b0⟩
   have d0 := c0.below b0.below
   refine ⟨_, rfl, fun b0 c0 => ?_⟩
   refine r_extract sv c0 rfl rfl rfl rfl (by decide) (fun b0 o0 => ?_)
   refine r_extract sv o0 rfl rfl rfl rfl (by decide) (fun b0 c0 => ?_)
   refine asg c0 (fun b0 o0 => ?_)
   refine asg o0 (fun b0 c0 => ?_)
   refine wpList_nil (x_then_n (p0 _ _ ?_))
   refine wp_ret ?_
   refine e_ret2 c0 rfl rfl rfl rfl ?_
   refine ⟨?_, d0.fr⟩
   exact ret_t2 (ret_b (by first | exact (sm_ok k0 n0).1.symm | exact (sm_ok k0 n0).2.symm)) (ret_i (by first | exact (sm_ok k0 n0).1.symm | exact (sm_ok k0 n0).2.symm))
  ·
   have d0 := h0.setb (d := 20) (b := true) rfl (by rw [(decide_eq_false n0)]; rfl)
   refine wp_cond_true (d0.ev rfl) ?_
   refine wsc (fun h0 c0 => ?_)
   refine mv d0 (fun h0 p0 => ?_)
   refine asg p0 (fun h0 d0 => ?_)
   refine asg d0 (fun h0 p0 => ?_)
   refine wpList_nil (x_then_n (c0 _ _ ?_))
   refine wp_ret ?_
   refine x_block_r ?_
   refine x_then_r ?_
   refine x_then_r ?_
   refine x_block_r ?_
   refine x_then_r ?_
   refine e_ret2 p0 rfl rfl rfl rfl ?_
   refine ⟨?_, i0.fr⟩
   exact ret_t2 (ret_b (by first | exact (sm_bad2 k0 n0).1.symm | exact (sm_bad2 k0 n0).2.symm)) (ret_i (by first | exact (sm_bad2 k0 n0).1.symm | exact (sm_bad2 k0 n0).2.symm))
 ·
  have n0 := j0.setb (d := 20) (b := true) rfl (by rw [(decide_eq_false k0)]; rfl)
  refine wp_cond_true (n0.ev rfl) ?_
  refine wsc (fun j0 i0 => ?_)
  refine mv n0 (fun j0 p0 => ?_)
  refine asg p0 (fun j0 n0 => ?_)
  refine asg n0 (fun j0 p0 => ?_)
  refine wpList_nil (x_then_n (i0 _ _ ?_))
  refine wp_ret ?_
  refine x_block_r ?_
  refine x_then_r ?_
  refine x_then_r ?_
  refine x_block_r ?_
  refine x_then_r ?_
  refine e_ret2 p0 rfl rfl rfl rfl ?_
  refine ⟨?_, m0.fr⟩
  exact ret_t2 (ret_b (by first | exact (sm_bad k0).1.symm | exact (sm_bad k0).2.symm)) (ret_i (by first | exact (sm_bad k0).1.symm | exact (sm_bad k0).2.symm))
end Go.Proofs.YthdemmcfnpmmiaaDoor
/- Contracts of functions, one theorem each: what the call returns, and that nothing old is changed. Printed by gen.py. -/
namespace Go.Proofs.YthdemmcfnpmmiaaDoor
open Go Go.RowKit
set_option linter.unusedSimpArgs false
set_option linter.unusedVariables false
set_option maxRecDepth 100000 in
set_option maxHeartbeats 1000000 in
theorem rlevel_calls (w0 : World) (Z : Nat → Prop) (hZ : ∀ k, Z k → k < w0.heap.size) (n : Int)  :
    Calls Tryd.prog 44 [.int .i64 n].toArray w0 (fun e w' => e = .returned (.bool (decide (0 ≤ n) && decide (n ≤ 9))) ∧ Fr none_ w0 w') := by
 have b0 := s0 (M := none_) hZ zn
 refine c_enter Tryd.func44 rfl Tryd.ntmps44 rfl (fun c0 d0 => ?_)
 refine wsc (fun c0 f0 => ?_)
 refine asg d0 (fun c0 h0 => ?_)
 refine wpList_nil (x_then_n (f0 _ _ ?_))
 refine wsc (fun f0 c0 => ?_)
 refine mv h0 (fun f0 d0 => ?_)
 refine r_geq sv d0 rfl rfl rfl rfl (by decide) (fun f0 h0 => ?_)
 refine mv h0 (fun f0 d0 => ?_)
 refine l_join (fun ga gw => Reg ga 9 [(2, .bool false), (8, .bool ((decide (0 ≤ (n))) && (decide ((n) ≤ 9)))), (1000000, .bool false)] ∧ St w0 Z none_ gw [] []) 3 ?_ ?_
 ·
  rcases Decidable.em (0 ≤ (n)) with f0 | f0
  ·
   have h0 := d0.setb (d := 5) (b := true) rfl (decide_eq_true f0)
   refine r_move (st_listV_w (wt h0)) h0 rfl rfl rfl (by decide) (fun i0 j0 => ?_)
   refine r_leq (st_listV_w (wt j0)) j0 rfl rfl rfl rfl (by decide) (fun i0 h0 => ?_)
   refine r_pick_t sv h0 rfl rfl rfl rfl (by decide) (fun i0 j0 => ?_)
   refine wpList_nil ?_
   exact x_then_n ⟨(j0.sub (rc rfl (rc (rb rfl (by (simp only [decide_eq_true f0, if_pos f0, bl]; done))) (rc rfl rnl)))), b0⟩
  ·
   have j0 := d0.setb (d := 5) (b := false) rfl (decide_eq_false f0)
   refine sps j0 (wff j0) (fun d0 i0 => ?_)
   refine sps i0 (wff i0) (fun d0 j0 => ?_)
   refine r_pick_f sv j0 rfl rfl rfl rfl (by decide) (fun d0 i0 => ?_)
   refine wpList_nil ?_
   exact x_then_n ⟨(i0.sub (rc rfl (rc (rb rfl (by (simp only [decide_eq_false f0, if_neg f0, bl]; done))) (rc rfl rnl)))), b0⟩
 rintro i0 f0 ⟨b0, d0⟩
 refine asg b0 (fun f0 i0 => ?_)
 refine wpList_nil (x_then_n (c0 _ _ ?_))
 refine wp_ret ?_
 refine e_ret1 i0 rfl rfl rfl ?_
 refine ⟨?_, d0.fr⟩
 exact congrArg Ending.returned (ret_b (by rfl))
set_option maxRecDepth 100000 in
set_option maxHeartbeats 1000000 in
theorem rlvCheck_calls (w0 : World) (Z : Nat → Prop) (hZ : ∀ k, Z k → k < w0.heap.size) (n : Int)  :
    Calls Tryd.prog 37 [.int .i64 n].toArray w0 (fun e w' => e = .returned (.int .i64 (lvChk n)) ∧ Fr none_ w0 w') := by
 have b0 := s0 (M := none_) hZ zn
 refine c_enter Tryd.func37 rfl Tryd.ntmps37 rfl (fun c0 d0 => ?_)
 refine wsc (fun c0 f0 => ?_)
 refine asg d0 (fun c0 h0 => ?_)
 refine wpList_nil (x_then_n (f0 _ _ ?_))
 refine wp_seq_k (fun f0 c0 => ?_)
 refine wsc (fun f0 d0 => ?_)
 refine mv h0 (fun f0 i0 => ?_)
 have f0 := b0.nf
 refine k_call (xs := [.tmp 3]) se i0 rfl rfl rfl (by decide) ok44 (rlevel_calls _ _ f0.il (n)) ?_
 rintro i0 b0 ⟨rfl, h0⟩
 have b0 := f0.below h0.below
 refine ⟨_, rfl, fun h0 f0 => ?_⟩
 refine r_not sv f0 rfl rfl rfl (by decide) (fun h0 i0 => ?_)
 refine wpList_nil (x_then_n (d0 _ _ ?_))
 rcases Bool.eq_false_or_eq_true (decide (0 ≤ (n)) && decide ((n) ≤ 9)) with d0 | d0
 ·
  have h0 := and_tl d0
  have f0 := of_decide_eq_true h0
  have h0 := and_tr d0
  have j0 := of_decide_eq_true h0
  have h0 := i0.setb (d := 5) (b := false) rfl (by rw [d0]; rfl)
  refine wp_cond_false (h0.ev rfl) ?_
  refine wp_skip ?_
  refine x_then_n (c0 _ _ ?_)
  refine wsc (fun c0 k0 => ?_)
  refine asg h0 (fun c0 m0 => ?_)
  refine wpList_nil (x_then_n (k0 _ _ ?_))
  refine wp_ret ?_
  refine e_ret1 m0 rfl rfl rfl ?_
  refine ⟨?_, b0.fr⟩
  exact congrArg Ending.returned (ret_i (by have m0 := d0; (try simp at m0); have k0 := f0; (try simp at k0); have c0 := j0; (try simp at c0);  unfold lvChk; (try split) <;> first | rfl | omega))
 ·
  have c0 := d0
  try simp only [Bool.or_eq_true, Bool.and_eq_true, Bool.not_eq_true', Bool.not_eq_false', decide_eq_true_eq, decide_eq_false_iff_not, Bool.or_eq_false_iff, Bool.and_eq_false_iff] at c0
  have c0 := i0.setb (d := 5) (b := true) rfl (by rw [d0]; rfl)
  refine wp_cond_true (c0.ev rfl) ?_
  refine wsc (fun i0 k0 => ?_)
  refine asg c0 (fun i0 j0 => ?_)
  refine wpList_nil (x_then_n (k0 _ _ ?_))
  refine wp_ret ?_
  refine x_then_r ?_
  refine e_ret1 j0 rfl rfl rfl ?_
  refine ⟨?_, b0.fr⟩
  exact congrArg Ending.returned (ret_i (by have m0 := d0; (try simp at m0);  unfold lvChk; (try split) <;> first | rfl | omega))
set_option maxRecDepth 100000 in
set_option maxHeartbeats 1000000 in
theorem rletter_calls (w0 : World) (Z : Nat → Prop) (hZ : ∀ k, Z k → k < w0.heap.size) (c : Nat)  :
    Calls Tryd.prog 43 [.int .u8 ((c : Nat) : Int)].toArray w0 (fun e w' => e = .returned (.bool (letN c)) ∧ Fr none_ w0 w') := by
 have b0 := s0 (M := none_) hZ zn
 refine c_enter Tryd.func43 rfl Tryd.ntmps43 rfl (fun c0 d0 => ?_)
 refine wsc (fun c0 f0 => ?_)
 refine asg d0 (fun c0 h0 => ?_)
 refine wpList_nil (x_then_n (f0 _ _ ?_))
 refine wsc (fun f0 c0 => ?_)
 refine mv h0 (fun f0 d0 => ?_)
 refine r_geq sv d0 rfl rfl rfl rfl (by decide) (fun f0 h0 => ?_)
 refine mv h0 (fun f0 d0 => ?_)
 refine l_join (fun ga gw => Reg ga 21 [(0, .int .u8 ((c : Nat) : Int)), (2, .bool false), (8, .bool ((decide (97 ≤ ((c : Nat) : Int))) && (decide (((c : Nat) : Int) ≤ 122)))), (1000000, .bool false)] ∧ St w0 Z none_ gw [] []) 3 ?_ ?_
 ·
  rcases Decidable.em (97 ≤ ((c : Nat) : Int)) with f0 | f0
  ·
   have h0 := d0.setb (d := 5) (b := true) rfl (decide_eq_true f0)
   refine r_move (st_listV_w (wt h0)) h0 rfl rfl rfl (by decide) (fun i0 j0 => ?_)
   refine r_leq (st_listV_w (wt j0)) j0 rfl rfl rfl rfl (by decide) (fun i0 h0 => ?_)
   refine r_pick_t sv h0 rfl rfl rfl rfl (by decide) (fun i0 j0 => ?_)
   refine wpList_nil ?_
   exact x_then_n ⟨(j0.sub (rc rfl (rc rfl (rc (rb rfl (by (simp only [decide_eq_true f0, if_pos f0, bl]; done))) (rc rfl rnl))))), b0⟩
  ·
   have j0 := d0.setb (d := 5) (b := false) rfl (decide_eq_false f0)
   refine sps j0 (wff j0) (fun d0 i0 => ?_)
   refine sps i0 (wff i0) (fun d0 j0 => ?_)
   refine r_pick_f sv j0 rfl rfl rfl rfl (by decide) (fun d0 i0 => ?_)
   refine wpList_nil ?_
   exact x_then_n ⟨(i0.sub (rc rfl (rc rfl (rc (rb rfl (by (simp only [decide_eq_false f0, if_neg f0, bl]; done))) (rc rfl rnl))))), b0⟩
 rintro i0 f0 ⟨b0, d0⟩
 refine mv b0 (fun f0 i0 => ?_)
 refine l_join (fun ga gw => Reg ga 21 [(0, .int .u8 ((c : Nat) : Int)), (2, .bool false), (16, .bool (((decide (97 ≤ ((c : Nat) : Int))) && (decide (((c : Nat) : Int) ≤ 122))) || ((decide (65 ≤ ((c : Nat) : Int))) && (decide (((c : Nat) : Int) ≤ 90))))), (1000000, .bool false)] ∧ St w0 Z none_ gw [] []) 7 ?_ ?_
 ·
  rcases Bool.eq_false_or_eq_true (((decide (97 ≤ ((c : Nat) : Int))) && (decide (((c : Nat) : Int) ≤ 122)))) with f0 | f0
  ·
   have b0 := and_tl f0
   have j0 := of_decide_eq_true b0
   have j0 := and_tr f0
   have b0 := of_decide_eq_true j0
   have b0 := i0.setb (d := 9) (b := true) rfl f0
   refine sps b0 (wff b0) (fun j0 h0 => ?_)
   refine sps h0 (wff h0) (fun j0 b0 => ?_)
   refine sps b0 (wff b0) (fun j0 h0 => ?_)
   refine sps h0 (wu h0) (fun j0 b0 => ?_)
   refine sps b0 (wu b0) (fun j0 h0 => ?_)
   refine sps h0 (wff h0) (fun j0 b0 => ?_)
   refine r_pick_t sv b0 rfl rfl rfl rfl (by decide) (fun j0 h0 => ?_)
   refine wpList_nil ?_
   exact x_then_n ⟨(h0.sub (rc rfl (rc rfl (rc (rb rfl (by (simp only [f0, bl]; done))) (rc rfl rnl))))), d0⟩
  ·
   have h0 := f0
   try simp only [Bool.or_eq_true, Bool.and_eq_true, Bool.not_eq_true', Bool.not_eq_false', decide_eq_true_eq, decide_eq_false_iff_not, Bool.or_eq_false_iff, Bool.and_eq_false_iff] at h0
   have h0 := i0.setb (d := 9) (b := false) rfl f0
   refine r_move (st_listV_w (wt h0)) h0 rfl rfl rfl (by decide) (fun i0 j0 => ?_)
   refine r_geq (st_listV_w (wt j0)) j0 rfl rfl rfl rfl (by decide) (fun i0 h0 => ?_)
   refine r_move (st_listV_w (wt h0)) h0 rfl rfl rfl (by decide) (fun i0 j0 => ?_)
   rcases Decidable.em (65 ≤ ((c : Nat) : Int)) with i0 | i0
   ·
    have h0 := j0.setb (d := 12) (b := true) rfl (decide_eq_true i0)
    refine r_move (st_listV_w (wt h0)) h0 rfl rfl rfl (by decide) (fun b0 k0 => ?_)
    refine r_leq (st_listV_w (wt k0)) k0 rfl rfl rfl rfl (by decide) (fun b0 h0 => ?_)
    refine r_pick_t (st_listV_w (wt h0)) h0 rfl rfl rfl rfl (by decide) (fun b0 k0 => ?_)
    refine r_pick_f sv k0 rfl rfl rfl rfl (by decide) (fun b0 h0 => ?_)
    refine wpList_nil ?_
    exact x_then_n ⟨(h0.sub (rc rfl (rc rfl (rc (rb rfl (by (simp only [f0, decide_eq_true i0, if_pos i0, bl]; done))) (rc rfl rnl))))), d0⟩
   ·
    have h0 := j0.setb (d := 12) (b := false) rfl (decide_eq_false i0)
    refine sps h0 (wff h0) (fun j0 b0 => ?_)
    refine sps b0 (wff b0) (fun j0 h0 => ?_)
    refine r_pick_f (st_listV_w (wt h0)) h0 rfl rfl rfl rfl (by decide) (fun j0 b0 => ?_)
    refine r_pick_f sv b0 rfl rfl rfl rfl (by decide) (fun j0 h0 => ?_)
    refine wpList_nil ?_
    exact x_then_n ⟨(h0.sub (rc rfl (rc rfl (rc (rb rfl (by (simp only [f0, decide_eq_false i0, if_neg i0, bl]; done))) (rc rfl rnl))))), d0⟩
 rintro h0 i0 ⟨f0, d0⟩
 refine mv f0 (fun i0 h0 => ?_)
 refine l_join (fun ga gw => Reg ga 21 [(2, .bool false), (20, .bool ((((decide (97 ≤ ((c : Nat) : Int))) && (decide (((c : Nat) : Int) ≤ 122))) || ((decide (65 ≤ ((c : Nat) : Int))) && (decide (((c : Nat) : Int) ≤ 90)))) || (decide (((c : Nat) : Int) = 95)))), (1000000, .bool false)] ∧ St w0 Z none_ gw [] []) 3 ?_ ?_
 ·
  rcases Bool.eq_false_or_eq_true ((((decide (97 ≤ ((c : Nat) : Int))) && (decide (((c : Nat) : Int) ≤ 122))) || ((decide (65 ≤ ((c : Nat) : Int))) && (decide (((c : Nat) : Int) ≤ 90))))) with i0 | i0
  ·
   have f0 := i0
   try simp only [Bool.or_eq_true, Bool.and_eq_true, Bool.not_eq_true', Bool.not_eq_false', decide_eq_true_eq, decide_eq_false_iff_not, Bool.or_eq_false_iff, Bool.and_eq_false_iff] at f0
   have f0 := h0.setb (d := 17) (b := true) rfl i0
   refine sps f0 (wff f0) (fun j0 b0 => ?_)
   refine sps b0 (wff b0) (fun j0 f0 => ?_)
   refine r_pick_t sv f0 rfl rfl rfl rfl (by decide) (fun j0 b0 => ?_)
   refine wpList_nil ?_
   exact x_then_n ⟨(b0.sub (rc rfl (rc (rb rfl (by (simp only [i0, bl]; done))) (rc rfl rnl)))), d0⟩
  ·
   have b0 := or_fl i0
   have j0 := b0
   try simp only [Bool.or_eq_true, Bool.and_eq_true, Bool.not_eq_true', Bool.not_eq_false', decide_eq_true_eq, decide_eq_false_iff_not, Bool.or_eq_false_iff, Bool.and_eq_false_iff] at j0
   have j0 := or_fr i0
   have b0 := j0
   try simp only [Bool.or_eq_true, Bool.and_eq_true, Bool.not_eq_true', Bool.not_eq_false', decide_eq_true_eq, decide_eq_false_iff_not, Bool.or_eq_false_iff, Bool.and_eq_false_iff] at b0
   have b0 := h0.setb (d := 17) (b := false) rfl i0
   refine r_move (st_listV_w (wt b0)) b0 rfl rfl rfl (by decide) (fun h0 j0 => ?_)
   refine r_eql (st_listV_w (wt j0)) j0 rfl rfl rfl rfl (by decide) (fun h0 b0 => ?_)
   refine r_pick_f sv b0 rfl rfl rfl rfl (by decide) (fun h0 j0 => ?_)
   refine wpList_nil ?_
   exact x_then_n ⟨(j0.sub (rc rfl (rc (rb rfl (by (simp only [i0, bl]; done))) (rc rfl rnl)))), d0⟩
 rintro j0 i0 ⟨d0, h0⟩
 refine asg d0 (fun i0 j0 => ?_)
 refine wpList_nil (x_then_n (c0 _ _ ?_))
 refine wp_ret ?_
 refine e_ret1 j0 rfl rfl rfl ?_
 refine ⟨?_, h0.fr⟩
 exact congrArg Ending.returned (ret_b (by rfl))
set_option maxRecDepth 100000 in
set_option maxHeartbeats 1000000 in
theorem rname_calls (w0 : World) (Z : Nat → Prop) (hZ : ∀ k, Z k → k < w0.heap.size) (s : ByteArray) (hs : s.size ≤ 9223372036854775807 := by first | assumption | omega | (simp; done) | (simp; omega)) :
    Calls Tryd.prog 36 [.string s].toArray w0 (fun e w' => e = .returned (.bool (nameOk s)) ∧ Fr none_ w0 w') := by
 have b0 := s0 (M := none_) hZ zn
 refine c_enter Tryd.func36 rfl Tryd.ntmps36 rfl (fun c0 d0 => ?_)
 refine wsc (fun c0 f0 => ?_)
 refine asg d0 (fun c0 h0 => ?_)
 refine wpList_nil (x_then_n (f0 _ _ ?_))
 refine wp_seq_k (fun f0 c0 => ?_)
 refine wsc (fun f0 d0 => ?_)
 refine mv h0 (fun f0 i0 => ?_)
 refine r_lenS sv i0 rfl rfl rfl rfl Tryd.underlying9 (by decide) (fun f0 h0 => ?_)
 refine r_lss sv h0 rfl rfl rfl rfl (by decide) (fun f0 i0 => ?_)
 refine mv i0 (fun f0 h0 => ?_)
 refine l_join (fun ga gw => Reg ga 41 [(0, .string s), (2, .bool false), (11, .bool ((decide (((s.size : Nat) : Int) < 1)) || (decide (16 < ((s.size : Nat) : Int))))), (1000000, .bool false)] ∧ St w0 Z none_ gw [] []) 4 ?_ ?_
 ·
  rcases Decidable.em (((s.size : Nat) : Int) < 1) with f0 | f0
  ·
   have i0 := h0.setb (d := 7) (b := true) rfl (decide_eq_true f0)
   refine sps i0 (wff i0) (fun j0 k0 => ?_)
   refine sps k0 (wff k0) (fun j0 i0 => ?_)
   refine sps i0 (wff i0) (fun j0 k0 => ?_)
   refine r_pick_t sv k0 rfl rfl rfl rfl (by decide) (fun j0 i0 => ?_)
   refine wpList_nil ?_
   exact x_then_n ⟨(i0.sub (rc rfl (rc rfl (rc (rb rfl (by (simp only [decide_eq_true f0, if_pos f0, bl]; done))) (rc rfl rnl))))), b0⟩
  ·
   have i0 := h0.setb (d := 7) (b := false) rfl (decide_eq_false f0)
   refine r_move (st_listV_w (wt i0)) i0 rfl rfl rfl (by decide) (fun h0 j0 => ?_)
   refine r_lenS (st_listV_w (wt j0)) j0 rfl rfl rfl rfl Tryd.underlying9 (by decide) (fun h0 i0 => ?_)
   refine r_gtr (st_listV_w (wt i0)) i0 rfl rfl rfl rfl (by decide) (fun h0 j0 => ?_)
   refine r_pick_f sv j0 rfl rfl rfl rfl (by decide) (fun h0 i0 => ?_)
   refine wpList_nil ?_
   exact x_then_n ⟨(i0.sub (rc rfl (rc rfl (rc (rb rfl (by (simp only [decide_eq_false f0, if_neg f0, bl]; done))) (rc rfl rnl))))), b0⟩
 rintro i0 f0 ⟨b0, h0⟩
 refine mv b0 (fun f0 i0 => ?_)
 refine l_join (fun ga gw => Reg ga 41 [(0, .string s), (2, .bool false), (17, .bool (((decide (((s.size : Nat) : Int) < 1)) || (decide (16 < ((s.size : Nat) : Int)))) || (!(letN (byteAt s 0))))), (1000000, .bool false)] ∧ St w0 Z none_ gw [] []) 5 ?_ ?_
 ·
  rcases Bool.eq_false_or_eq_true (((decide (((s.size : Nat) : Int) < 1)) || (decide (16 < ((s.size : Nat) : Int))))) with f0 | f0
  ·
   have b0 := f0
   try simp only [Bool.or_eq_true, Bool.and_eq_true, Bool.not_eq_true', Bool.not_eq_false', decide_eq_true_eq, decide_eq_false_iff_not, Bool.or_eq_false_iff, Bool.and_eq_false_iff] at b0
   have b0 := i0.setb (d := 12) (b := true) rfl f0
   refine sps b0 (wff b0) (fun j0 k0 => ?_)
   refine sps k0 (wff k0) (fun j0 b0 => ?_)
   refine sps b0 (wff b0) (fun j0 k0 => ?_)
   refine sps k0 (wff k0) (fun j0 b0 => ?_)
   refine r_pick_t sv b0 rfl rfl rfl rfl (by decide) (fun j0 k0 => ?_)
   refine wpList_nil ?_
   exact x_then_n ⟨(k0.sub (rc rfl (rc rfl (rc (rb rfl (by (simp only [f0, bl]; done))) (rc rfl rnl))))), h0⟩
  ·
   have k0 := or_fl f0
   have j0 := of_decide_eq_false k0
   have j0 := or_fr f0
   have k0 := of_decide_eq_false j0
   have k0 := i0.setb (d := 12) (b := false) rfl f0
   refine r_move (st_listV_w (wt k0)) k0 rfl rfl rfl (by decide) (fun i0 j0 => ?_)
   refine r_byte (i := 0) (st_listV_w (wt j0)) j0 rfl rfl rfl rfl Tryd.underlying9 (by omega) (by omega) (by decide) (fun i0 k0 => ?_)
   have i0 := h0.nf
   refine k_call (xs := [.tmp 14]) (st_list_w (wt k0)) k0 rfl rfl rfl (by decide) ok43 (rletter_calls _ _ i0.il (byteAt s 0)) ?_
   rintro k0 h0 ⟨rfl, j0⟩
   have h0 := i0.below j0.below
   refine ⟨_, rfl, fun j0 i0 => ?_⟩
   refine r_not (st_listV_w (wt i0)) i0 rfl rfl rfl (by decide) (fun j0 k0 => ?_)
   refine r_pick_f sv k0 rfl rfl rfl rfl (by decide) (fun j0 i0 => ?_)
   refine wpList_nil ?_
   exact x_then_n ⟨(i0.sub (rc rfl (rc rfl (rc (rb rfl (by (simp only [f0, bl]; done))) (rc rfl rnl))))), h0⟩
 rintro i0 h0 ⟨f0, j0⟩
 refine wpList_nil (x_then_n (d0 _ _ ?_))
 rcases Bool.eq_false_or_eq_true ((((decide (((s.size : Nat) : Int) < 1)) || (decide (16 < ((s.size : Nat) : Int)))) || (!(letN (byteAt s 0))))) with d0 | d0
 ·
  have h0 := d0
  try simp only [Bool.or_eq_true, Bool.and_eq_true, Bool.not_eq_true', Bool.not_eq_false', decide_eq_true_eq, decide_eq_false_iff_not, Bool.or_eq_false_iff, Bool.and_eq_false_iff] at h0
  have i0 := f0.setb (d := 17) (b := true) rfl d0
  refine wp_cond_true (i0.ev rfl) ?_
  refine wsc (fun k0 b0 => ?_)
  refine asg i0 (fun k0 m0 => ?_)
  refine wpList_nil (x_then_n (b0 _ _ ?_))
  refine wp_ret ?_
  refine x_then_r ?_
  refine e_ret1 m0 rfl rfl rfl ?_
  refine ⟨?_, j0.fr⟩
  exact congrArg Ending.returned (ret_b (by exact (rname_bad0 (by rcases h0 with h | h; exact .inl (by omega); exact .inr h)).symm))
 ·
  have h0 := or_fl d0
  have m0 := or_fl h0
  have b0 := of_decide_eq_false m0
  have b0 := or_fr h0
  have h0 := of_decide_eq_false b0
  have h0 := or_fr d0
  have b0 := not_f h0
  have b0 := f0.setb (d := 17) (b := false) rfl d0
  refine wp_cond_false (b0.ev rfl) ?_
  refine wp_skip ?_
  refine x_then_n (c0 _ _ ?_)
  refine wp_seq_k (fun c0 d0 => ?_)
  refine wsc (fun c0 f0 => ?_)
  refine asg b0 (fun c0 h0 => ?_)
  refine wpList_nil (x_then_n (f0 _ _ ?_))
  refine wp_block ?_
  refine wp_loop_ghost (fun gn ga gw => ∃ k : Nat, (Reg ga 41 [(0, .string s), (1000000, .bool false), (3, .int .i64 ((k : Nat) : Int))]) ∧ (St w0 Z none_ gw [] []) ∧ (k ≤ s.size) ∧ (nameTo s k) ∧ (s.size - k) = gn) _ ⟨0, (h0.sub (rc rfl (rc rfl (rc rfl rnl)))), j0, by omega, nameTo_zero s, rfl⟩ ?_
  rintro h0 j0 f0 ⟨k, c0, b0, hk, hi, m0⟩
  refine wp_seq_k (fun m0 f0 => ?_)
  refine wsc (fun m0 j0 => ?_)
  refine mv c0 (fun m0 h0 => ?_)
  refine mv h0 (fun m0 c0 => ?_)
  refine r_lenS sv c0 rfl rfl rfl rfl Tryd.underlying9 (by decide) (fun m0 h0 => ?_)
  refine r_lss sv h0 rfl rfl rfl rfl (by decide) (fun m0 c0 => ?_)
  refine wpList_nil (x_then_n (j0 _ _ ?_))
  rcases Decidable.em (((k : Nat) : Int) < ((s.size : Nat) : Int)) with j0 | j0
  ·
   have m0 := c0.setb (d := 21) (b := true) rfl (decide_eq_true j0)
   refine wp_cond_true (m0.ev rfl) ?_
   refine wp_skip ?_
   refine x_then_n (f0 _ _ ?_)
   refine wp_seq_k (fun f0 h0 => ?_)
   refine wp_block ?_
   refine wsc (fun f0 k0 => ?_)
   refine mv m0 (fun f0 i0 => ?_)
   refine mv i0 (fun f0 m0 => ?_)
   refine r_byte (i := k) sv m0 rfl rfl rfl rfl Tryd.underlying9 (by omega) (by omega) (by decide) (fun f0 i0 => ?_)
   have f0 := b0.nf
   refine k_call (xs := [.tmp 26]) se i0 rfl rfl rfl (by decide) ok43 (rletter_calls _ _ f0.il (byteAt s k)) ?_
   rintro i0 m0 ⟨rfl, n0⟩
   have m0 := f0.below n0.below
   refine ⟨_, rfl, fun n0 f0 => ?_⟩
   refine r_not sv f0 rfl rfl rfl (by decide) (fun n0 i0 => ?_)
   refine mv i0 (fun n0 f0 => ?_)
   refine l_join (fun ga gw => Reg ga 41 [(0, .string s), (3, .int .i64 ((k : Nat) : Int)), (40, .bool ((!(letN (byteAt s k))) && ((decide (((byteAt s k : Nat) : Int) < 48)) || (decide (57 < ((byteAt s k : Nat) : Int)))))), (1000000, .bool false)] ∧ St w0 Z none_ gw [] []) 11 ?_ ?_
   ·
    rcases Bool.eq_false_or_eq_true (letN (byteAt s k)) with n0 | n0
    ·
     have i0 := f0.setb (d := 29) (b := false) rfl (by rw [n0]; rfl)
     refine sps i0 (wff i0) (fun o0 p0 => ?_)
     refine sps p0 (wff p0) (fun o0 i0 => ?_)
     refine sps i0 (wff i0) (fun o0 p0 => ?_)
     refine sps p0 (wff p0) (fun o0 i0 => ?_)
     refine sps i0 (wff i0) (fun o0 p0 => ?_)
     refine sps p0 (wu p0) (fun o0 i0 => ?_)
     refine sps i0 (wu i0) (fun o0 p0 => ?_)
     refine sps p0 (wu p0) (fun o0 i0 => ?_)
     refine sps i0 (wu i0) (fun o0 p0 => ?_)
     refine sps p0 (wff p0) (fun o0 i0 => ?_)
     refine r_pick_f sv i0 rfl rfl rfl rfl (by decide) (fun o0 p0 => ?_)
     refine wpList_nil ?_
     exact x_then_n ⟨(p0.sub (rc rfl (rc rfl (rc (rb rfl (by (simp only [n0, bl]; done))) (rc rfl rnl))))), m0⟩
    ·
     have p0 := f0.setb (d := 29) (b := true) rfl (by rw [n0]; rfl)
     refine r_move (st_listV_w (wt p0)) p0 rfl rfl rfl (by decide) (fun f0 o0 => ?_)
     refine r_move (st_listV_w (wt o0)) o0 rfl rfl rfl (by decide) (fun f0 p0 => ?_)
     refine r_byte (i := k) (st_listV_w (wt p0)) p0 rfl rfl rfl rfl Tryd.underlying9 (by omega) (by omega) (by decide) (fun f0 o0 => ?_)
     refine r_lss (st_listV_w (wt o0)) o0 rfl rfl rfl rfl (by decide) (fun f0 p0 => ?_)
     refine r_move (st_listV_w (wt p0)) p0 rfl rfl rfl (by decide) (fun f0 o0 => ?_)
     rcases Decidable.em (((byteAt s k : Nat) : Int) < 48) with f0 | f0
     ·
      have p0 := o0.setb (d := 34) (b := true) rfl (decide_eq_true f0)
      refine sps p0 (wff p0) (fun i0 q0 => ?_)
      refine sps q0 (wff q0) (fun i0 p0 => ?_)
      refine sps p0 (wff p0) (fun i0 q0 => ?_)
      refine sps q0 (wff q0) (fun i0 p0 => ?_)
      refine r_pick_t (st_listV_w (wt p0)) p0 rfl rfl rfl rfl (by decide) (fun i0 q0 => ?_)
      refine r_pick_t sv q0 rfl rfl rfl rfl (by decide) (fun i0 p0 => ?_)
      refine wpList_nil ?_
      exact x_then_n ⟨(p0.sub (rc rfl (rc rfl (rc (rb rfl (by (simp only [n0, decide_eq_true f0, if_pos f0, bl]; done))) (rc rfl rnl))))), m0⟩
     ·
      have p0 := o0.setb (d := 34) (b := false) rfl (decide_eq_false f0)
      refine r_move (st_listV_w (wt p0)) p0 rfl rfl rfl (by decide) (fun o0 i0 => ?_)
      refine r_move (st_listV_w (wt i0)) i0 rfl rfl rfl (by decide) (fun o0 p0 => ?_)
      refine r_byte (i := k) (st_listV_w (wt p0)) p0 rfl rfl rfl rfl Tryd.underlying9 (by omega) (by omega) (by decide) (fun o0 i0 => ?_)
      refine r_gtr (st_listV_w (wt i0)) i0 rfl rfl rfl rfl (by decide) (fun o0 p0 => ?_)
      refine r_pick_f (st_listV_w (wt p0)) p0 rfl rfl rfl rfl (by decide) (fun o0 i0 => ?_)
      refine r_pick_t sv i0 rfl rfl rfl rfl (by decide) (fun o0 p0 => ?_)
      refine wpList_nil ?_
      exact x_then_n ⟨(p0.sub (rc rfl (rc rfl (rc (rb rfl (by (simp only [n0, decide_eq_false f0, if_neg f0, bl]; done))) (rc rfl rnl))))), m0⟩
   rintro p0 f0 ⟨n0, m0⟩
   refine wpList_nil (x_then_n (k0 _ _ ?_))
   rcases Bool.eq_false_or_eq_true (((!(letN (byteAt s k))) && ((decide (((byteAt s k : Nat) : Int) < 48)) || (decide (57 < ((byteAt s k : Nat) : Int)))))) with k0 | k0
   ·
    have f0 := and_tl k0
    have p0 := not_t f0
    have p0 := and_tr k0
    have f0 := p0
    try simp only [Bool.or_eq_true, Bool.and_eq_true, Bool.not_eq_true', Bool.not_eq_false', decide_eq_true_eq, decide_eq_false_iff_not, Bool.or_eq_false_iff, Bool.and_eq_false_iff] at f0
    have f0 := n0.setb (d := 40) (b := true) rfl k0
    refine wp_cond_true (f0.ev rfl) ?_
    refine wsc (fun p0 o0 => ?_)
    refine asg f0 (fun p0 i0 => ?_)
    refine wpList_nil (x_then_n (o0 _ _ ?_))
    refine wp_ret ?_
    refine x_block_r ?_
    refine x_then_r ?_
    refine x_then_r ?_
    refine x_block_r ?_
    refine x_then_r ?_
    refine e_ret1 i0 rfl rfl rfl ?_
    refine ⟨?_, m0.fr⟩
    exact congrArg Ending.returned (ret_b (by exact (rname_bad (k := k) (by omega) (by assumption) (by omega)).symm))
   ·
    have i0 := k0
    try simp only [Bool.or_eq_true, Bool.and_eq_true, Bool.not_eq_true', Bool.not_eq_false', decide_eq_true_eq, decide_eq_false_iff_not, Bool.or_eq_false_iff, Bool.and_eq_false_iff] at i0
    have o0 := n0.setb (d := 40) (b := false) rfl k0
    refine wp_cond_false (o0.ev rfl) ?_
    refine wp_skip ?_
    refine x_block_n ?_
    refine x_then_n (h0 _ _ ?_)
    refine c_region ?_
    refine mv o0 (fun h0 k0 => ?_)
    refine r_add (z := ((k + 1 : Nat) : Int)) sv k0 rfl rfl rfl rfl (by decide) (by omega) (by omega) (by omega) (fun h0 o0 => ?_)
    refine asg o0 (fun h0 k0 => ?_)
    refine wpList_nil ?_
    exact ⟨_, by omega, k + 1, (k0.sub (rc rfl (rc rfl (rc rfl rnl)))), m0, by omega, nameTo_step hi (rname_step (by assumption) (by rcases i0 with h | h; exact .inl h; exact .inr (by omega))), rfl⟩
  ·
   have k0 := c0.setb (d := 21) (b := false) rfl (decide_eq_false j0)
   refine wp_cond_false (k0.ev rfl) ?_
   refine wp_exit ?_
   refine x_then_e ?_
   refine x_then_e ?_
   refine x_block_eq ?_
   refine x_then_n (d0 _ _ ?_)
   refine wsc (fun d0 j0 => ?_)
   refine asg k0 (fun d0 c0 => ?_)
   refine wpList_nil (x_then_n (j0 _ _ ?_))
   refine wp_ret ?_
   refine e_ret1 c0 rfl rfl rfl ?_
   refine ⟨?_, b0.fr⟩
   exact congrArg Ending.returned (ret_b (by exact (rname_end hi (by omega) (by omega) (by omega)).symm))
set_option maxRecDepth 100000 in
set_option maxHeartbeats 1000000 in
theorem rplain_calls (w0 : World) (Z : Nat → Prop) (hZ : ∀ k, Z k → k < w0.heap.size) (n : Nd)  :
    Calls Tryd.prog 38 [.agg #[.int .i64 (n.K), .int .i64 (n.N), .int .i64 (n.M), .string n.S]].toArray w0 (fun e w' => e = .returned (.bool (plainB n)) ∧ Fr none_ w0 w') := by
 have b0 := s0 (M := none_) hZ zn
 refine c_enter Tryd.func38 rfl Tryd.ntmps38 rfl (fun c0 d0 => ?_)
 refine wsc (fun c0 f0 => ?_)
 refine m_box (cs := [.int .i64 (n.K), .int .i64 (n.N), .int .i64 (n.M), .string n.S]) sv d0 b0 rfl rfl rfl rfl (by decide) (fun c0 h0 i0 j0 k0 => ?_)
 refine asg j0 (fun h0 c0 => ?_)
 refine wpList_nil (x_then_n (f0 _ _ ?_))
 refine wsc (fun f0 h0 => ?_)
 refine m_field (j' := 1) sv c0 rfl rfl rfl Tryd.underlying32 rfl sz3 rfl rfl (by decide) (fun f0 j0 => ?_)
 refine m_load (i := 0) sv j0 k0 rfl rfl rfl rfl rfl Tryd.underlying3 rfl (by decide) (fun f0 c0 => ?_)
 refine r_eql sv c0 rfl rfl rfl rfl (by decide) (fun f0 j0 => ?_)
 refine mv j0 (fun f0 c0 => ?_)
 refine l_join (fun ga gw => Reg ga 16 [(1, .pointer (some ⟨i0, 0, none⟩)), (2, .bool false), (10, .bool ((decide ((n.N) = 0)) && (decide ((n.M) = 0)))), (1000000, .bool false)] ∧ St w0 Z none_ gw [.box i0 32 [.int .i64 (n.K), .int .i64 (n.N), .int .i64 (n.M), .string n.S]] []) 4 ?_ ?_
 ·
  rcases Decidable.em ((n.N) = 0) with f0 | f0
  ·
   have j0 := c0.setb (d := 6) (b := true) rfl (decide_eq_true f0)
   refine m_field (j' := 2) (st_listV_w (wt j0)) j0 rfl rfl rfl Tryd.underlying32 rfl sz3 rfl rfl (by decide) (fun d0 b0 => ?_)
   refine m_load (i := 0) (st_listV_w (wt b0)) b0 k0 rfl rfl rfl rfl rfl Tryd.underlying3 rfl (by decide) (fun d0 j0 => ?_)
   refine r_eql (st_listV_w (wt j0)) j0 rfl rfl rfl rfl (by decide) (fun d0 b0 => ?_)
   refine r_pick_t sv b0 rfl rfl rfl rfl (by decide) (fun d0 j0 => ?_)
   refine wpList_nil ?_
   exact x_then_n ⟨(j0.sub (rc rfl (rc rfl (rc (rb rfl (by (simp only [decide_eq_true f0, if_pos f0, bl]; done))) (rc rfl rnl))))), k0⟩
  ·
   have j0 := c0.setb (d := 6) (b := false) rfl (decide_eq_false f0)
   refine sps j0 (wff j0) (fun c0 d0 => ?_)
   refine sps d0 (wff d0) (fun c0 j0 => ?_)
   refine sps j0 (wff j0) (fun c0 d0 => ?_)
   refine r_pick_f sv d0 rfl rfl rfl rfl (by decide) (fun c0 j0 => ?_)
   refine wpList_nil ?_
   exact x_then_n ⟨(j0.sub (rc rfl (rc rfl (rc (rb rfl (by (simp only [decide_eq_false f0, if_neg f0, bl]; done))) (rc rfl rnl))))), k0⟩
 rintro j0 f0 ⟨k0, c0⟩
 refine mv k0 (fun f0 j0 => ?_)
 refine l_join (fun ga gw => Reg ga 16 [(2, .bool false), (15, .bool (((decide ((n.N) = 0)) && (decide ((n.M) = 0))) && (decide (n.S = (⟨#[]⟩ : ByteArray))))), (1000000, .bool false)] ∧ St w0 Z none_ gw [.box i0 32 [.int .i64 (n.K), .int .i64 (n.N), .int .i64 (n.M), .string n.S]] []) 4 ?_ ?_
 ·
  rcases Bool.eq_false_or_eq_true (((decide ((n.N) = 0)) && (decide ((n.M) = 0)))) with i0 | i0
  ·
   have f0 := and_tl i0
   have k0 := of_decide_eq_true f0
   have k0 := and_tr i0
   have f0 := of_decide_eq_true k0
   have f0 := j0.setb (d := 11) (b := true) rfl i0
   refine m_field (j' := 3) (st_listV_w (wt f0)) f0 rfl rfl rfl Tryd.underlying32 rfl sz9 rfl rfl (by decide) (fun k0 d0 => ?_)
   refine m_load (i := 0) (st_listV_w (wt d0)) d0 c0 rfl rfl rfl rfl rfl Tryd.underlying9 rfl (by decide) (fun k0 f0 => ?_)
   refine r_eqlS (st_listV_w (wt f0)) f0 rfl rfl rfl rfl (by decide) (fun k0 d0 => ?_)
   refine r_pick_t sv d0 rfl rfl rfl rfl (by decide) (fun k0 f0 => ?_)
   refine wpList_nil ?_
   exact x_then_n ⟨(f0.sub (rc rfl (rc (rb rfl (by (simp only [i0, bl]; done))) (rc rfl rnl)))), c0⟩
  ·
   have f0 := i0
   try simp only [Bool.or_eq_true, Bool.and_eq_true, Bool.not_eq_true', Bool.not_eq_false', decide_eq_true_eq, decide_eq_false_iff_not, Bool.or_eq_false_iff, Bool.and_eq_false_iff] at f0
   have f0 := j0.setb (d := 11) (b := false) rfl i0
   refine sps f0 (wff f0) (fun j0 k0 => ?_)
   refine sps k0 (wff k0) (fun j0 f0 => ?_)
   refine sps f0 (wff f0) (fun j0 k0 => ?_)
   refine r_pick_f sv k0 rfl rfl rfl rfl (by decide) (fun j0 f0 => ?_)
   refine wpList_nil ?_
   exact x_then_n ⟨(f0.sub (rc rfl (rc (rb rfl (by (simp only [i0, bl]; done))) (rc rfl rnl)))), c0⟩
 rintro f0 i0 ⟨c0, j0⟩
 refine asg c0 (fun i0 f0 => ?_)
 refine wpList_nil (x_then_n (h0 _ _ ?_))
 refine wp_ret ?_
 refine e_ret1 f0 rfl rfl rfl ?_
 refine ⟨?_, j0.fr⟩
 exact congrArg Ending.returned (ret_b (by rfl))
end Go.Proofs.YthdemmcfnpmmiaaDoor
/- Contracts of functions, one theorem each: what the call returns, and that nothing old is changed. Printed by gen.py. -/
namespace Go.Proofs.YthdemmcfnpmmiaaDoor
open Go Go.RowKit
set_option linter.unusedSimpArgs false
set_option linter.unusedVariables false
set_option maxRecDepth 100000 in
set_option maxHeartbeats 1000000 in
theorem rbinds_calls (w0 : World) (Z : Nat → Prop) (hZ : ∀ k, Z k → k < w0.heap.size) (n : Nd) (hs : n.S.size < 1000000 := by first | assumption | omega | (simp; done) | (simp; omega)) :
    Calls Tryd.prog 28 [.agg #[.int .i64 (n.K), .int .i64 (n.N), .int .i64 (n.M), .string n.S]].toArray w0 (fun e w' => ∃ (rA0 : Option Addr) (rc0 : Nat), e = .returned (.tuple #[.slice rA0 (bindL n).length rc0, .bool (right n)]) ∧ Fr none_ w0 w' ∧ (dRow 1 rA0 ((bindL n).length) rc0 (encIs (bindL n))).φ w' (nxt Z w0 w')) := by
 have b0 := s0 (M := none_) hZ zn
 refine c_enter Tryd.func28 rfl Tryd.ntmps28 rfl (fun c0 d0 => ?_)
 refine wsc (fun c0 f0 => ?_)
 refine m_box (cs := [.int .i64 (n.K), .int .i64 (n.N), .int .i64 (n.M), .string n.S]) sv d0 b0 rfl rfl rfl rfl (by decide) (fun c0 h0 i0 j0 k0 => ?_)
 refine asg j0 (fun h0 c0 => ?_)
 refine asg c0 (fun h0 j0 => ?_)
 refine wpList_nil (x_then_n (f0 _ _ ?_))
 refine wsc (fun f0 h0 => ?_)
 refine mbs [] [] sv j0 k0 Tryd.underlying56 zi3 (fun f0 c0 d0 b0 m0 => ?_)
 refine asg b0 (fun c0 f0 => ?_)
 refine wpList_nil (x_then_n (h0 _ _ ?_))
 refine wp_seq_k (fun h0 c0 => ?_)
 refine wsc (fun h0 b0 => ?_)
 refine m_field (j' := 0) sv f0 rfl rfl rfl Tryd.underlying32 rfl sz3 rfl rfl (by decide) (fun h0 j0 => ?_)
 refine m_load (i := 0) sv j0 m0 rfl rfl rfl rfl rfl Tryd.underlying3 rfl (by decide) (fun h0 f0 => ?_)
 refine wpList_nil (x_then_n (b0 _ _ ?_))
 refine wp_block ?_
 refine wsc (fun b0 h0 => ?_)
 refine r_eql sv f0 rfl rfl rfl rfl (by decide) (fun b0 j0 => ?_)
 refine asg j0 (fun b0 f0 => ?_)
 refine wpList_nil (x_then_n (h0 _ _ ?_))
 rcases Decidable.em ((n.K) = 0) with h0 | h0
 ·
  have b0 := f0.setb (d := 8) (b := true) rfl (decide_eq_true h0)
  refine wp_cond_true (b0.ev rfl) ?_
  refine wp_seq_k (fun j0 k0 => ?_)
  obtain ⟨j0, n0, o0⟩ := m0.agree
  refine d_reg3 (n := 21) o0 0 (pB 0 0 pn) (pan_then (pan_block (pan_then pan_body))) (fun n0 j0 p0 q0 t0 u0 => ?_)
  refine dtM 0 j0 b0 u0 (fun q0 n0 => ?_)
  refine dtF 1 1 j0 n0 u0 Tryd.underlying32 sz3 (fun q0 b0 => ?_)
  refine dtC 2 1 j0 b0 u0 Tryd.underlying3 (fun q0 n0 => ?_)
  refine dt 3 rfl j0 n0 (want_n rfl) (fun x hx => r_geq (sy n0) n0 rfl rfl rfl rfl (by decide) gt) u0 (fun q0 b0 => ?_)
  refine dtM 4 j0 b0 u0 (fun q0 n0 => ?_)
  rcases Decidable.em (0 ≤ (n.N)) with q0 | q0
  ·
   have b0 := n0.setb (d := 14) (b := true) rfl (decide_eq_true q0)
   refine dtF 5 1 j0 b0 u0 Tryd.underlying32 sz3 (fun o0 v0 => ?_) (hw := wt b0)
   refine dtC 6 1 j0 v0 u0 Tryd.underlying3 (fun o0 b0 => ?_) (hw := wt v0)
   refine dt 7 rfl j0 b0 (wt b0) (fun x hx => r_leq (sy b0) b0 rfl rfl rfl rfl (by decide) gt) u0 (fun o0 v0 => ?_)
   refine dt 8 rfl j0 v0 (want_n rfl) (fun x hx => r_pick_t (sy v0) v0 rfl rfl rfl rfl (by decide) gt) u0 (fun o0 b0 => ?_)
   refine dtM 9 j0 b0 u0 (fun o0 v0 => ?_)
   rcases Decidable.em ((n.N) ≤ 99) with o0 | o0
   ·
    have b0 := v0.setb (d := 19) (b := true) rfl (decide_eq_true o0)
    refine dtF 10 2 j0 b0 u0 Tryd.underlying32 sz3 (fun x0 y0 => ?_) (hw := wt b0)
    refine dtC 11 2 j0 y0 u0 Tryd.underlying3 (fun x0 b0 => ?_) (hw := wt y0)
    refine dt 12 rfl j0 b0 (wt b0) (fun x hx => r_eql (sy b0) b0 rfl rfl rfl rfl (by decide) gt) u0 (fun x0 y0 => ?_)
    refine dt 13 rfl j0 y0 (want_n rfl) (fun x hx => r_pick_t (sy y0) y0 rfl rfl rfl rfl (by decide) gt) u0 (fun x0 b0 => ?_)
    refine dtM 14 j0 b0 u0 (fun x0 y0 => ?_)
    rcases Decidable.em ((n.M) = 0) with x0 | x0
    ·
     have b0 := y0.setb (d := 24) (b := true) rfl (decide_eq_true x0)
     refine dtF 15 3 j0 b0 u0 Tryd.underlying32 sz9 (fun z0 b1 => ?_) (hw := wt b0)
     refine dtC 16 3 j0 b1 u0 Tryd.underlying9 (fun z0 b0 => ?_) (hw := wt b1)
     refine dt 17 rfl j0 b0 (wt b0) (fun x hx => r_eqlS (sy b0) b0 rfl rfl rfl rfl (by decide) gt) u0 (fun z0 b1 => ?_)
     refine dt 18 rfl j0 b1 (want_n rfl) (fun x hx => r_pick_t (sy b1) b1 rfl rfl rfl rfl (by decide) gt) u0 (fun z0 b0 => ?_)
     refine dtA 19 j0 b0 u0 (fun z0 b1 => ?_)
     refine dtA 20 j0 b1 u0 (fun z0 b0 => ?_)
     refine wpAnyH_done (by kernel_rfl) (p0 _ _ ?_) _
     refine x_then_n (k0 _ _ ?_)
     refine wp_ret ?_
     refine x_block_r ?_
     refine x_then_r ?_
     refine e_ret2 b0 rfl rfl rfl rfl ?_
     have b0 : bindL n = [] := by rcases (show n.K = 0 by omega) with h <;> simp [bindL, h, shp]
     rw [b0]
     have b0 := own_cap (t0.res (i := 1) rfl)
     obtain ⟨z0, b1⟩ := t0.row_data (i := 1) rfl (fun _ h => h)
     have c1 := z0.data (dRow 1 (some ⟨d0, 0, none⟩) 0 0 (encIs ([]))) ⟨b0, b1⟩
     refine ⟨(some ⟨d0, 0, none⟩), 0, ?_, c1.fr, c1.rx 1⟩
     exact ret_t2 rfl (ret_b (by (rw [(right_var (by omega))]; simp [q0, o0, x0]; done) ))
    ·
     have c1 := y0.setb (d := 24) (b := false) rfl (decide_eq_false x0)
     refine dp 15 rfl j0 c1 (wff c1) u0 (fun y0 b1 => ?_)
     refine dp 16 rfl j0 b1 (wff b1) u0 (fun y0 c1 => ?_)
     refine dp 17 rfl j0 c1 (wff c1) u0 (fun y0 b1 => ?_)
     refine dtQ 18 j0 b1 u0 (fun y0 c1 => ?_)
     refine dtA 19 j0 c1 u0 (fun y0 b1 => ?_)
     refine dtA 20 j0 b1 u0 (fun y0 c1 => ?_)
     refine wpAnyH_done (by kernel_rfl) (p0 _ _ ?_) _
     refine x_then_n (k0 _ _ ?_)
     refine wp_ret ?_
     refine x_block_r ?_
     refine x_then_r ?_
     refine e_ret2 c1 rfl rfl rfl rfl ?_
     have c1 : bindL n = [] := by rcases (show n.K = 0 by omega) with h <;> simp [bindL, h, shp]
     rw [c1]
     have c1 := own_cap (t0.res (i := 1) rfl)
     obtain ⟨y0, b1⟩ := t0.row_data (i := 1) rfl (fun _ h => h)
     have z0 := y0.data (dRow 1 (some ⟨d0, 0, none⟩) 0 0 (encIs ([]))) ⟨c1, b1⟩
     refine ⟨(some ⟨d0, 0, none⟩), 0, ?_, z0.fr, z0.rx 1⟩
     exact ret_t2 rfl (ret_b (by (rw [(right_var (by omega))]; simp [q0, o0, x0]; done) ))
   ·
    have x0 := v0.setb (d := 19) (b := false) rfl (decide_eq_false o0)
    refine dp 10 rfl j0 x0 (wff x0) u0 (fun v0 z0 => ?_)
    refine dp 11 rfl j0 z0 (wff z0) u0 (fun v0 x0 => ?_)
    refine dp 12 rfl j0 x0 (wff x0) u0 (fun v0 z0 => ?_)
    refine dtQ 13 j0 z0 u0 (fun v0 x0 => ?_)
    refine dtM 14 j0 x0 u0 (fun v0 z0 => ?_)
    refine dp 15 rfl j0 z0 (wff z0) u0 (fun v0 x0 => ?_)
    refine dp 16 rfl j0 x0 (wff x0) u0 (fun v0 z0 => ?_)
    refine dp 17 rfl j0 z0 (wff z0) u0 (fun v0 x0 => ?_)
    refine dtQ 18 j0 x0 u0 (fun v0 z0 => ?_)
    refine dtA 19 j0 z0 u0 (fun v0 x0 => ?_)
    refine dtA 20 j0 x0 u0 (fun v0 z0 => ?_)
    refine wpAnyH_done (by kernel_rfl) (p0 _ _ ?_) _
    refine x_then_n (k0 _ _ ?_)
    refine wp_ret ?_
    refine x_block_r ?_
    refine x_then_r ?_
    refine e_ret2 z0 rfl rfl rfl rfl ?_
    have z0 : bindL n = [] := by rcases (show n.K = 0 by omega) with h <;> simp [bindL, h, shp]
    rw [z0]
    have z0 := own_cap (t0.res (i := 1) rfl)
    obtain ⟨v0, x0⟩ := t0.row_data (i := 1) rfl (fun _ h => h)
    have b1 := v0.data (dRow 1 (some ⟨d0, 0, none⟩) 0 0 (encIs ([]))) ⟨z0, x0⟩
    refine ⟨(some ⟨d0, 0, none⟩), 0, ?_, b1.fr, b1.rx 1⟩
    exact ret_t2 rfl (ret_b (by (rw [(right_var (by omega))]; simp [q0, o0]; done) ))
  ·
   have o0 := n0.setb (d := 14) (b := false) rfl (decide_eq_false q0)
   refine dp 5 rfl j0 o0 (wff o0) u0 (fun n0 b1 => ?_)
   refine dp 6 rfl j0 b1 (wff b1) u0 (fun n0 o0 => ?_)
   refine dp 7 rfl j0 o0 (wff o0) u0 (fun n0 b1 => ?_)
   refine dtQ 8 j0 b1 u0 (fun n0 o0 => ?_)
   refine dtM 9 j0 o0 u0 (fun n0 b1 => ?_)
   refine dp 10 rfl j0 b1 (wff b1) u0 (fun n0 o0 => ?_)
   refine dp 11 rfl j0 o0 (wff o0) u0 (fun n0 b1 => ?_)
   refine dp 12 rfl j0 b1 (wff b1) u0 (fun n0 o0 => ?_)
   refine dtQ 13 j0 o0 u0 (fun n0 b1 => ?_)
   refine dtM 14 j0 b1 u0 (fun n0 o0 => ?_)
   refine dp 15 rfl j0 o0 (wff o0) u0 (fun n0 b1 => ?_)
   refine dp 16 rfl j0 b1 (wff b1) u0 (fun n0 o0 => ?_)
   refine dp 17 rfl j0 o0 (wff o0) u0 (fun n0 b1 => ?_)
   refine dtQ 18 j0 b1 u0 (fun n0 o0 => ?_)
   refine dtA 19 j0 o0 u0 (fun n0 b1 => ?_)
   refine dtA 20 j0 b1 u0 (fun n0 o0 => ?_)
   refine wpAnyH_done (by kernel_rfl) (p0 _ _ ?_) _
   refine x_then_n (k0 _ _ ?_)
   refine wp_ret ?_
   refine x_block_r ?_
   refine x_then_r ?_
   refine e_ret2 o0 rfl rfl rfl rfl ?_
   have o0 : bindL n = [] := by rcases (show n.K = 0 by omega) with h <;> simp [bindL, h, shp]
   rw [o0]
   have o0 := own_cap (t0.res (i := 1) rfl)
   obtain ⟨k0, p0⟩ := t0.row_data (i := 1) rfl (fun _ h => h)
   have t0 := k0.data (dRow 1 (some ⟨d0, 0, none⟩) 0 0 (encIs ([]))) ⟨o0, p0⟩
   refine ⟨(some ⟨d0, 0, none⟩), 0, ?_, t0.fr, t0.rx 1⟩
   exact ret_t2 rfl (ret_b (by (rw [(right_var (by omega))]; simp [q0]; done) ))
 ·
  have q0 := f0.setb (d := 8) (b := false) rfl (decide_eq_false h0)
  refine wp_cond_false (q0.ev rfl) ?_
  refine c_join (fun ga gw => Reg ga 228 [(1, .pointer (some ⟨i0, 0, none⟩)), (2, .slice none 0 0), (3, .bool false), (4, .slice (some ⟨d0, 0, none⟩) 0 0), (7, .int .i64 (n.K)), (29, .bool ((decide ((n.K) = 1)) || (decide ((n.K) = 25)))), (1000000, .bool false)] ∧ St w0 Z none_ gw [.box i0 32 [.int .i64 (n.K), .int .i64 (n.N), .int .i64 (n.M), .string n.S], .row (some ⟨d0, 0, none⟩) 0 0 3 1 (encIs ([]))] []) ?_ ?_
  ·
   refine wsc (fun h0 f0 => ?_)
   refine r_eql sv q0 rfl rfl rfl rfl (by decide) (fun h0 t0 => ?_)
   refine asg t0 (fun h0 q0 => ?_)
   refine wpList_nil (x_then_n (f0 _ _ ?_))
   rcases Decidable.em ((n.K) = 1) with f0 | f0
   ·
    have h0 := q0.setb (d := 29) (b := true) rfl (decide_eq_true f0)
    refine wp_cond_true (h0.ev rfl) ?_
    refine wp_skip ?_
    exact x_then_n ⟨(h0.sub (rc rfl (rc rfl (rc rfl (rc rfl (rc rfl (rc (rb rfl (by (simp only [decide_eq_true f0, if_pos f0, bl]; done))) (rc rfl rnl)))))))), m0⟩
   ·
    have h0 := q0.setb (d := 29) (b := false) rfl (decide_eq_false f0)
    refine wp_cond_false (h0.ev rfl) ?_
    refine c_region ?_
    refine r_eql sv h0 rfl rfl rfl rfl (by decide) (fun q0 t0 => ?_)
    refine asg t0 (fun q0 h0 => ?_)
    refine wpList_nil ?_
    exact x_then_n ⟨(h0.sub (rc rfl (rc rfl (rc rfl (rc rfl (rc rfl (rc (rb rfl (by (simp only [decide_eq_false f0, if_neg f0, bl]; done))) (rc rfl rnl)))))))), m0⟩
  rintro h0 f0 ⟨m0, q0⟩
  rcases Bool.eq_false_or_eq_true (((decide ((n.K) = 1)) || (decide ((n.K) = 25)))) with f0 | f0
  ·
   have h0 := f0
   try simp only [Bool.or_eq_true, Bool.and_eq_true, Bool.not_eq_true', Bool.not_eq_false', decide_eq_true_eq, decide_eq_false_iff_not, Bool.or_eq_false_iff, Bool.and_eq_false_iff] at h0
   have h0 := m0.setb (d := 29) (b := true) rfl f0
   refine wp_cond_true (h0.ev rfl) ?_
   refine wsc (fun t0 p0 => ?_)
   refine mv h0 (fun t0 k0 => ?_)
   refine m_field (j' := 1) sv k0 rfl rfl rfl Tryd.underlying32 rfl sz3 rfl rfl (by decide) (fun t0 h0 => ?_)
   refine m_load (i := 0) sv h0 q0 rfl rfl rfl rfl rfl Tryd.underlying3 rfl (by decide) (fun t0 k0 => ?_)
   refine r_eql sv k0 rfl rfl rfl rfl (by decide) (fun t0 h0 => ?_)
   refine mv h0 (fun t0 k0 => ?_)
   refine l_join (fun ga gw => Reg ga 228 [(1, .pointer (some ⟨i0, 0, none⟩)), (2, .slice none 0 0), (3, .bool false), (4, .slice (some ⟨d0, 0, none⟩) 0 0), (32, .slice (some ⟨d0, 0, none⟩) 0 0), (40, .bool ((decide ((n.N) = 0)) && (decide ((n.M) = 0)))), (1000000, .bool false)] ∧ St w0 Z none_ gw [.box i0 32 [.int .i64 (n.K), .int .i64 (n.N), .int .i64 (n.M), .string n.S], .row (some ⟨d0, 0, none⟩) 0 0 3 1 (encIs ([]))] []) 4 ?_ ?_
   ·
    rcases Decidable.em ((n.N) = 0) with t0 | t0
    ·
     have h0 := k0.setb (d := 36) (b := true) rfl (decide_eq_true t0)
     refine m_field (j' := 2) (st_listV_w (wt h0)) h0 rfl rfl rfl Tryd.underlying32 rfl sz3 rfl rfl (by decide) (fun o0 n0 => ?_)
     refine m_load (i := 0) (st_listV_w (wt n0)) n0 q0 rfl rfl rfl rfl rfl Tryd.underlying3 rfl (by decide) (fun o0 h0 => ?_)
     refine r_eql (st_listV_w (wt h0)) h0 rfl rfl rfl rfl (by decide) (fun o0 n0 => ?_)
     refine r_pick_t sv n0 rfl rfl rfl rfl (by decide) (fun o0 h0 => ?_)
     refine wpList_nil ?_
     exact x_then_n ⟨(h0.sub (rc rfl (rc rfl (rc rfl (rc rfl (rc rfl (rc (rb rfl (by (simp only [decide_eq_true t0, if_pos t0, bl]; done))) (rc rfl rnl)))))))), q0⟩
    ·
     have h0 := k0.setb (d := 36) (b := false) rfl (decide_eq_false t0)
     refine sps h0 (wff h0) (fun k0 o0 => ?_)
     refine sps o0 (wff o0) (fun k0 h0 => ?_)
     refine sps h0 (wff h0) (fun k0 o0 => ?_)
     refine r_pick_f sv o0 rfl rfl rfl rfl (by decide) (fun k0 h0 => ?_)
     refine wpList_nil ?_
     exact x_then_n ⟨(h0.sub (rc rfl (rc rfl (rc rfl (rc rfl (rc rfl (rc (rb rfl (by (simp only [decide_eq_false t0, if_neg t0, bl]; done))) (rc rfl rnl)))))))), q0⟩
   rintro h0 t0 ⟨k0, o0⟩
   refine mv k0 (fun t0 h0 => ?_)
   refine l_join (fun ga gw => Reg ga 228 [(2, .slice none 0 0), (3, .bool false), (4, .slice (some ⟨d0, 0, none⟩) 0 0), (32, .slice (some ⟨d0, 0, none⟩) 0 0), (45, .bool (((decide ((n.N) = 0)) && (decide ((n.M) = 0))) && (nameOk n.S))), (1000000, .bool false)] ∧ St w0 Z none_ gw [.box i0 32 [.int .i64 (n.K), .int .i64 (n.N), .int .i64 (n.M), .string n.S], .row (some ⟨d0, 0, none⟩) 0 0 3 1 (encIs ([]))] []) 4 ?_ ?_
   ·
    rcases Bool.eq_false_or_eq_true (((decide ((n.N) = 0)) && (decide ((n.M) = 0)))) with t0 | t0
    ·
     have k0 := and_tl t0
     have n0 := of_decide_eq_true k0
     have n0 := and_tr t0
     have k0 := of_decide_eq_true n0
     have k0 := h0.setb (d := 41) (b := true) rfl t0
     refine m_field (j' := 3) (st_listV_w (wt k0)) k0 rfl rfl rfl Tryd.underlying32 rfl sz9 rfl rfl (by decide) (fun n0 b1 => ?_)
     refine m_load (i := 0) (st_listV_w (wt b1)) b1 o0 rfl rfl rfl rfl rfl Tryd.underlying9 rfl (by decide) (fun n0 k0 => ?_)
     have n0 := o0.nf
     refine k_call (xs := [.tmp 43]) (st_list_w (wt k0)) k0 rfl rfl rfl (by decide) ok36 (rname_calls _ _ n0.il n.S) ?_
     rintro k0 b1 ⟨rfl, u0⟩
     have b1 := n0.below u0.below
     refine ⟨_, rfl, fun u0 n0 => ?_⟩
     refine r_pick_t sv n0 rfl rfl rfl rfl (by decide) (fun u0 k0 => ?_)
     refine wpList_nil ?_
     exact x_then_n ⟨(k0.sub (rc rfl (rc rfl (rc rfl (rc rfl (rc (rb rfl (by (simp only [t0, bl]; done))) (rc rfl rnl))))))), b1⟩
    ·
     have k0 := t0
     try simp only [Bool.or_eq_true, Bool.and_eq_true, Bool.not_eq_true', Bool.not_eq_false', decide_eq_true_eq, decide_eq_false_iff_not, Bool.or_eq_false_iff, Bool.and_eq_false_iff] at k0
     have k0 := h0.setb (d := 41) (b := false) rfl t0
     refine sps k0 (wff k0) (fun h0 b1 => ?_)
     refine sps b1 (wff b1) (fun h0 k0 => ?_)
     refine sps k0 (wff k0) (fun h0 b1 => ?_)
     refine r_pick_f sv b1 rfl rfl rfl rfl (by decide) (fun h0 k0 => ?_)
     refine wpList_nil ?_
     exact x_then_n ⟨(k0.sub (rc rfl (rc rfl (rc rfl (rc rfl (rc (rb rfl (by (simp only [t0, bl]; done))) (rc rfl rnl))))))), o0⟩
   rintro k0 t0 ⟨o0, h0⟩
   refine asg o0 (fun t0 k0 => ?_)
   refine asg k0 (fun t0 o0 => ?_)
   refine wpList_nil (x_then_n (p0 _ _ ?_))
   refine wp_ret ?_
   refine x_block_r ?_
   refine x_then_r ?_
   refine e_ret2 o0 rfl rfl rfl rfl ?_
   have o0 : bindL n = [] := by rcases (show n.K = 1 ∨ n.K = 25 by omega) with h | h <;> simp [bindL, h, shp]
   rw [o0]
   have o0 := own_cap (h0.res (i := 1) rfl)
   obtain ⟨p0, t0⟩ := h0.row_data (i := 1) rfl (fun _ h => h)
   have h0 := p0.data (dRow 1 (some ⟨d0, 0, none⟩) 0 0 (encIs ([]))) ⟨o0, t0⟩
   refine ⟨(some ⟨d0, 0, none⟩), 0, ?_, h0.fr, h0.rx 0⟩
   exact ret_t2 rfl (ret_b (by (rw [(right_str (by omega)), Bool.eq_iff_iff]; simp [and_assoc]; done) ))
  ·
   have h0 := or_fl f0
   have t0 := of_decide_eq_false h0
   have t0 := or_fr f0
   have h0 := of_decide_eq_false t0
   have h0 := m0.setb (d := 29) (b := false) rfl f0
   refine wp_cond_false (h0.ev rfl) ?_
   refine wsc (fun f0 m0 => ?_)
   refine r_eql sv h0 rfl rfl rfl rfl (by decide) (fun f0 t0 => ?_)
   refine asg t0 (fun f0 h0 => ?_)
   refine wpList_nil (x_then_n (m0 _ _ ?_))
   rcases Decidable.em ((n.K) = 2) with m0 | m0
   ·
    have f0 := h0.setb (d := 46) (b := true) rfl (decide_eq_true m0)
    refine wp_cond_true (f0.ev rfl) ?_
    refine wp_seq_k (fun t0 p0 => ?_)
    obtain ⟨t0, o0, k0⟩ := q0.agree
    refine d_reg3 (n := 17) k0 0 (pB 0 0 pn) (pan_then (pan_block (pan_then pan_body))) (fun o0 t0 b1 u0 n0 j0 => ?_)
    refine dtM 0 t0 f0 j0 (fun u0 o0 => ?_)
    refine dtF 1 1 t0 o0 j0 Tryd.underlying32 sz3 (fun u0 f0 => ?_)
    refine dtC 2 1 t0 f0 j0 Tryd.underlying3 (fun u0 o0 => ?_)
    refine d1 3 ?_
    have u0 := n0.nf
    refine k_call (xs := [.tmp 50]) (st_op rfl (want_n rfl)) o0 rfl rfl rfl (by decide) ok37 (rlvCheck_calls _ _ u0.il (n.N)) ?_
    rintro o0 n0 ⟨rfl, f0⟩
    have n0 := u0.below f0.below
    refine ⟨_, rfl, fun f0 u0 => ?_⟩
    have f0 := sWI n0 0 (pB 0 0 pn)
    refine ⟨f0, ?_⟩
    refine dt 4 rfl t0 u0 (want_n rfl) (fun x hx => r_eql (sy u0) u0 rfl rfl rfl rfl (by decide) gt) f0 (fun o0 j0 => ?_)
    refine dtM 5 t0 j0 f0 (fun o0 u0 => ?_)
    rcases Decidable.em (((lvChk (n.N))) = 0) with o0 | o0
    ·
     have j0 := u0.setb (d := 53) (b := true) rfl (decide_eq_true o0)
     refine dtF 6 2 t0 j0 f0 Tryd.underlying32 sz3 (fun k0 x0 => ?_) (hw := wt j0)
     refine dtC 7 2 t0 x0 f0 Tryd.underlying3 (fun k0 j0 => ?_) (hw := wt x0)
     refine dt 8 rfl t0 j0 (wt j0) (fun x hx => r_eql (sy j0) j0 rfl rfl rfl rfl (by decide) gt) f0 (fun k0 x0 => ?_)
     refine dt 9 rfl t0 x0 (want_n rfl) (fun x hx => r_pick_t (sy x0) x0 rfl rfl rfl rfl (by decide) gt) f0 (fun k0 j0 => ?_)
     refine dtM 10 t0 j0 f0 (fun k0 x0 => ?_)
     rcases Decidable.em ((n.M) = 0) with k0 | k0
     ·
      have j0 := x0.setb (d := 58) (b := true) rfl (decide_eq_true k0)
      refine dtF 11 3 t0 j0 f0 Tryd.underlying32 sz9 (fun v0 z0 => ?_) (hw := wt j0)
      refine dtC 12 3 t0 z0 f0 Tryd.underlying9 (fun v0 j0 => ?_) (hw := wt z0)
      refine dt 13 rfl t0 j0 (wt j0) (fun x hx => r_eqlS (sy j0) j0 rfl rfl rfl rfl (by decide) gt) f0 (fun v0 z0 => ?_)
      refine dt 14 rfl t0 z0 (want_n rfl) (fun x hx => r_pick_t (sy z0) z0 rfl rfl rfl rfl (by decide) gt) f0 (fun v0 j0 => ?_)
      refine dtA 15 t0 j0 f0 (fun v0 z0 => ?_)
      refine dtA 16 t0 z0 f0 (fun v0 j0 => ?_)
      refine wpAnyH_done (by kernel_rfl) (b1 _ _ ?_) _
      refine x_then_n (p0 _ _ ?_)
      refine wp_ret ?_
      refine x_block_r ?_
      refine x_then_r ?_
      refine e_ret2 j0 rfl rfl rfl rfl ?_
      have j0 : bindL n = [] := by rcases (show n.K = 2 by omega) with h <;> simp [bindL, h, shp]
      rw [j0]
      have j0 := own_cap (n0.res (i := 1) rfl)
      obtain ⟨v0, z0⟩ := n0.row_data (i := 1) rfl (fun _ h => h)
      have y0 := v0.data (dRow 1 (some ⟨d0, 0, none⟩) 0 0 (encIs ([]))) ⟨j0, z0⟩
      refine ⟨(some ⟨d0, 0, none⟩), 0, ?_, y0.fr, y0.rx 1⟩
      exact ret_t2 rfl (ret_b (by (rw [(right_sortR (by omega))]; simp [o0, k0]; done) ))
     ·
      have y0 := x0.setb (d := 58) (b := false) rfl (decide_eq_false k0)
      refine dp 11 rfl t0 y0 (wff y0) f0 (fun x0 z0 => ?_)
      refine dp 12 rfl t0 z0 (wff z0) f0 (fun x0 y0 => ?_)
      refine dp 13 rfl t0 y0 (wff y0) f0 (fun x0 z0 => ?_)
      refine dtQ 14 t0 z0 f0 (fun x0 y0 => ?_)
      refine dtA 15 t0 y0 f0 (fun x0 z0 => ?_)
      refine dtA 16 t0 z0 f0 (fun x0 y0 => ?_)
      refine wpAnyH_done (by kernel_rfl) (b1 _ _ ?_) _
      refine x_then_n (p0 _ _ ?_)
      refine wp_ret ?_
      refine x_block_r ?_
      refine x_then_r ?_
      refine e_ret2 y0 rfl rfl rfl rfl ?_
      have y0 : bindL n = [] := by rcases (show n.K = 2 by omega) with h <;> simp [bindL, h, shp]
      rw [y0]
      have y0 := own_cap (n0.res (i := 1) rfl)
      obtain ⟨x0, z0⟩ := n0.row_data (i := 1) rfl (fun _ h => h)
      have v0 := x0.data (dRow 1 (some ⟨d0, 0, none⟩) 0 0 (encIs ([]))) ⟨y0, z0⟩
      refine ⟨(some ⟨d0, 0, none⟩), 0, ?_, v0.fr, v0.rx 1⟩
      exact ret_t2 rfl (ret_b (by (rw [(right_sortR (by omega))]; simp [o0, k0]; done) ))
    ·
     have k0 := u0.setb (d := 53) (b := false) rfl (decide_eq_false o0)
     refine dp 6 rfl t0 k0 (wff k0) f0 (fun u0 v0 => ?_)
     refine dp 7 rfl t0 v0 (wff v0) f0 (fun u0 k0 => ?_)
     refine dp 8 rfl t0 k0 (wff k0) f0 (fun u0 v0 => ?_)
     refine dtQ 9 t0 v0 f0 (fun u0 k0 => ?_)
     refine dtM 10 t0 k0 f0 (fun u0 v0 => ?_)
     refine dp 11 rfl t0 v0 (wff v0) f0 (fun u0 k0 => ?_)
     refine dp 12 rfl t0 k0 (wff k0) f0 (fun u0 v0 => ?_)
     refine dp 13 rfl t0 v0 (wff v0) f0 (fun u0 k0 => ?_)
     refine dtQ 14 t0 k0 f0 (fun u0 v0 => ?_)
     refine dtA 15 t0 v0 f0 (fun u0 k0 => ?_)
     refine dtA 16 t0 k0 f0 (fun u0 v0 => ?_)
     refine wpAnyH_done (by kernel_rfl) (b1 _ _ ?_) _
     refine x_then_n (p0 _ _ ?_)
     refine wp_ret ?_
     refine x_block_r ?_
     refine x_then_r ?_
     refine e_ret2 v0 rfl rfl rfl rfl ?_
     have v0 : bindL n = [] := by rcases (show n.K = 2 by omega) with h <;> simp [bindL, h, shp]
     rw [v0]
     have v0 := own_cap (n0.res (i := 1) rfl)
     obtain ⟨p0, b1⟩ := n0.row_data (i := 1) rfl (fun _ h => h)
     have n0 := p0.data (dRow 1 (some ⟨d0, 0, none⟩) 0 0 (encIs ([]))) ⟨v0, b1⟩
     refine ⟨(some ⟨d0, 0, none⟩), 0, ?_, n0.fr, n0.rx 1⟩
     exact ret_t2 rfl (ret_b (by (rw [(right_sortR (by omega))]; simp [o0]; done) ))
   ·
    have o0 := h0.setb (d := 46) (b := false) rfl (decide_eq_false m0)
    refine wp_cond_false (o0.ev rfl) ?_
    refine c_join (fun ga gw => Reg ga 228 [(1, .pointer (some ⟨i0, 0, none⟩)), (2, .slice none 0 0), (3, .bool false), (4, .slice (some ⟨d0, 0, none⟩) 0 0), (7, .int .i64 (n.K)), (63, .bool ((decide ((n.K) = 3)) || (decide ((n.K) = 6)))), (1000000, .bool false)] ∧ St w0 Z none_ gw [.box i0 32 [.int .i64 (n.K), .int .i64 (n.N), .int .i64 (n.M), .string n.S], .row (some ⟨d0, 0, none⟩) 0 0 3 1 (encIs ([]))] []) ?_ ?_
    ·
     refine wsc (fun m0 h0 => ?_)
     refine r_eql sv o0 rfl rfl rfl rfl (by decide) (fun m0 n0 => ?_)
     refine asg n0 (fun m0 o0 => ?_)
     refine wpList_nil (x_then_n (h0 _ _ ?_))
     rcases Decidable.em ((n.K) = 3) with h0 | h0
     ·
      have m0 := o0.setb (d := 63) (b := true) rfl (decide_eq_true h0)
      refine wp_cond_true (m0.ev rfl) ?_
      refine wp_skip ?_
      exact x_then_n ⟨(m0.sub (rc rfl (rc rfl (rc rfl (rc rfl (rc rfl (rc (rb rfl (by (simp only [decide_eq_true h0, if_pos h0, bl]; done))) (rc rfl rnl)))))))), q0⟩
     ·
      have m0 := o0.setb (d := 63) (b := false) rfl (decide_eq_false h0)
      refine wp_cond_false (m0.ev rfl) ?_
      refine c_region ?_
      refine r_eql sv m0 rfl rfl rfl rfl (by decide) (fun o0 n0 => ?_)
      refine asg n0 (fun o0 m0 => ?_)
      refine wpList_nil ?_
      exact x_then_n ⟨(m0.sub (rc rfl (rc rfl (rc rfl (rc rfl (rc rfl (rc (rb rfl (by (simp only [decide_eq_false h0, if_neg h0, bl]; done))) (rc rfl rnl)))))))), q0⟩
    rintro m0 h0 ⟨q0, o0⟩
    rcases Bool.eq_false_or_eq_true (((decide ((n.K) = 3)) || (decide ((n.K) = 6)))) with h0 | h0
    ·
     have m0 := h0
     try simp only [Bool.or_eq_true, Bool.and_eq_true, Bool.not_eq_true', Bool.not_eq_false', decide_eq_true_eq, decide_eq_false_iff_not, Bool.or_eq_false_iff, Bool.and_eq_false_iff] at m0
     have m0 := q0.setb (d := 63) (b := true) rfl h0
     refine wp_cond_true (m0.ev rfl) ?_
     refine wp_seq_k (fun n0 b1 => ?_)
     obtain ⟨n0, p0, v0⟩ := o0.agree
     refine d_reg3 (n := 23) v0 0 (pB 0 0 pn) (pan_then (pan_block (pan_then pan_body))) (fun p0 n0 u0 k0 f0 t0 => ?_)
     refine dtM 0 n0 m0 t0 (fun k0 p0 => ?_)
     refine dtF 3 1 n0 p0 t0 Tryd.underlying32 sz3 (fun k0 m0 => ?_)
     refine dtC 4 1 n0 m0 t0 Tryd.underlying3 (fun k0 p0 => ?_)
     refine dt 5 rfl n0 p0 (want_n rfl) (fun x hx => r_geq (sy p0) p0 rfl rfl rfl rfl (by decide) gt) t0 (fun k0 m0 => ?_)
     refine d1 1 ?_
     refine mbs [(0, .const (.int .i64 0)), (1, .const (.int .i64 1))] [.int .i64 0, .int .i64 1] (st_opV rfl (want_n rfl)) m0 f0 Tryd.underlying56 zi3 (fun k0 p0 t0 v0 z0 => ?_)
     have t0 := sWI z0 0 (pB 0 0 pn)
     refine ⟨t0, ?_⟩
     refine d1 2 ?_
     refine m_appendF (f := encI) (i := 1) ([]) ([0, 1]) (st_opV rfl (want_n rfl)) v0 z0 rfl rfl rfl rfl rfl encI_len (encI_one _) Tryd.underlying56 zi3 rfl rfl (own_lnews (f := encI) (z0.res (i := 2) rfl)) rfl (by first | omega | (simp only [List.length_cons, List.length_nil]; omega)) (by decide) (fun t0 p0 k0 m0 f0 x0 y0 => ?_)
     have f0 : (([]) ++ ([0, 1]) : List Int).length = 2 := by (simp only [List.length_append, List.length_take, List.length_cons, List.length_nil]; done)
     have f0 := y0.erase 2
     have y0 := sWI f0 0 (pB 0 0 pn)
     refine ⟨y0, ?_⟩
     refine dtM 6 n0 x0 y0 (fun p0 t0 => ?_)
     rcases Decidable.em (0 ≤ (n.N)) with p0 | p0
     ·
      have x0 := t0.setb (d := 72) (b := true) rfl (decide_eq_true p0)
      refine dtF 7 1 n0 x0 y0 Tryd.underlying32 sz3 (fun z0 v0 => ?_) (hw := wt x0)
      refine dtC 8 1 n0 v0 y0 Tryd.underlying3 (fun z0 x0 => ?_) (hw := wt v0)
      refine dt 9 rfl n0 x0 (wt x0) (fun x hx => r_leq (sy x0) x0 rfl rfl rfl rfl (by decide) gt) y0 (fun z0 v0 => ?_)
      refine dt 10 rfl n0 v0 (want_n rfl) (fun x hx => r_pick_t (sy v0) v0 rfl rfl rfl rfl (by decide) gt) y0 (fun z0 x0 => ?_)
      refine dtM 11 n0 x0 y0 (fun z0 v0 => ?_)
      rcases Decidable.em ((n.N) ≤ 3) with z0 | z0
      ·
       have x0 := v0.setb (d := 77) (b := true) rfl (decide_eq_true z0)
       refine dtF 12 2 n0 x0 y0 Tryd.underlying32 sz3 (fun j0 c1 => ?_) (hw := wt x0)
       refine dtC 13 2 n0 c1 y0 Tryd.underlying3 (fun j0 x0 => ?_) (hw := wt c1)
       refine dt 14 rfl n0 x0 (wt x0) (fun x hx => r_eql (sy x0) x0 rfl rfl rfl rfl (by decide) gt) y0 (fun j0 c1 => ?_)
       refine dt 15 rfl n0 c1 (want_n rfl) (fun x hx => r_pick_t (sy c1) c1 rfl rfl rfl rfl (by decide) gt) y0 (fun j0 x0 => ?_)
       refine dtM 16 n0 x0 y0 (fun j0 c1 => ?_)
       rcases Decidable.em ((n.M) = 0) with j0 | j0
       ·
        have x0 := c1.setb (d := 82) (b := true) rfl (decide_eq_true j0)
        refine dtF 17 3 n0 x0 y0 Tryd.underlying32 sz9 (fun b0 f1 => ?_) (hw := wt x0)
        refine dtC 18 3 n0 f1 y0 Tryd.underlying9 (fun b0 x0 => ?_) (hw := wt f1)
        refine dt 19 rfl n0 x0 (wt x0) (fun x hx => r_eqlS (sy x0) x0 rfl rfl rfl rfl (by decide) gt) y0 (fun b0 f1 => ?_)
        refine dt 20 rfl n0 f1 (want_n rfl) (fun x hx => r_pick_t (sy f1) f1 rfl rfl rfl rfl (by decide) gt) y0 (fun b0 x0 => ?_)
        refine dtA 21 n0 x0 y0 (fun b0 f1 => ?_)
        refine dtA 22 n0 f1 y0 (fun b0 x0 => ?_)
        refine wpAnyH_done (by kernel_rfl) (u0 _ _ ?_) _
        refine x_then_n (b1 _ _ ?_)
        refine wp_ret ?_
        refine x_block_r ?_
        refine x_then_r ?_
        refine e_ret2 x0 rfl rfl rfl rfl ?_
        have x0 : bindL n = ([]) ++ ([0, 1]) := by rcases (show n.K = 3 ∨ n.K = 6 by omega) with h | h <;> simp [bindL, h, shp]
        rw [x0]
        have x0 := own_cap (f0.res (i := 1) rfl)
        obtain ⟨b0, f1⟩ := f0.row_data (i := 1) rfl (fun _ h => h)
        have h1 := b0.data (dRow 1 k0 ((([]) ++ ([0, 1]) : List Int).length) m0 (encIs (([]) ++ ([0, 1])))) ⟨x0, f1⟩
        refine ⟨k0, m0, ?_, h1.fr, h1.rx 1⟩
        exact ret_t2 rfl (ret_b (by (rw [(right_pi (by omega))]; simp [p0, z0, j0]; done) ))
       ·
        have h1 := c1.setb (d := 82) (b := false) rfl (decide_eq_false j0)
        refine dp 17 rfl n0 h1 (wff h1) y0 (fun c1 f1 => ?_)
        refine dp 18 rfl n0 f1 (wff f1) y0 (fun c1 h1 => ?_)
        refine dp 19 rfl n0 h1 (wff h1) y0 (fun c1 f1 => ?_)
        refine dtQ 20 n0 f1 y0 (fun c1 h1 => ?_)
        refine dtA 21 n0 h1 y0 (fun c1 f1 => ?_)
        refine dtA 22 n0 f1 y0 (fun c1 h1 => ?_)
        refine wpAnyH_done (by kernel_rfl) (u0 _ _ ?_) _
        refine x_then_n (b1 _ _ ?_)
        refine wp_ret ?_
        refine x_block_r ?_
        refine x_then_r ?_
        refine e_ret2 h1 rfl rfl rfl rfl ?_
        have h1 : bindL n = ([]) ++ ([0, 1]) := by rcases (show n.K = 3 ∨ n.K = 6 by omega) with h | h <;> simp [bindL, h, shp]
        rw [h1]
        have h1 := own_cap (f0.res (i := 1) rfl)
        obtain ⟨c1, f1⟩ := f0.row_data (i := 1) rfl (fun _ h => h)
        have b0 := c1.data (dRow 1 k0 ((([]) ++ ([0, 1]) : List Int).length) m0 (encIs (([]) ++ ([0, 1])))) ⟨h1, f1⟩
        refine ⟨k0, m0, ?_, b0.fr, b0.rx 1⟩
        exact ret_t2 rfl (ret_b (by (rw [(right_pi (by omega))]; simp [p0, z0, j0]; done) ))
      ·
       have j0 := v0.setb (d := 77) (b := false) rfl (decide_eq_false z0)
       refine dp 12 rfl n0 j0 (wff j0) y0 (fun v0 b0 => ?_)
       refine dp 13 rfl n0 b0 (wff b0) y0 (fun v0 j0 => ?_)
       refine dp 14 rfl n0 j0 (wff j0) y0 (fun v0 b0 => ?_)
       refine dtQ 15 n0 b0 y0 (fun v0 j0 => ?_)
       refine dtM 16 n0 j0 y0 (fun v0 b0 => ?_)
       refine dp 17 rfl n0 b0 (wff b0) y0 (fun v0 j0 => ?_)
       refine dp 18 rfl n0 j0 (wff j0) y0 (fun v0 b0 => ?_)
       refine dp 19 rfl n0 b0 (wff b0) y0 (fun v0 j0 => ?_)
       refine dtQ 20 n0 j0 y0 (fun v0 b0 => ?_)
       refine dtA 21 n0 b0 y0 (fun v0 j0 => ?_)
       refine dtA 22 n0 j0 y0 (fun v0 b0 => ?_)
       refine wpAnyH_done (by kernel_rfl) (u0 _ _ ?_) _
       refine x_then_n (b1 _ _ ?_)
       refine wp_ret ?_
       refine x_block_r ?_
       refine x_then_r ?_
       refine e_ret2 b0 rfl rfl rfl rfl ?_
       have b0 : bindL n = ([]) ++ ([0, 1]) := by rcases (show n.K = 3 ∨ n.K = 6 by omega) with h | h <;> simp [bindL, h, shp]
       rw [b0]
       have b0 := own_cap (f0.res (i := 1) rfl)
       obtain ⟨v0, j0⟩ := f0.row_data (i := 1) rfl (fun _ h => h)
       have f1 := v0.data (dRow 1 k0 ((([]) ++ ([0, 1]) : List Int).length) m0 (encIs (([]) ++ ([0, 1])))) ⟨b0, j0⟩
       refine ⟨k0, m0, ?_, f1.fr, f1.rx 1⟩
       exact ret_t2 rfl (ret_b (by (rw [(right_pi (by omega))]; simp [p0, z0]; done) ))
     ·
      have z0 := t0.setb (d := 72) (b := false) rfl (decide_eq_false p0)
      refine dp 7 rfl n0 z0 (wff z0) y0 (fun t0 f1 => ?_)
      refine dp 8 rfl n0 f1 (wff f1) y0 (fun t0 z0 => ?_)
      refine dp 9 rfl n0 z0 (wff z0) y0 (fun t0 f1 => ?_)
      refine dtQ 10 n0 f1 y0 (fun t0 z0 => ?_)
      refine dtM 11 n0 z0 y0 (fun t0 f1 => ?_)
      refine dp 12 rfl n0 f1 (wff f1) y0 (fun t0 z0 => ?_)
      refine dp 13 rfl n0 z0 (wff z0) y0 (fun t0 f1 => ?_)
      refine dp 14 rfl n0 f1 (wff f1) y0 (fun t0 z0 => ?_)
      refine dtQ 15 n0 z0 y0 (fun t0 f1 => ?_)
      refine dtM 16 n0 f1 y0 (fun t0 z0 => ?_)
      refine dp 17 rfl n0 z0 (wff z0) y0 (fun t0 f1 => ?_)
      refine dp 18 rfl n0 f1 (wff f1) y0 (fun t0 z0 => ?_)
      refine dp 19 rfl n0 z0 (wff z0) y0 (fun t0 f1 => ?_)
      refine dtQ 20 n0 f1 y0 (fun t0 z0 => ?_)
      refine dtA 21 n0 z0 y0 (fun t0 f1 => ?_)
      refine dtA 22 n0 f1 y0 (fun t0 z0 => ?_)
      refine wpAnyH_done (by kernel_rfl) (u0 _ _ ?_) _
      refine x_then_n (b1 _ _ ?_)
      refine wp_ret ?_
      refine x_block_r ?_
      refine x_then_r ?_
      refine e_ret2 z0 rfl rfl rfl rfl ?_
      have z0 : bindL n = ([]) ++ ([0, 1]) := by rcases (show n.K = 3 ∨ n.K = 6 by omega) with h | h <;> simp [bindL, h, shp]
      rw [z0]
      have z0 := own_cap (f0.res (i := 1) rfl)
      obtain ⟨b1, u0⟩ := f0.row_data (i := 1) rfl (fun _ h => h)
      have f0 := b1.data (dRow 1 k0 ((([]) ++ ([0, 1]) : List Int).length) m0 (encIs (([]) ++ ([0, 1])))) ⟨z0, u0⟩
      refine ⟨k0, m0, ?_, f0.fr, f0.rx 1⟩
      exact ret_t2 rfl (ret_b (by (rw [(right_pi (by omega))]; simp [p0]; done) ))
    ·
     have p0 := or_fl h0
     have f0 := of_decide_eq_false p0
     have f0 := or_fr h0
     have p0 := of_decide_eq_false f0
     have p0 := q0.setb (d := 63) (b := false) rfl h0
     refine wp_cond_false (p0.ev rfl) ?_
     refine wsc (fun h0 q0 => ?_)
     refine r_eql sv p0 rfl rfl rfl rfl (by decide) (fun h0 f0 => ?_)
     refine asg f0 (fun h0 p0 => ?_)
     refine wpList_nil (x_then_n (q0 _ _ ?_))
     rcases Decidable.em ((n.K) = 4) with q0 | q0
     ·
      have h0 := p0.setb (d := 87) (b := true) rfl (decide_eq_true q0)
      refine wp_cond_true (h0.ev rfl) ?_
      refine wp_seq_k (fun f0 m0 => ?_)
      obtain ⟨f0, k0, u0⟩ := o0.agree
      refine d_reg3 (n := 7) u0 0 (pB 0 0 pn) (pan_then (pan_block (pan_then pan_body))) (fun k0 f0 b1 z0 t0 f1 => ?_)
      refine dtM 0 f0 h0 f1 (fun z0 k0 => ?_)
      refine dt 3 rfl f0 k0 (want_n rfl) (fun x hx => m_loadCN (sy k0) k0 rfl rfl rfl (CellsAt.cons_ (hx.c 0) (CellsAt.cons_ (hx.c 1) (CellsAt.cons_ (hx.c 2) (CellsAt.cons_ (hx.c 3) (CellsAt.nil _ _))))) Tryd.underlying32 rfl sz32 (by decide) gt) f1 (fun z0 h0 => ?_)
      refine d1 1 ?_
      refine mbs [(0, .const (.int .i64 0)), (1, .const (.int .i64 1))] [.int .i64 0, .int .i64 1] (st_opV rfl (want_n rfl)) h0 t0 Tryd.underlying56 zi3 (fun z0 k0 f1 u0 y0 => ?_)
      have f1 := sWI y0 0 (pB 0 0 pn)
      refine ⟨f1, ?_⟩
      refine d1 2 ?_
      refine m_appendF (f := encI) (i := 1) ([]) ([0, 1]) (st_opV rfl (want_n rfl)) u0 y0 rfl rfl rfl rfl rfl encI_len (encI_one _) Tryd.underlying56 zi3 rfl rfl (own_lnews (f := encI) (y0.res (i := 2) rfl)) rfl (by first | omega | (simp only [List.length_cons, List.length_nil]; omega)) (by decide) (fun f1 k0 z0 h0 t0 n0 j0 => ?_)
      have t0 : (([]) ++ ([0, 1]) : List Int).length = 2 := by (simp only [List.length_append, List.length_take, List.length_cons, List.length_nil]; done)
      have t0 := j0.erase 2
      have j0 := sWI t0 0 (pB 0 0 pn)
      refine ⟨j0, ?_⟩
      refine d1 4 ?_
      have j0 := t0.nf
      refine k_call (xs := [.tmp 92]) (st_op rfl (want_n rfl)) n0 rfl rfl rfl (by decide) ok38 (rplain_calls _ _ j0.il n) ?_
      rintro n0 t0 ⟨rfl, k0⟩
      have t0 := j0.below k0.below
      refine ⟨_, rfl, fun k0 j0 => ?_⟩
      have k0 := sWI t0 0 (pB 0 0 pn)
      refine ⟨k0, ?_⟩
      refine dtA 5 f0 j0 k0 (fun n0 f1 => ?_)
      refine dtA 6 f0 f1 k0 (fun n0 j0 => ?_)
      refine wpAnyH_done (by kernel_rfl) (b1 _ _ ?_) _
      refine x_then_n (m0 _ _ ?_)
      refine wp_ret ?_
      refine x_block_r ?_
      refine x_then_r ?_
      refine e_ret2 j0 rfl rfl rfl rfl ?_
      have j0 : bindL n = ([]) ++ ([0, 1]) := by rcases (show n.K = 4 by omega) with h <;> simp [bindL, h, shp]
      rw [j0]
      have j0 := own_cap (t0.res (i := 1) rfl)
      obtain ⟨m0, b1⟩ := t0.row_data (i := 1) rfl (fun _ h => h)
      have t0 := m0.data (dRow 1 z0 ((([]) ++ ([0, 1]) : List Int).length) h0 (encIs (([]) ++ ([0, 1])))) ⟨j0, b1⟩
      refine ⟨z0, h0, ?_, t0.fr, t0.rx 1⟩
      exact ret_t2 rfl (ret_b (by (rw [(right_plain (by omega) (by omega) (by omega))]; done) ))
     ·
      have t0 := p0.setb (d := 87) (b := false) rfl (decide_eq_false q0)
      refine wp_cond_false (t0.ev rfl) ?_
      refine c_join (fun ga gw => Reg ga 228 [(1, .pointer (some ⟨i0, 0, none⟩)), (2, .slice none 0 0), (3, .bool false), (4, .slice (some ⟨d0, 0, none⟩) 0 0), (7, .int .i64 (n.K)), (94, .bool ((decide ((n.K) = 5)) || ((decide ((n.K) = 15)) || ((decide ((n.K) = 19)) || (decide ((n.K) = 23)))))), (1000000, .bool false)] ∧ St w0 Z none_ gw [.box i0 32 [.int .i64 (n.K), .int .i64 (n.N), .int .i64 (n.M), .string n.S], .row (some ⟨d0, 0, none⟩) 0 0 3 1 (encIs ([]))] []) ?_ ?_
      ·
       refine wsc (fun q0 p0 => ?_)
       refine r_eql sv t0 rfl rfl rfl rfl (by decide) (fun q0 h0 => ?_)
       refine asg h0 (fun q0 t0 => ?_)
       refine wpList_nil (x_then_n (p0 _ _ ?_))
       rcases Decidable.em ((n.K) = 5) with p0 | p0
       ·
        have q0 := t0.setb (d := 94) (b := true) rfl (decide_eq_true p0)
        refine wp_cond_true (q0.ev rfl) ?_
        refine wp_skip ?_
        exact x_then_n ⟨(q0.sub (rc rfl (rc rfl (rc rfl (rc rfl (rc rfl (rc (rb rfl (by (simp only [decide_eq_true p0, if_pos p0, bl]; done))) (rc rfl rnl)))))))), o0⟩
       ·
        have q0 := t0.setb (d := 94) (b := false) rfl (decide_eq_false p0)
        refine wp_cond_false (q0.ev rfl) ?_
        refine wsc (fun t0 h0 => ?_)
        refine r_eql sv q0 rfl rfl rfl rfl (by decide) (fun t0 z0 => ?_)
        refine asg z0 (fun t0 q0 => ?_)
        refine wpList_nil (x_then_n (h0 _ _ ?_))
        rcases Decidable.em ((n.K) = 15) with h0 | h0
        ·
         have t0 := q0.setb (d := 94) (b := true) rfl (decide_eq_true h0)
         refine wp_cond_true (t0.ev rfl) ?_
         refine wp_skip ?_
         exact x_then_n ⟨(t0.sub (rc rfl (rc rfl (rc rfl (rc rfl (rc rfl (rc (rb rfl (by (simp only [decide_eq_false p0, if_neg p0, decide_eq_true h0, if_pos h0, bl]; done))) (rc rfl rnl)))))))), o0⟩
        ·
         have t0 := q0.setb (d := 94) (b := false) rfl (decide_eq_false h0)
         refine wp_cond_false (t0.ev rfl) ?_
         refine wsc (fun q0 z0 => ?_)
         refine r_eql sv t0 rfl rfl rfl rfl (by decide) (fun q0 b1 => ?_)
         refine asg b1 (fun q0 t0 => ?_)
         refine wpList_nil (x_then_n (z0 _ _ ?_))
         rcases Decidable.em ((n.K) = 19) with z0 | z0
         ·
          have q0 := t0.setb (d := 94) (b := true) rfl (decide_eq_true z0)
          refine wp_cond_true (q0.ev rfl) ?_
          refine wp_skip ?_
          exact x_then_n ⟨(q0.sub (rc rfl (rc rfl (rc rfl (rc rfl (rc rfl (rc (rb rfl (by (simp only [decide_eq_false p0, if_neg p0, decide_eq_false h0, if_neg h0, decide_eq_true z0, if_pos z0, bl]; done))) (rc rfl rnl)))))))), o0⟩
         ·
          have q0 := t0.setb (d := 94) (b := false) rfl (decide_eq_false z0)
          refine wp_cond_false (q0.ev rfl) ?_
          refine c_region ?_
          refine r_eql sv q0 rfl rfl rfl rfl (by decide) (fun t0 b1 => ?_)
          refine asg b1 (fun t0 q0 => ?_)
          refine wpList_nil ?_
          exact x_then_n ⟨(q0.sub (rc rfl (rc rfl (rc rfl (rc rfl (rc rfl (rc (rb rfl (by (simp only [decide_eq_false p0, if_neg p0, decide_eq_false h0, if_neg h0, decide_eq_false z0, if_neg z0, bl]; done))) (rc rfl rnl)))))))), o0⟩
      rintro q0 z0 ⟨h0, p0⟩
      rcases Bool.eq_false_or_eq_true (((decide ((n.K) = 5)) || ((decide ((n.K) = 15)) || ((decide ((n.K) = 19)) || (decide ((n.K) = 23)))))) with z0 | z0
      ·
       have q0 := z0
       try simp only [Bool.or_eq_true, Bool.and_eq_true, Bool.not_eq_true', Bool.not_eq_false', decide_eq_true_eq, decide_eq_false_iff_not, Bool.or_eq_false_iff, Bool.and_eq_false_iff] at q0
       have q0 := h0.setb (d := 94) (b := true) rfl z0
       refine wp_cond_true (q0.ev rfl) ?_
       refine wp_seq_k (fun o0 t0 => ?_)
       obtain ⟨o0, b1, m0⟩ := p0.agree
       refine d_reg3 (n := 7) m0 0 (pB 0 0 pn) (pan_then (pan_block (pan_then pan_body))) (fun b1 o0 j0 n0 f1 k0 => ?_)
       refine dtM 0 o0 q0 k0 (fun n0 b1 => ?_)
       refine dt 3 rfl o0 b1 (want_n rfl) (fun x hx => m_loadCN (sy b1) b1 rfl rfl rfl (CellsAt.cons_ (hx.c 0) (CellsAt.cons_ (hx.c 1) (CellsAt.cons_ (hx.c 2) (CellsAt.cons_ (hx.c 3) (CellsAt.nil _ _))))) Tryd.underlying32 rfl sz32 (by decide) gt) k0 (fun n0 q0 => ?_)
       refine d1 1 ?_
       refine mbs [(0, .const (.int .i64 0)), (1, .const (.int .i64 0))] [.int .i64 0, .int .i64 0] (st_opV rfl (want_n rfl)) q0 f1 Tryd.underlying56 zi3 (fun n0 b1 k0 m0 f0 => ?_)
       have k0 := sWI f0 0 (pB 0 0 pn)
       refine ⟨k0, ?_⟩
       refine d1 2 ?_
       refine m_appendF (f := encI) (i := 1) ([]) ([0, 0]) (st_opV rfl (want_n rfl)) m0 f0 rfl rfl rfl rfl rfl encI_len (encI_one _) Tryd.underlying56 zi3 rfl rfl (own_lnews (f := encI) (f0.res (i := 2) rfl)) rfl (by first | omega | (simp only [List.length_cons, List.length_nil]; omega)) (by decide) (fun k0 b1 n0 q0 f1 y0 u0 => ?_)
       have f1 : (([]) ++ ([0, 0]) : List Int).length = 2 := by (simp only [List.length_append, List.length_take, List.length_cons, List.length_nil]; done)
       have f1 := u0.erase 2
       have u0 := sWI f1 0 (pB 0 0 pn)
       refine ⟨u0, ?_⟩
       refine d1 4 ?_
       have u0 := f1.nf
       refine k_call (xs := [.tmp 102]) (st_op rfl (want_n rfl)) y0 rfl rfl rfl (by decide) ok38 (rplain_calls _ _ u0.il n) ?_
       rintro y0 f1 ⟨rfl, b1⟩
       have f1 := u0.below b1.below
       refine ⟨_, rfl, fun b1 u0 => ?_⟩
       have b1 := sWI f1 0 (pB 0 0 pn)
       refine ⟨b1, ?_⟩
       refine dtA 5 o0 u0 b1 (fun y0 k0 => ?_)
       refine dtA 6 o0 k0 b1 (fun y0 u0 => ?_)
       refine wpAnyH_done (by kernel_rfl) (j0 _ _ ?_) _
       refine x_then_n (t0 _ _ ?_)
       refine wp_ret ?_
       refine x_block_r ?_
       refine x_then_r ?_
       refine e_ret2 u0 rfl rfl rfl rfl ?_
       have u0 : bindL n = ([]) ++ ([0, 0]) := by rcases (show n.K = 5 ∨ n.K = 15 ∨ n.K = 19 ∨ n.K = 23 by omega) with h | h | h | h <;> simp [bindL, h, shp]
       rw [u0]
       have u0 := own_cap (f1.res (i := 1) rfl)
       obtain ⟨t0, j0⟩ := f1.row_data (i := 1) rfl (fun _ h => h)
       have f1 := t0.data (dRow 1 n0 ((([]) ++ ([0, 0]) : List Int).length) q0 (encIs (([]) ++ ([0, 0])))) ⟨u0, j0⟩
       refine ⟨n0, q0, ?_, f1.fr, f1.rx 1⟩
       exact ret_t2 rfl (ret_b (by (rw [(right_plain (by omega) (by omega) (by omega))]; done) ))
      ·
       have f1 := or_fl z0
       have q0 := of_decide_eq_false f1
       have q0 := or_fr z0
       have f1 := or_fl q0
       have n0 := of_decide_eq_false f1
       have n0 := or_fr q0
       have q0 := or_fl n0
       have f1 := of_decide_eq_false q0
       have f1 := or_fr n0
       have n0 := of_decide_eq_false f1
       have n0 := h0.setb (d := 94) (b := false) rfl z0
       refine wp_cond_false (n0.ev rfl) ?_
       refine c_join (fun ga gw => Reg ga 228 [(1, .pointer (some ⟨i0, 0, none⟩)), (2, .slice none 0 0), (3, .bool false), (4, .slice (some ⟨d0, 0, none⟩) 0 0), (7, .int .i64 (n.K)), (104, .bool ((decide ((n.K) = 7)) || (decide ((n.K) = 18)))), (1000000, .bool false)] ∧ St w0 Z none_ gw [.box i0 32 [.int .i64 (n.K), .int .i64 (n.N), .int .i64 (n.M), .string n.S], .row (some ⟨d0, 0, none⟩) 0 0 3 1 (encIs ([]))] []) ?_ ?_
       ·
        refine wsc (fun z0 h0 => ?_)
        refine r_eql sv n0 rfl rfl rfl rfl (by decide) (fun z0 f1 => ?_)
        refine asg f1 (fun z0 n0 => ?_)
        refine wpList_nil (x_then_n (h0 _ _ ?_))
        rcases Decidable.em ((n.K) = 7) with h0 | h0
        ·
         have z0 := n0.setb (d := 104) (b := true) rfl (decide_eq_true h0)
         refine wp_cond_true (z0.ev rfl) ?_
         refine wp_skip ?_
         exact x_then_n ⟨(z0.sub (rc rfl (rc rfl (rc rfl (rc rfl (rc rfl (rc (rb rfl (by (simp only [decide_eq_true h0, if_pos h0, bl]; done))) (rc rfl rnl)))))))), p0⟩
        ·
         have z0 := n0.setb (d := 104) (b := false) rfl (decide_eq_false h0)
         refine wp_cond_false (z0.ev rfl) ?_
         refine c_region ?_
         refine r_eql sv z0 rfl rfl rfl rfl (by decide) (fun n0 f1 => ?_)
         refine asg f1 (fun n0 z0 => ?_)
         refine wpList_nil ?_
         exact x_then_n ⟨(z0.sub (rc rfl (rc rfl (rc rfl (rc rfl (rc rfl (rc (rb rfl (by (simp only [decide_eq_false h0, if_neg h0, bl]; done))) (rc rfl rnl)))))))), p0⟩
       rintro z0 h0 ⟨p0, n0⟩
       rcases Bool.eq_false_or_eq_true (((decide ((n.K) = 7)) || (decide ((n.K) = 18)))) with h0 | h0
       ·
        have z0 := h0
        try simp only [Bool.or_eq_true, Bool.and_eq_true, Bool.not_eq_true', Bool.not_eq_false', decide_eq_true_eq, decide_eq_false_iff_not, Bool.or_eq_false_iff, Bool.and_eq_false_iff] at z0
        have z0 := p0.setb (d := 104) (b := true) rfl h0
        refine wp_cond_true (z0.ev rfl) ?_
        refine wp_seq_k (fun f1 q0 => ?_)
        obtain ⟨f1, j0, t0⟩ := n0.agree
        refine d_reg3 (n := 7) t0 0 (pB 0 0 pn) (pan_then (pan_block (pan_then pan_body))) (fun j0 f1 u0 y0 k0 b1 => ?_)
        refine dtM 0 f1 z0 b1 (fun y0 j0 => ?_)
        refine dt 3 rfl f1 j0 (want_n rfl) (fun x hx => m_loadCN (sy j0) j0 rfl rfl rfl (CellsAt.cons_ (hx.c 0) (CellsAt.cons_ (hx.c 1) (CellsAt.cons_ (hx.c 2) (CellsAt.cons_ (hx.c 3) (CellsAt.nil _ _))))) Tryd.underlying32 rfl sz32 (by decide) gt) b1 (fun y0 z0 => ?_)
        refine d1 1 ?_
        refine mbs [(0, .const (.int .i64 0)), (1, .const (.int .i64 0)), (2, .const (.int .i64 0))] [.int .i64 0, .int .i64 0, .int .i64 0] (st_opV rfl (want_n rfl)) z0 k0 Tryd.underlying56 zi3 (fun y0 j0 b1 t0 o0 => ?_)
        have b1 := sWI o0 0 (pB 0 0 pn)
        refine ⟨b1, ?_⟩
        refine d1 2 ?_
        refine m_appendF (f := encI) (i := 1) ([]) ([0, 0, 0]) (st_opV rfl (want_n rfl)) t0 o0 rfl rfl rfl rfl rfl encI_len (encI_one _) Tryd.underlying56 zi3 rfl rfl (own_lnews (f := encI) (o0.res (i := 2) rfl)) rfl (by first | omega | (simp only [List.length_cons, List.length_nil]; omega)) (by decide) (fun b1 j0 y0 z0 k0 f0 m0 => ?_)
        have k0 : (([]) ++ ([0, 0, 0]) : List Int).length = 3 := by (simp only [List.length_append, List.length_take, List.length_cons, List.length_nil]; done)
        have k0 := m0.erase 2
        have m0 := sWI k0 0 (pB 0 0 pn)
        refine ⟨m0, ?_⟩
        refine d1 4 ?_
        have m0 := k0.nf
        refine k_call (xs := [.tmp 110]) (st_op rfl (want_n rfl)) f0 rfl rfl rfl (by decide) ok38 (rplain_calls _ _ m0.il n) ?_
        rintro f0 k0 ⟨rfl, j0⟩
        have k0 := m0.below j0.below
        refine ⟨_, rfl, fun j0 m0 => ?_⟩
        have j0 := sWI k0 0 (pB 0 0 pn)
        refine ⟨j0, ?_⟩
        refine dtA 5 f1 m0 j0 (fun f0 b1 => ?_)
        refine dtA 6 f1 b1 j0 (fun f0 m0 => ?_)
        refine wpAnyH_done (by kernel_rfl) (u0 _ _ ?_) _
        refine x_then_n (q0 _ _ ?_)
        refine wp_ret ?_
        refine x_block_r ?_
        refine x_then_r ?_
        refine e_ret2 m0 rfl rfl rfl rfl ?_
        have m0 : bindL n = ([]) ++ ([0, 0, 0]) := by rcases (show n.K = 7 ∨ n.K = 18 by omega) with h | h <;> simp [bindL, h, shp]
        rw [m0]
        have m0 := own_cap (k0.res (i := 1) rfl)
        obtain ⟨q0, u0⟩ := k0.row_data (i := 1) rfl (fun _ h => h)
        have k0 := q0.data (dRow 1 y0 ((([]) ++ ([0, 0, 0]) : List Int).length) z0 (encIs (([]) ++ ([0, 0, 0])))) ⟨m0, u0⟩
        refine ⟨y0, z0, ?_, k0.fr, k0.rx 1⟩
        exact ret_t2 rfl (ret_b (by (rw [(right_plain (by omega) (by omega) (by omega))]; done) ))
       ·
        have k0 := or_fl h0
        have z0 := of_decide_eq_false k0
        have z0 := or_fr h0
        have k0 := of_decide_eq_false z0
        have k0 := p0.setb (d := 104) (b := false) rfl h0
        refine wp_cond_false (k0.ev rfl) ?_
        refine c_join (fun ga gw => Reg ga 228 [(1, .pointer (some ⟨i0, 0, none⟩)), (2, .slice none 0 0), (3, .bool false), (4, .slice (some ⟨d0, 0, none⟩) 0 0), (7, .int .i64 (n.K)), (112, .bool ((decide ((n.K) = 8)) || ((decide ((n.K) = 9)) || ((decide ((n.K) = 12)) || (decide ((n.K) = 28)))))), (1000000, .bool false)] ∧ St w0 Z none_ gw [.box i0 32 [.int .i64 (n.K), .int .i64 (n.N), .int .i64 (n.M), .string n.S], .row (some ⟨d0, 0, none⟩) 0 0 3 1 (encIs ([]))] []) ?_ ?_
        ·
         refine wsc (fun h0 p0 => ?_)
         refine r_eql sv k0 rfl rfl rfl rfl (by decide) (fun h0 z0 => ?_)
         refine asg z0 (fun h0 k0 => ?_)
         refine wpList_nil (x_then_n (p0 _ _ ?_))
         rcases Decidable.em ((n.K) = 8) with p0 | p0
         ·
          have h0 := k0.setb (d := 112) (b := true) rfl (decide_eq_true p0)
          refine wp_cond_true (h0.ev rfl) ?_
          refine wp_skip ?_
          exact x_then_n ⟨(h0.sub (rc rfl (rc rfl (rc rfl (rc rfl (rc rfl (rc (rb rfl (by (simp only [decide_eq_true p0, if_pos p0, bl]; done))) (rc rfl rnl)))))))), n0⟩
         ·
          have h0 := k0.setb (d := 112) (b := false) rfl (decide_eq_false p0)
          refine wp_cond_false (h0.ev rfl) ?_
          refine wsc (fun k0 z0 => ?_)
          refine r_eql sv h0 rfl rfl rfl rfl (by decide) (fun k0 y0 => ?_)
          refine asg y0 (fun k0 h0 => ?_)
          refine wpList_nil (x_then_n (z0 _ _ ?_))
          rcases Decidable.em ((n.K) = 9) with z0 | z0
          ·
           have k0 := h0.setb (d := 112) (b := true) rfl (decide_eq_true z0)
           refine wp_cond_true (k0.ev rfl) ?_
           refine wp_skip ?_
           exact x_then_n ⟨(k0.sub (rc rfl (rc rfl (rc rfl (rc rfl (rc rfl (rc (rb rfl (by (simp only [decide_eq_false p0, if_neg p0, decide_eq_true z0, if_pos z0, bl]; done))) (rc rfl rnl)))))))), n0⟩
          ·
           have k0 := h0.setb (d := 112) (b := false) rfl (decide_eq_false z0)
           refine wp_cond_false (k0.ev rfl) ?_
           refine wsc (fun h0 y0 => ?_)
           refine r_eql sv k0 rfl rfl rfl rfl (by decide) (fun h0 u0 => ?_)
           refine asg u0 (fun h0 k0 => ?_)
           refine wpList_nil (x_then_n (y0 _ _ ?_))
           rcases Decidable.em ((n.K) = 12) with y0 | y0
           ·
            have h0 := k0.setb (d := 112) (b := true) rfl (decide_eq_true y0)
            refine wp_cond_true (h0.ev rfl) ?_
            refine wp_skip ?_
            exact x_then_n ⟨(h0.sub (rc rfl (rc rfl (rc rfl (rc rfl (rc rfl (rc (rb rfl (by (simp only [decide_eq_false p0, if_neg p0, decide_eq_false z0, if_neg z0, decide_eq_true y0, if_pos y0, bl]; done))) (rc rfl rnl)))))))), n0⟩
           ·
            have h0 := k0.setb (d := 112) (b := false) rfl (decide_eq_false y0)
            refine wp_cond_false (h0.ev rfl) ?_
            refine c_region ?_
            refine r_eql sv h0 rfl rfl rfl rfl (by decide) (fun k0 u0 => ?_)
            refine asg u0 (fun k0 h0 => ?_)
            refine wpList_nil ?_
            exact x_then_n ⟨(h0.sub (rc rfl (rc rfl (rc rfl (rc rfl (rc rfl (rc (rb rfl (by (simp only [decide_eq_false p0, if_neg p0, decide_eq_false z0, if_neg z0, decide_eq_false y0, if_neg y0, bl]; done))) (rc rfl rnl)))))))), n0⟩
        rintro h0 y0 ⟨z0, p0⟩
        rcases Bool.eq_false_or_eq_true (((decide ((n.K) = 8)) || ((decide ((n.K) = 9)) || ((decide ((n.K) = 12)) || (decide ((n.K) = 28)))))) with y0 | y0
        ·
         have h0 := y0
         try simp only [Bool.or_eq_true, Bool.and_eq_true, Bool.not_eq_true', Bool.not_eq_false', decide_eq_true_eq, decide_eq_false_iff_not, Bool.or_eq_false_iff, Bool.and_eq_false_iff] at h0
         have h0 := z0.setb (d := 112) (b := true) rfl y0
         refine wp_cond_true (h0.ev rfl) ?_
         refine wp_seq_k (fun n0 k0 => ?_)
         obtain ⟨n0, u0, q0⟩ := p0.agree
         refine d_reg3 (n := 7) q0 0 (pB 0 0 pn) (pan_then (pan_block (pan_then pan_body))) (fun u0 n0 m0 f0 b1 j0 => ?_)
         refine dtM 0 n0 h0 j0 (fun f0 u0 => ?_)
         refine dt 3 rfl n0 u0 (want_n rfl) (fun x hx => m_loadCN (sy u0) u0 rfl rfl rfl (CellsAt.cons_ (hx.c 0) (CellsAt.cons_ (hx.c 1) (CellsAt.cons_ (hx.c 2) (CellsAt.cons_ (hx.c 3) (CellsAt.nil _ _))))) Tryd.underlying32 rfl sz32 (by decide) gt) j0 (fun f0 h0 => ?_)
         refine d1 1 ?_
         refine mbs [(0, .const (.int .i64 0))] [.int .i64 0] (st_opV rfl (want_n rfl)) h0 b1 Tryd.underlying56 zi3 (fun f0 u0 j0 q0 f1 => ?_)
         have j0 := sWI f1 0 (pB 0 0 pn)
         refine ⟨j0, ?_⟩
         refine d1 2 ?_
         refine m_appendF (f := encI) (i := 1) ([]) ([0]) (st_opV rfl (want_n rfl)) q0 f1 rfl rfl rfl rfl rfl encI_len (encI_one _) Tryd.underlying56 zi3 rfl rfl (own_lnews (f := encI) (f1.res (i := 2) rfl)) rfl (by first | omega | (simp only [List.length_cons, List.length_nil]; omega)) (by decide) (fun j0 u0 f0 h0 b1 o0 t0 => ?_)
         have b1 : (([]) ++ ([0]) : List Int).length = 1 := by (simp only [List.length_append, List.length_take, List.length_cons, List.length_nil]; done)
         have b1 := t0.erase 2
         have t0 := sWI b1 0 (pB 0 0 pn)
         refine ⟨t0, ?_⟩
         refine d1 4 ?_
         have t0 := b1.nf
         refine k_call (xs := [.tmp 120]) (st_op rfl (want_n rfl)) o0 rfl rfl rfl (by decide) ok38 (rplain_calls _ _ t0.il n) ?_
         rintro o0 b1 ⟨rfl, u0⟩
         have b1 := t0.below u0.below
         refine ⟨_, rfl, fun u0 t0 => ?_⟩
         have u0 := sWI b1 0 (pB 0 0 pn)
         refine ⟨u0, ?_⟩
         refine dtA 5 n0 t0 u0 (fun o0 j0 => ?_)
         refine dtA 6 n0 j0 u0 (fun o0 t0 => ?_)
         refine wpAnyH_done (by kernel_rfl) (m0 _ _ ?_) _
         refine x_then_n (k0 _ _ ?_)
         refine wp_ret ?_
         refine x_block_r ?_
         refine x_then_r ?_
         refine e_ret2 t0 rfl rfl rfl rfl ?_
         have t0 : bindL n = ([]) ++ ([0]) := by rcases (show n.K = 8 ∨ n.K = 9 ∨ n.K = 12 ∨ n.K = 28 by omega) with h | h | h | h <;> simp [bindL, h, shp]
         rw [t0]
         have t0 := own_cap (b1.res (i := 1) rfl)
         obtain ⟨k0, m0⟩ := b1.row_data (i := 1) rfl (fun _ h => h)
         have b1 := k0.data (dRow 1 f0 ((([]) ++ ([0]) : List Int).length) h0 (encIs (([]) ++ ([0])))) ⟨t0, m0⟩
         refine ⟨f0, h0, ?_, b1.fr, b1.rx 1⟩
         exact ret_t2 rfl (ret_b (by (rw [(right_plain (by omega) (by omega) (by omega))]; done) ))
        ·
         have b1 := or_fl y0
         have h0 := of_decide_eq_false b1
         have h0 := or_fr y0
         have b1 := or_fl h0
         have f0 := of_decide_eq_false b1
         have f0 := or_fr h0
         have h0 := or_fl f0
         have b1 := of_decide_eq_false h0
         have b1 := or_fr f0
         have f0 := of_decide_eq_false b1
         have f0 := z0.setb (d := 112) (b := false) rfl y0
         refine wp_cond_false (f0.ev rfl) ?_
         refine c_join (fun ga gw => Reg ga 228 [(1, .pointer (some ⟨i0, 0, none⟩)), (2, .slice none 0 0), (3, .bool false), (4, .slice (some ⟨d0, 0, none⟩) 0 0), (7, .int .i64 (n.K)), (122, .bool ((decide ((n.K) = 10)) || ((decide ((n.K) = 11)) || ((decide ((n.K) = 14)) || ((decide ((n.K) = 16)) || ((decide ((n.K) = 17)) || (decide ((n.K) = 29)))))))), (1000000, .bool false)] ∧ St w0 Z none_ gw [.box i0 32 [.int .i64 (n.K), .int .i64 (n.N), .int .i64 (n.M), .string n.S], .row (some ⟨d0, 0, none⟩) 0 0 3 1 (encIs ([]))] []) ?_ ?_
         ·
          refine wsc (fun y0 z0 => ?_)
          refine r_eql sv f0 rfl rfl rfl rfl (by decide) (fun y0 b1 => ?_)
          refine asg b1 (fun y0 f0 => ?_)
          refine wpList_nil (x_then_n (z0 _ _ ?_))
          rcases Decidable.em ((n.K) = 10) with z0 | z0
          ·
           have y0 := f0.setb (d := 122) (b := true) rfl (decide_eq_true z0)
           refine wp_cond_true (y0.ev rfl) ?_
           refine wp_skip ?_
           exact x_then_n ⟨(y0.sub (rc rfl (rc rfl (rc rfl (rc rfl (rc rfl (rc (rb rfl (by (simp only [decide_eq_true z0, if_pos z0, bl]; done))) (rc rfl rnl)))))))), p0⟩
          ·
           have y0 := f0.setb (d := 122) (b := false) rfl (decide_eq_false z0)
           refine wp_cond_false (y0.ev rfl) ?_
           refine wsc (fun f0 b1 => ?_)
           refine r_eql sv y0 rfl rfl rfl rfl (by decide) (fun f0 h0 => ?_)
           refine asg h0 (fun f0 y0 => ?_)
           refine wpList_nil (x_then_n (b1 _ _ ?_))
           rcases Decidable.em ((n.K) = 11) with b1 | b1
           ·
            have f0 := y0.setb (d := 122) (b := true) rfl (decide_eq_true b1)
            refine wp_cond_true (f0.ev rfl) ?_
            refine wp_skip ?_
            exact x_then_n ⟨(f0.sub (rc rfl (rc rfl (rc rfl (rc rfl (rc rfl (rc (rb rfl (by (simp only [decide_eq_false z0, if_neg z0, decide_eq_true b1, if_pos b1, bl]; done))) (rc rfl rnl)))))))), p0⟩
           ·
            have f0 := y0.setb (d := 122) (b := false) rfl (decide_eq_false b1)
            refine wp_cond_false (f0.ev rfl) ?_
            refine wsc (fun y0 h0 => ?_)
            refine r_eql sv f0 rfl rfl rfl rfl (by decide) (fun y0 m0 => ?_)
            refine asg m0 (fun y0 f0 => ?_)
            refine wpList_nil (x_then_n (h0 _ _ ?_))
            rcases Decidable.em ((n.K) = 14) with h0 | h0
            ·
             have y0 := f0.setb (d := 122) (b := true) rfl (decide_eq_true h0)
             refine wp_cond_true (y0.ev rfl) ?_
             refine wp_skip ?_
             exact x_then_n ⟨(y0.sub (rc rfl (rc rfl (rc rfl (rc rfl (rc rfl (rc (rb rfl (by (simp only [decide_eq_false z0, if_neg z0, decide_eq_false b1, if_neg b1, decide_eq_true h0, if_pos h0, bl]; done))) (rc rfl rnl)))))))), p0⟩
            ·
             have y0 := f0.setb (d := 122) (b := false) rfl (decide_eq_false h0)
             refine wp_cond_false (y0.ev rfl) ?_
             refine wsc (fun f0 m0 => ?_)
             refine r_eql sv y0 rfl rfl rfl rfl (by decide) (fun f0 k0 => ?_)
             refine asg k0 (fun f0 y0 => ?_)
             refine wpList_nil (x_then_n (m0 _ _ ?_))
             rcases Decidable.em ((n.K) = 16) with m0 | m0
             ·
              have f0 := y0.setb (d := 122) (b := true) rfl (decide_eq_true m0)
              refine wp_cond_true (f0.ev rfl) ?_
              refine wp_skip ?_
              exact x_then_n ⟨(f0.sub (rc rfl (rc rfl (rc rfl (rc rfl (rc rfl (rc (rb rfl (by (simp only [decide_eq_false z0, if_neg z0, decide_eq_false b1, if_neg b1, decide_eq_false h0, if_neg h0, decide_eq_true m0, if_pos m0, bl]; done))) (rc rfl rnl)))))))), p0⟩
             ·
              have f0 := y0.setb (d := 122) (b := false) rfl (decide_eq_false m0)
              refine wp_cond_false (f0.ev rfl) ?_
              refine wsc (fun y0 k0 => ?_)
              refine r_eql sv f0 rfl rfl rfl rfl (by decide) (fun y0 t0 => ?_)
              refine asg t0 (fun y0 f0 => ?_)
              refine wpList_nil (x_then_n (k0 _ _ ?_))
              rcases Decidable.em ((n.K) = 17) with k0 | k0
              ·
               have y0 := f0.setb (d := 122) (b := true) rfl (decide_eq_true k0)
               refine wp_cond_true (y0.ev rfl) ?_
               refine wp_skip ?_
               exact x_then_n ⟨(y0.sub (rc rfl (rc rfl (rc rfl (rc rfl (rc rfl (rc (rb rfl (by (simp only [decide_eq_false z0, if_neg z0, decide_eq_false b1, if_neg b1, decide_eq_false h0, if_neg h0, decide_eq_false m0, if_neg m0, decide_eq_true k0, if_pos k0, bl]; done))) (rc rfl rnl)))))))), p0⟩
              ·
               have y0 := f0.setb (d := 122) (b := false) rfl (decide_eq_false k0)
               refine wp_cond_false (y0.ev rfl) ?_
               refine c_region ?_
               refine r_eql sv y0 rfl rfl rfl rfl (by decide) (fun f0 t0 => ?_)
               refine asg t0 (fun f0 y0 => ?_)
               refine wpList_nil ?_
               exact x_then_n ⟨(y0.sub (rc rfl (rc rfl (rc rfl (rc rfl (rc rfl (rc (rb rfl (by (simp only [decide_eq_false z0, if_neg z0, decide_eq_false b1, if_neg b1, decide_eq_false h0, if_neg h0, decide_eq_false m0, if_neg m0, decide_eq_false k0, if_neg k0, bl]; done))) (rc rfl rnl)))))))), p0⟩
         rintro y0 k0 ⟨m0, h0⟩
         rcases Bool.eq_false_or_eq_true (((decide ((n.K) = 10)) || ((decide ((n.K) = 11)) || ((decide ((n.K) = 14)) || ((decide ((n.K) = 16)) || ((decide ((n.K) = 17)) || (decide ((n.K) = 29)))))))) with k0 | k0
         ·
          have y0 := k0
          try simp only [Bool.or_eq_true, Bool.and_eq_true, Bool.not_eq_true', Bool.not_eq_false', decide_eq_true_eq, decide_eq_false_iff_not, Bool.or_eq_false_iff, Bool.and_eq_false_iff] at y0
          have y0 := m0.setb (d := 122) (b := true) rfl k0
          refine wp_cond_true (y0.ev rfl) ?_
          refine wsc (fun b1 z0 => ?_)
          refine mv y0 (fun b1 p0 => ?_)
          refine m_loadN (i := 0) (vs := [.int .i64 (n.K), .int .i64 (n.N), .int .i64 (n.M), .string n.S]) sv p0 h0 rfl rfl rfl rfl rfl Tryd.underlying32 rfl sz32 (by decide) (fun b1 y0 => ?_)
          have b1 := h0.nf
          refine k_call (xs := [.tmp 130]) se y0 rfl rfl rfl (by decide) ok38 (rplain_calls _ _ b1.il n) ?_
          rintro y0 p0 ⟨rfl, f0⟩
          have p0 := b1.below f0.below
          refine ⟨_, rfl, fun f0 b1 => ?_⟩
          refine asg b1 (fun f0 y0 => ?_)
          refine asg y0 (fun f0 b1 => ?_)
          refine wpList_nil (x_then_n (z0 _ _ ?_))
          refine wp_ret ?_
          refine x_block_r ?_
          refine x_then_r ?_
          refine e_ret2 b1 rfl rfl rfl rfl ?_
          have b1 : bindL n = [] := by rcases (show n.K = 10 ∨ n.K = 11 ∨ n.K = 14 ∨ n.K = 16 ∨ n.K = 17 ∨ n.K = 29 by omega) with h | h | h | h | h | h <;> simp [bindL, h, shp]
          rw [b1]
          have b1 := own_cap (p0.res (i := 1) rfl)
          obtain ⟨z0, f0⟩ := p0.row_data (i := 1) rfl (fun _ h => h)
          have p0 := z0.data (dRow 1 (some ⟨d0, 0, none⟩) 0 0 (encIs ([]))) ⟨b1, f0⟩
          refine ⟨(some ⟨d0, 0, none⟩), 0, ?_, p0.fr, p0.rx 0⟩
          exact ret_t2 rfl (ret_b (by (rw [(right_plain (by omega) (by omega) (by omega))]; done) ))
         ·
          have p0 := or_fl k0
          have f0 := of_decide_eq_false p0
          have f0 := or_fr k0
          have p0 := or_fl f0
          have z0 := of_decide_eq_false p0
          have z0 := or_fr f0
          have f0 := or_fl z0
          have p0 := of_decide_eq_false f0
          have p0 := or_fr z0
          have z0 := or_fl p0
          have f0 := of_decide_eq_false z0
          have f0 := or_fr p0
          have p0 := or_fl f0
          have z0 := of_decide_eq_false p0
          have z0 := or_fr f0
          have f0 := of_decide_eq_false z0
          have f0 := m0.setb (d := 122) (b := false) rfl k0
          refine wp_cond_false (f0.ev rfl) ?_
          refine wsc (fun k0 m0 => ?_)
          refine r_eql sv f0 rfl rfl rfl rfl (by decide) (fun k0 z0 => ?_)
          refine asg z0 (fun k0 f0 => ?_)
          refine wpList_nil (x_then_n (m0 _ _ ?_))
          rcases Decidable.em ((n.K) = 13) with m0 | m0
          ·
           have k0 := f0.setb (d := 132) (b := true) rfl (decide_eq_true m0)
           refine wp_cond_true (k0.ev rfl) ?_
           refine wp_seq_k (fun z0 p0 => ?_)
           obtain ⟨z0, b1, y0⟩ := h0.agree
           refine d_reg3 (n := 7) y0 0 (pB 0 0 pn) (pan_then (pan_block (pan_then pan_body))) (fun b1 z0 t0 o0 j0 u0 => ?_)
           refine dtM 0 z0 k0 u0 (fun o0 b1 => ?_)
           refine dt 3 rfl z0 b1 (want_n rfl) (fun x hx => m_loadCN (sy b1) b1 rfl rfl rfl (CellsAt.cons_ (hx.c 0) (CellsAt.cons_ (hx.c 1) (CellsAt.cons_ (hx.c 2) (CellsAt.cons_ (hx.c 3) (CellsAt.nil _ _))))) Tryd.underlying32 rfl sz32 (by decide) gt) u0 (fun o0 k0 => ?_)
           refine d1 1 ?_
           refine mbs [(0, .const (.int .i64 1)), (1, .const (.int .i64 0)), (2, .const (.int .i64 2)), (3, .const (.int .i64 0))] [.int .i64 1, .int .i64 0, .int .i64 2, .int .i64 0] (st_opV rfl (want_n rfl)) k0 j0 Tryd.underlying56 zi3 (fun o0 b1 u0 y0 n0 => ?_)
           have u0 := sWI n0 0 (pB 0 0 pn)
           refine ⟨u0, ?_⟩
           refine d1 2 ?_
           refine m_appendF (f := encI) (i := 1) ([]) ([1, 0, 2, 0]) (st_opV rfl (want_n rfl)) y0 n0 rfl rfl rfl rfl rfl encI_len (encI_one _) Tryd.underlying56 zi3 rfl rfl (own_lnews (f := encI) (n0.res (i := 2) rfl)) rfl (by first | omega | (simp only [List.length_cons, List.length_nil]; omega)) (by decide) (fun u0 b1 o0 k0 j0 f1 q0 => ?_)
           have j0 : (([]) ++ ([1, 0, 2, 0]) : List Int).length = 4 := by (simp only [List.length_append, List.length_take, List.length_cons, List.length_nil]; done)
           have j0 := q0.erase 2
           have q0 := sWI j0 0 (pB 0 0 pn)
           refine ⟨q0, ?_⟩
           refine d1 4 ?_
           have q0 := j0.nf
           refine k_call (xs := [.tmp 137]) (st_op rfl (want_n rfl)) f1 rfl rfl rfl (by decide) ok38 (rplain_calls _ _ q0.il n) ?_
           rintro f1 j0 ⟨rfl, b1⟩
           have j0 := q0.below b1.below
           refine ⟨_, rfl, fun b1 q0 => ?_⟩
           have b1 := sWI j0 0 (pB 0 0 pn)
           refine ⟨b1, ?_⟩
           refine dtA 5 z0 q0 b1 (fun f1 u0 => ?_)
           refine dtA 6 z0 u0 b1 (fun f1 q0 => ?_)
           refine wpAnyH_done (by kernel_rfl) (t0 _ _ ?_) _
           refine x_then_n (p0 _ _ ?_)
           refine wp_ret ?_
           refine x_block_r ?_
           refine x_then_r ?_
           refine e_ret2 q0 rfl rfl rfl rfl ?_
           have q0 : bindL n = ([]) ++ ([1, 0, 2, 0]) := by rcases (show n.K = 13 by omega) with h <;> simp [bindL, h, shp]
           rw [q0]
           have q0 := own_cap (j0.res (i := 1) rfl)
           obtain ⟨p0, t0⟩ := j0.row_data (i := 1) rfl (fun _ h => h)
           have j0 := p0.data (dRow 1 o0 ((([]) ++ ([1, 0, 2, 0]) : List Int).length) k0 (encIs (([]) ++ ([1, 0, 2, 0])))) ⟨q0, t0⟩
           refine ⟨o0, k0, ?_, j0.fr, j0.rx 1⟩
           exact ret_t2 rfl (ret_b (by (rw [(right_plain (by omega) (by omega) (by omega))]; done) ))
          ·
           have j0 := f0.setb (d := 132) (b := false) rfl (decide_eq_false m0)
           refine wp_cond_false (j0.ev rfl) ?_
           refine wsc (fun m0 f0 => ?_)
           refine r_eql sv j0 rfl rfl rfl rfl (by decide) (fun m0 k0 => ?_)
           refine asg k0 (fun m0 j0 => ?_)
           refine wpList_nil (x_then_n (f0 _ _ ?_))
           rcases Decidable.em ((n.K) = 20) with f0 | f0
           ·
            have m0 := j0.setb (d := 139) (b := true) rfl (decide_eq_true f0)
            refine wp_cond_true (m0.ev rfl) ?_
            refine wp_seq_k (fun k0 o0 => ?_)
            obtain ⟨k0, t0, p0⟩ := h0.agree
            refine d_reg3 (n := 7) p0 0 (pB 0 0 pn) (pan_then (pan_block (pan_then pan_body))) (fun t0 k0 q0 f1 u0 b1 => ?_)
            refine dtM 0 k0 m0 b1 (fun f1 t0 => ?_)
            refine dt 3 rfl k0 t0 (want_n rfl) (fun x hx => m_loadCN (sy t0) t0 rfl rfl rfl (CellsAt.cons_ (hx.c 0) (CellsAt.cons_ (hx.c 1) (CellsAt.cons_ (hx.c 2) (CellsAt.cons_ (hx.c 3) (CellsAt.nil _ _))))) Tryd.underlying32 rfl sz32 (by decide) gt) b1 (fun f1 m0 => ?_)
            refine d1 1 ?_
            refine mbs [(0, .const (.int .i64 0)), (1, .const (.int .i64 0)), (2, .const (.int .i64 0)), (3, .const (.int .i64 0))] [.int .i64 0, .int .i64 0, .int .i64 0, .int .i64 0] (st_opV rfl (want_n rfl)) m0 u0 Tryd.underlying56 zi3 (fun f1 t0 b1 p0 z0 => ?_)
            have b1 := sWI z0 0 (pB 0 0 pn)
            refine ⟨b1, ?_⟩
            refine d1 2 ?_
            refine m_appendF (f := encI) (i := 1) ([]) ([0, 0, 0, 0]) (st_opV rfl (want_n rfl)) p0 z0 rfl rfl rfl rfl rfl encI_len (encI_one _) Tryd.underlying56 zi3 rfl rfl (own_lnews (f := encI) (z0.res (i := 2) rfl)) rfl (by first | omega | (simp only [List.length_cons, List.length_nil]; omega)) (by decide) (fun b1 t0 f1 m0 u0 n0 y0 => ?_)
            have u0 : (([]) ++ ([0, 0, 0, 0]) : List Int).length = 4 := by (simp only [List.length_append, List.length_take, List.length_cons, List.length_nil]; done)
            have u0 := y0.erase 2
            have y0 := sWI u0 0 (pB 0 0 pn)
            refine ⟨y0, ?_⟩
            refine d1 4 ?_
            have y0 := u0.nf
            refine k_call (xs := [.tmp 144]) (st_op rfl (want_n rfl)) n0 rfl rfl rfl (by decide) ok38 (rplain_calls _ _ y0.il n) ?_
            rintro n0 u0 ⟨rfl, t0⟩
            have u0 := y0.below t0.below
            refine ⟨_, rfl, fun t0 y0 => ?_⟩
            have t0 := sWI u0 0 (pB 0 0 pn)
            refine ⟨t0, ?_⟩
            refine dtA 5 k0 y0 t0 (fun n0 b1 => ?_)
            refine dtA 6 k0 b1 t0 (fun n0 y0 => ?_)
            refine wpAnyH_done (by kernel_rfl) (q0 _ _ ?_) _
            refine x_then_n (o0 _ _ ?_)
            refine wp_ret ?_
            refine x_block_r ?_
            refine x_then_r ?_
            refine e_ret2 y0 rfl rfl rfl rfl ?_
            have y0 : bindL n = ([]) ++ ([0, 0, 0, 0]) := by rcases (show n.K = 20 by omega) with h <;> simp [bindL, h, shp]
            rw [y0]
            have y0 := own_cap (u0.res (i := 1) rfl)
            obtain ⟨o0, q0⟩ := u0.row_data (i := 1) rfl (fun _ h => h)
            have u0 := o0.data (dRow 1 f1 ((([]) ++ ([0, 0, 0, 0]) : List Int).length) m0 (encIs (([]) ++ ([0, 0, 0, 0])))) ⟨y0, q0⟩
            refine ⟨f1, m0, ?_, u0.fr, u0.rx 1⟩
            exact ret_t2 rfl (ret_b (by (rw [(right_plain (by omega) (by omega) (by omega))]; done) ))
           ·
            have u0 := j0.setb (d := 139) (b := false) rfl (decide_eq_false f0)
            refine wp_cond_false (u0.ev rfl) ?_
            refine wsc (fun f0 j0 => ?_)
            refine r_eql sv u0 rfl rfl rfl rfl (by decide) (fun f0 m0 => ?_)
            refine asg m0 (fun f0 u0 => ?_)
            refine wpList_nil (x_then_n (j0 _ _ ?_))
            rcases Decidable.em ((n.K) = 21) with j0 | j0
            ·
             have f0 := u0.setb (d := 146) (b := true) rfl (decide_eq_true j0)
             refine wp_cond_true (f0.ev rfl) ?_
             refine wp_seq_k (fun m0 f1 => ?_)
             obtain ⟨m0, q0, o0⟩ := h0.agree
             refine d_reg3 (n := 7) o0 0 (pB 0 0 pn) (pan_then (pan_block (pan_then pan_body))) (fun q0 m0 y0 n0 b1 t0 => ?_)
             refine dtM 0 m0 f0 t0 (fun n0 q0 => ?_)
             refine dt 3 rfl m0 q0 (want_n rfl) (fun x hx => m_loadCN (sy q0) q0 rfl rfl rfl (CellsAt.cons_ (hx.c 0) (CellsAt.cons_ (hx.c 1) (CellsAt.cons_ (hx.c 2) (CellsAt.cons_ (hx.c 3) (CellsAt.nil _ _))))) Tryd.underlying32 rfl sz32 (by decide) gt) t0 (fun n0 f0 => ?_)
             refine d1 1 ?_
             refine mbs [(0, .const (.int .i64 0)), (1, .const (.int .i64 0)), (2, .const (.int .i64 1)), (3, .const (.int .i64 0)), (4, .const (.int .i64 0)), (5, .const (.int .i64 0))] [.int .i64 0, .int .i64 0, .int .i64 1, .int .i64 0, .int .i64 0, .int .i64 0] (st_opV rfl (want_n rfl)) f0 b1 Tryd.underlying56 zi3 (fun n0 q0 t0 o0 k0 => ?_)
             have t0 := sWI k0 0 (pB 0 0 pn)
             refine ⟨t0, ?_⟩
             refine d1 2 ?_
             refine m_appendF (f := encI) (i := 1) ([]) ([0, 0, 1, 0, 0, 0]) (st_opV rfl (want_n rfl)) o0 k0 rfl rfl rfl rfl rfl encI_len (encI_one _) Tryd.underlying56 zi3 rfl rfl (own_lnews (f := encI) (k0.res (i := 2) rfl)) rfl (by first | omega | (simp only [List.length_cons, List.length_nil]; omega)) (by decide) (fun t0 q0 n0 f0 b1 z0 p0 => ?_)
             have b1 : (([]) ++ ([0, 0, 1, 0, 0, 0]) : List Int).length = 6 := by (simp only [List.length_append, List.length_take, List.length_cons, List.length_nil]; done)
             have b1 := p0.erase 2
             have p0 := sWI b1 0 (pB 0 0 pn)
             refine ⟨p0, ?_⟩
             refine d1 4 ?_
             have p0 := b1.nf
             refine k_call (xs := [.tmp 151]) (st_op rfl (want_n rfl)) z0 rfl rfl rfl (by decide) ok38 (rplain_calls _ _ p0.il n) ?_
             rintro z0 b1 ⟨rfl, q0⟩
             have b1 := p0.below q0.below
             refine ⟨_, rfl, fun q0 p0 => ?_⟩
             have q0 := sWI b1 0 (pB 0 0 pn)
             refine ⟨q0, ?_⟩
             refine dtA 5 m0 p0 q0 (fun z0 t0 => ?_)
             refine dtA 6 m0 t0 q0 (fun z0 p0 => ?_)
             refine wpAnyH_done (by kernel_rfl) (y0 _ _ ?_) _
             refine x_then_n (f1 _ _ ?_)
             refine wp_ret ?_
             refine x_block_r ?_
             refine x_then_r ?_
             refine e_ret2 p0 rfl rfl rfl rfl ?_
             have p0 : bindL n = ([]) ++ ([0, 0, 1, 0, 0, 0]) := by rcases (show n.K = 21 by omega) with h <;> simp [bindL, h, shp]
             rw [p0]
             have p0 := own_cap (b1.res (i := 1) rfl)
             obtain ⟨f1, y0⟩ := b1.row_data (i := 1) rfl (fun _ h => h)
             have b1 := f1.data (dRow 1 n0 ((([]) ++ ([0, 0, 1, 0, 0, 0]) : List Int).length) f0 (encIs (([]) ++ ([0, 0, 1, 0, 0, 0])))) ⟨p0, y0⟩
             refine ⟨n0, f0, ?_, b1.fr, b1.rx 1⟩
             exact ret_t2 rfl (ret_b (by (rw [(right_plain (by omega) (by omega) (by omega))]; done) ))
            ·
             have b1 := u0.setb (d := 146) (b := false) rfl (decide_eq_false j0)
             refine wp_cond_false (b1.ev rfl) ?_
             refine wsc (fun j0 u0 => ?_)
             refine r_eql sv b1 rfl rfl rfl rfl (by decide) (fun j0 f0 => ?_)
             refine asg f0 (fun j0 b1 => ?_)
             refine wpList_nil (x_then_n (u0 _ _ ?_))
             rcases Decidable.em ((n.K) = 22) with u0 | u0
             ·
              have j0 := b1.setb (d := 153) (b := true) rfl (decide_eq_true u0)
              refine wp_cond_true (j0.ev rfl) ?_
              refine wp_seq_k (fun f0 n0 => ?_)
              obtain ⟨f0, y0, f1⟩ := h0.agree
              refine d_reg3 (n := 7) f1 0 (pB 0 0 pn) (pan_then (pan_block (pan_then pan_body))) (fun y0 f0 p0 z0 t0 q0 => ?_)
              refine dtM 0 f0 j0 q0 (fun z0 y0 => ?_)
              refine dt 3 rfl f0 y0 (want_n rfl) (fun x hx => m_loadCN (sy y0) y0 rfl rfl rfl (CellsAt.cons_ (hx.c 0) (CellsAt.cons_ (hx.c 1) (CellsAt.cons_ (hx.c 2) (CellsAt.cons_ (hx.c 3) (CellsAt.nil _ _))))) Tryd.underlying32 rfl sz32 (by decide) gt) q0 (fun z0 j0 => ?_)
              refine d1 1 ?_
              refine mbs [(0, .const (.int .i64 0)), (1, .const (.int .i64 2)), (2, .const (.int .i64 0)), (3, .const (.int .i64 0)), (4, .const (.int .i64 0))] [.int .i64 0, .int .i64 2, .int .i64 0, .int .i64 0, .int .i64 0] (st_opV rfl (want_n rfl)) j0 t0 Tryd.underlying56 zi3 (fun z0 y0 q0 f1 m0 => ?_)
              have q0 := sWI m0 0 (pB 0 0 pn)
              refine ⟨q0, ?_⟩
              refine d1 2 ?_
              refine m_appendF (f := encI) (i := 1) ([]) ([0, 2, 0, 0, 0]) (st_opV rfl (want_n rfl)) f1 m0 rfl rfl rfl rfl rfl encI_len (encI_one _) Tryd.underlying56 zi3 rfl rfl (own_lnews (f := encI) (m0.res (i := 2) rfl)) rfl (by first | omega | (simp only [List.length_cons, List.length_nil]; omega)) (by decide) (fun q0 y0 z0 j0 t0 k0 o0 => ?_)
              have t0 : (([]) ++ ([0, 2, 0, 0, 0]) : List Int).length = 5 := by (simp only [List.length_append, List.length_take, List.length_cons, List.length_nil]; done)
              have t0 := o0.erase 2
              have o0 := sWI t0 0 (pB 0 0 pn)
              refine ⟨o0, ?_⟩
              refine d1 4 ?_
              have o0 := t0.nf
              refine k_call (xs := [.tmp 158]) (st_op rfl (want_n rfl)) k0 rfl rfl rfl (by decide) ok38 (rplain_calls _ _ o0.il n) ?_
              rintro k0 t0 ⟨rfl, y0⟩
              have t0 := o0.below y0.below
              refine ⟨_, rfl, fun y0 o0 => ?_⟩
              have y0 := sWI t0 0 (pB 0 0 pn)
              refine ⟨y0, ?_⟩
              refine dtA 5 f0 o0 y0 (fun k0 q0 => ?_)
              refine dtA 6 f0 q0 y0 (fun k0 o0 => ?_)
              refine wpAnyH_done (by kernel_rfl) (p0 _ _ ?_) _
              refine x_then_n (n0 _ _ ?_)
              refine wp_ret ?_
              refine x_block_r ?_
              refine x_then_r ?_
              refine e_ret2 o0 rfl rfl rfl rfl ?_
              have o0 : bindL n = ([]) ++ ([0, 2, 0, 0, 0]) := by rcases (show n.K = 22 by omega) with h <;> simp [bindL, h, shp]
              rw [o0]
              have o0 := own_cap (t0.res (i := 1) rfl)
              obtain ⟨n0, p0⟩ := t0.row_data (i := 1) rfl (fun _ h => h)
              have t0 := n0.data (dRow 1 z0 ((([]) ++ ([0, 2, 0, 0, 0]) : List Int).length) j0 (encIs (([]) ++ ([0, 2, 0, 0, 0])))) ⟨o0, p0⟩
              refine ⟨z0, j0, ?_, t0.fr, t0.rx 1⟩
              exact ret_t2 rfl (ret_b (by (rw [(right_plain (by omega) (by omega) (by omega))]; done) ))
             ·
              have t0 := b1.setb (d := 153) (b := false) rfl (decide_eq_false u0)
              refine wp_cond_false (t0.ev rfl) ?_
              refine wsc (fun u0 b1 => ?_)
              refine r_eql sv t0 rfl rfl rfl rfl (by decide) (fun u0 j0 => ?_)
              refine asg j0 (fun u0 t0 => ?_)
              refine wpList_nil (x_then_n (b1 _ _ ?_))
              rcases Decidable.em ((n.K) = 24) with b1 | b1
              ·
               have u0 := t0.setb (d := 160) (b := true) rfl (decide_eq_true b1)
               refine wp_cond_true (u0.ev rfl) ?_
               refine wp_seq_k (fun j0 z0 => ?_)
               obtain ⟨j0, p0, n0⟩ := h0.agree
               refine d_reg3 (n := 7) n0 0 (pB 0 0 pn) (pan_then (pan_block (pan_then pan_body))) (fun p0 j0 o0 k0 q0 y0 => ?_)
               refine dtM 0 j0 u0 y0 (fun k0 p0 => ?_)
               refine dt 3 rfl j0 p0 (want_n rfl) (fun x hx => m_loadCN (sy p0) p0 rfl rfl rfl (CellsAt.cons_ (hx.c 0) (CellsAt.cons_ (hx.c 1) (CellsAt.cons_ (hx.c 2) (CellsAt.cons_ (hx.c 3) (CellsAt.nil _ _))))) Tryd.underlying32 rfl sz32 (by decide) gt) y0 (fun k0 u0 => ?_)
               refine d1 1 ?_
               refine mbs [(0, .const (.int .i64 0)), (1, .const (.int .i64 1)), (2, .const (.int .i64 0)), (3, .const (.int .i64 0))] [.int .i64 0, .int .i64 1, .int .i64 0, .int .i64 0] (st_opV rfl (want_n rfl)) u0 q0 Tryd.underlying56 zi3 (fun k0 p0 y0 n0 f0 => ?_)
               have y0 := sWI f0 0 (pB 0 0 pn)
               refine ⟨y0, ?_⟩
               refine d1 2 ?_
               refine m_appendF (f := encI) (i := 1) ([]) ([0, 1, 0, 0]) (st_opV rfl (want_n rfl)) n0 f0 rfl rfl rfl rfl rfl encI_len (encI_one _) Tryd.underlying56 zi3 rfl rfl (own_lnews (f := encI) (f0.res (i := 2) rfl)) rfl (by first | omega | (simp only [List.length_cons, List.length_nil]; omega)) (by decide) (fun y0 p0 k0 u0 q0 m0 f1 => ?_)
               have q0 : (([]) ++ ([0, 1, 0, 0]) : List Int).length = 4 := by (simp only [List.length_append, List.length_take, List.length_cons, List.length_nil]; done)
               have q0 := f1.erase 2
               have f1 := sWI q0 0 (pB 0 0 pn)
               refine ⟨f1, ?_⟩
               refine d1 4 ?_
               have f1 := q0.nf
               refine k_call (xs := [.tmp 165]) (st_op rfl (want_n rfl)) m0 rfl rfl rfl (by decide) ok38 (rplain_calls _ _ f1.il n) ?_
               rintro m0 q0 ⟨rfl, p0⟩
               have q0 := f1.below p0.below
               refine ⟨_, rfl, fun p0 f1 => ?_⟩
               have p0 := sWI q0 0 (pB 0 0 pn)
               refine ⟨p0, ?_⟩
               refine dtA 5 j0 f1 p0 (fun m0 y0 => ?_)
               refine dtA 6 j0 y0 p0 (fun m0 f1 => ?_)
               refine wpAnyH_done (by kernel_rfl) (o0 _ _ ?_) _
               refine x_then_n (z0 _ _ ?_)
               refine wp_ret ?_
               refine x_block_r ?_
               refine x_then_r ?_
               refine e_ret2 f1 rfl rfl rfl rfl ?_
               have f1 : bindL n = ([]) ++ ([0, 1, 0, 0]) := by rcases (show n.K = 24 by omega) with h <;> simp [bindL, h, shp]
               rw [f1]
               have f1 := own_cap (q0.res (i := 1) rfl)
               obtain ⟨z0, o0⟩ := q0.row_data (i := 1) rfl (fun _ h => h)
               have q0 := z0.data (dRow 1 k0 ((([]) ++ ([0, 1, 0, 0]) : List Int).length) u0 (encIs (([]) ++ ([0, 1, 0, 0])))) ⟨f1, o0⟩
               refine ⟨k0, u0, ?_, q0.fr, q0.rx 1⟩
               exact ret_t2 rfl (ret_b (by (rw [(right_plain (by omega) (by omega) (by omega))]; done) ))
              ·
               have q0 := t0.setb (d := 160) (b := false) rfl (decide_eq_false b1)
               refine wp_cond_false (q0.ev rfl) ?_
               refine wsc (fun b1 t0 => ?_)
               refine r_eql sv q0 rfl rfl rfl rfl (by decide) (fun b1 u0 => ?_)
               refine asg u0 (fun b1 q0 => ?_)
               refine wpList_nil (x_then_n (t0 _ _ ?_))
               rcases Decidable.em ((n.K) = 26) with t0 | t0
               ·
                have b1 := q0.setb (d := 167) (b := true) rfl (decide_eq_true t0)
                refine wp_cond_true (b1.ev rfl) ?_
                refine wp_seq_k (fun u0 k0 => ?_)
                refine wsc (fun u0 o0 => ?_)
                refine m_field (j' := 3) sv b1 rfl rfl rfl Tryd.underlying32 rfl sz9 rfl rfl (by decide) (fun u0 z0 => ?_)
                refine m_load (i := 0) sv z0 h0 rfl rfl rfl rfl rfl Tryd.underlying9 rfl (by decide) (fun u0 b1 => ?_)
                have u0 := h0.nf
                refine k_call (xs := [.tmp 170]) se b1 rfl rfl rfl (by decide) ok36 (rname_calls _ _ u0.il n.S) ?_
                rintro b1 z0 ⟨rfl, f1⟩
                have z0 := u0.below f1.below
                refine ⟨_, rfl, fun f1 u0 => ?_⟩
                refine r_not sv u0 rfl rfl rfl (by decide) (fun f1 b1 => ?_)
                refine mv b1 (fun f1 u0 => ?_)
                refine l_join (fun ga gw => Reg ga 228 [(1, .pointer (some ⟨i0, 0, none⟩)), (2, .slice none 0 0), (3, .bool false), (4, .slice (some ⟨d0, 0, none⟩) 0 0), (177, .bool ((!(nameOk n.S)) || (decide ((n.N) < 0)))), (1000000, .bool false)] ∧ St w0 Z none_ gw [.box i0 32 [.int .i64 (n.K), .int .i64 (n.N), .int .i64 (n.M), .string n.S], .row (some ⟨d0, 0, none⟩) 0 0 3 1 (encIs ([]))] []) 4 ?_ ?_
                ·
                 rcases Bool.eq_false_or_eq_true (nameOk n.S) with f1 | f1
                 ·
                  have b1 := u0.setb (d := 173) (b := false) rfl (by rw [f1]; rfl)
                  refine m_field (j' := 1) (st_listV_w (wt b1)) b1 rfl rfl rfl Tryd.underlying32 rfl sz3 rfl rfl (by decide) (fun m0 y0 => ?_)
                  refine m_load (i := 0) (st_listV_w (wt y0)) y0 z0 rfl rfl rfl rfl rfl Tryd.underlying3 rfl (by decide) (fun m0 b1 => ?_)
                  refine r_lss (st_listV_w (wt b1)) b1 rfl rfl rfl rfl (by decide) (fun m0 y0 => ?_)
                  refine r_pick_f sv y0 rfl rfl rfl rfl (by decide) (fun m0 b1 => ?_)
                  refine wpList_nil ?_
                  exact x_then_n ⟨(b1.sub (rc rfl (rc rfl (rc rfl (rc rfl (rc (rb rfl (by (simp only [f1, bl]; done))) (rc rfl rnl))))))), z0⟩
                 ·
                  have b1 := u0.setb (d := 173) (b := true) rfl (by rw [f1]; rfl)
                  refine sps b1 (wff b1) (fun u0 m0 => ?_)
                  refine sps m0 (wff m0) (fun u0 b1 => ?_)
                  refine sps b1 (wff b1) (fun u0 m0 => ?_)
                  refine r_pick_t sv m0 rfl rfl rfl rfl (by decide) (fun u0 b1 => ?_)
                  refine wpList_nil ?_
                  exact x_then_n ⟨(b1.sub (rc rfl (rc rfl (rc rfl (rc rfl (rc (rb rfl (by (simp only [f1, bl]; done))) (rc rfl rnl))))))), z0⟩
                rintro b1 f1 ⟨z0, u0⟩
                refine mv z0 (fun f1 b1 => ?_)
                refine l_join (fun ga gw => Reg ga 228 [(1, .pointer (some ⟨i0, 0, none⟩)), (2, .slice none 0 0), (3, .bool false), (4, .slice (some ⟨d0, 0, none⟩) 0 0), (182, .bool (((!(nameOk n.S)) || (decide ((n.N) < 0))) || (decide (6 ≤ (n.N))))), (1000000, .bool false)] ∧ St w0 Z none_ gw [.box i0 32 [.int .i64 (n.K), .int .i64 (n.N), .int .i64 (n.M), .string n.S], .row (some ⟨d0, 0, none⟩) 0 0 3 1 (encIs ([]))] []) 4 ?_ ?_
                ·
                 rcases Bool.eq_false_or_eq_true (((!(nameOk n.S)) || (decide ((n.N) < 0)))) with f1 | f1
                 ·
                  have z0 := f1
                  try simp only [Bool.or_eq_true, Bool.and_eq_true, Bool.not_eq_true', Bool.not_eq_false', decide_eq_true_eq, decide_eq_false_iff_not, Bool.or_eq_false_iff, Bool.and_eq_false_iff] at z0
                  have z0 := b1.setb (d := 178) (b := true) rfl f1
                  refine sps z0 (wff z0) (fun m0 y0 => ?_)
                  refine sps y0 (wff y0) (fun m0 z0 => ?_)
                  refine sps z0 (wff z0) (fun m0 y0 => ?_)
                  refine r_pick_t sv y0 rfl rfl rfl rfl (by decide) (fun m0 z0 => ?_)
                  refine wpList_nil ?_
                  exact x_then_n ⟨(z0.sub (rc rfl (rc rfl (rc rfl (rc rfl (rc (rb rfl (by (simp only [f1, bl]; done))) (rc rfl rnl))))))), u0⟩
                 ·
                  have z0 := or_fl f1
                  have m0 := not_f z0
                  have m0 := or_fr f1
                  have z0 := of_decide_eq_false m0
                  have z0 := b1.setb (d := 178) (b := false) rfl f1
                  refine m_field (j' := 1) (st_listV_w (wt z0)) z0 rfl rfl rfl Tryd.underlying32 rfl sz3 rfl rfl (by decide) (fun b1 m0 => ?_)
                  refine m_load (i := 0) (st_listV_w (wt m0)) m0 u0 rfl rfl rfl rfl rfl Tryd.underlying3 rfl (by decide) (fun b1 z0 => ?_)
                  refine r_geq (st_listV_w (wt z0)) z0 rfl rfl rfl rfl (by decide) (fun b1 m0 => ?_)
                  refine r_pick_f sv m0 rfl rfl rfl rfl (by decide) (fun b1 z0 => ?_)
                  refine wpList_nil ?_
                  exact x_then_n ⟨(z0.sub (rc rfl (rc rfl (rc rfl (rc rfl (rc (rb rfl (by (simp only [f1, bl]; done))) (rc rfl rnl))))))), u0⟩
                rintro z0 f1 ⟨u0, b1⟩
                refine mv u0 (fun f1 z0 => ?_)
                refine l_join (fun ga gw => Reg ga 228 [(1, .pointer (some ⟨i0, 0, none⟩)), (2, .slice none 0 0), (3, .bool false), (4, .slice (some ⟨d0, 0, none⟩) 0 0), (187, .bool ((((!(nameOk n.S)) || (decide ((n.N) < 0))) || (decide (6 ≤ (n.N)))) || (decide ((n.M) < 0)))), (1000000, .bool false)] ∧ St w0 Z none_ gw [.box i0 32 [.int .i64 (n.K), .int .i64 (n.N), .int .i64 (n.M), .string n.S], .row (some ⟨d0, 0, none⟩) 0 0 3 1 (encIs ([]))] []) 4 ?_ ?_
                ·
                 rcases Bool.eq_false_or_eq_true ((((!(nameOk n.S)) || (decide ((n.N) < 0))) || (decide (6 ≤ (n.N))))) with f1 | f1
                 ·
                  have u0 := f1
                  try simp only [Bool.or_eq_true, Bool.and_eq_true, Bool.not_eq_true', Bool.not_eq_false', decide_eq_true_eq, decide_eq_false_iff_not, Bool.or_eq_false_iff, Bool.and_eq_false_iff] at u0
                  have u0 := z0.setb (d := 183) (b := true) rfl f1
                  refine sps u0 (wff u0) (fun m0 y0 => ?_)
                  refine sps y0 (wff y0) (fun m0 u0 => ?_)
                  refine sps u0 (wff u0) (fun m0 y0 => ?_)
                  refine r_pick_t sv y0 rfl rfl rfl rfl (by decide) (fun m0 u0 => ?_)
                  refine wpList_nil ?_
                  exact x_then_n ⟨(u0.sub (rc rfl (rc rfl (rc rfl (rc rfl (rc (rb rfl (by (simp only [f1, bl]; done))) (rc rfl rnl))))))), b1⟩
                 ·
                  have u0 := or_fl f1
                  have m0 := or_fl u0
                  have y0 := not_f m0
                  have y0 := or_fr u0
                  have u0 := of_decide_eq_false y0
                  have u0 := or_fr f1
                  have y0 := of_decide_eq_false u0
                  have y0 := z0.setb (d := 183) (b := false) rfl f1
                  refine m_field (j' := 2) (st_listV_w (wt y0)) y0 rfl rfl rfl Tryd.underlying32 rfl sz3 rfl rfl (by decide) (fun z0 u0 => ?_)
                  refine m_load (i := 0) (st_listV_w (wt u0)) u0 b1 rfl rfl rfl rfl rfl Tryd.underlying3 rfl (by decide) (fun z0 y0 => ?_)
                  refine r_lss (st_listV_w (wt y0)) y0 rfl rfl rfl rfl (by decide) (fun z0 u0 => ?_)
                  refine r_pick_f sv u0 rfl rfl rfl rfl (by decide) (fun z0 y0 => ?_)
                  refine wpList_nil ?_
                  exact x_then_n ⟨(y0.sub (rc rfl (rc rfl (rc rfl (rc rfl (rc (rb rfl (by (simp only [f1, bl]; done))) (rc rfl rnl))))))), b1⟩
                rintro y0 f1 ⟨b1, z0⟩
                refine mv b1 (fun f1 y0 => ?_)
                refine l_join (fun ga gw => Reg ga 228 [(1, .pointer (some ⟨i0, 0, none⟩)), (2, .slice none 0 0), (3, .bool false), (4, .slice (some ⟨d0, 0, none⟩) 0 0), (192, .bool (((((!(nameOk n.S)) || (decide ((n.N) < 0))) || (decide (6 ≤ (n.N)))) || (decide ((n.M) < 0))) || (decide (6 < (n.M))))), (1000000, .bool false)] ∧ St w0 Z none_ gw [.box i0 32 [.int .i64 (n.K), .int .i64 (n.N), .int .i64 (n.M), .string n.S], .row (some ⟨d0, 0, none⟩) 0 0 3 1 (encIs ([]))] []) 4 ?_ ?_
                ·
                 rcases Bool.eq_false_or_eq_true (((((!(nameOk n.S)) || (decide ((n.N) < 0))) || (decide (6 ≤ (n.N)))) || (decide ((n.M) < 0)))) with f1 | f1
                 ·
                  have b1 := f1
                  try simp only [Bool.or_eq_true, Bool.and_eq_true, Bool.not_eq_true', Bool.not_eq_false', decide_eq_true_eq, decide_eq_false_iff_not, Bool.or_eq_false_iff, Bool.and_eq_false_iff] at b1
                  have b1 := y0.setb (d := 188) (b := true) rfl f1
                  refine sps b1 (wff b1) (fun u0 m0 => ?_)
                  refine sps m0 (wff m0) (fun u0 b1 => ?_)
                  refine sps b1 (wff b1) (fun u0 m0 => ?_)
                  refine r_pick_t sv m0 rfl rfl rfl rfl (by decide) (fun u0 b1 => ?_)
                  refine wpList_nil ?_
                  exact x_then_n ⟨(b1.sub (rc rfl (rc rfl (rc rfl (rc rfl (rc (rb rfl (by (simp only [f1, bl]; done))) (rc rfl rnl))))))), z0⟩
                 ·
                  have b1 := or_fl f1
                  have u0 := or_fl b1
                  have m0 := or_fl u0
                  have p0 := not_f m0
                  have p0 := or_fr u0
                  have u0 := of_decide_eq_false p0
                  have u0 := or_fr b1
                  have b1 := of_decide_eq_false u0
                  have b1 := or_fr f1
                  have u0 := of_decide_eq_false b1
                  have u0 := y0.setb (d := 188) (b := false) rfl f1
                  refine m_field (j' := 2) (st_listV_w (wt u0)) u0 rfl rfl rfl Tryd.underlying32 rfl sz3 rfl rfl (by decide) (fun y0 b1 => ?_)
                  refine m_load (i := 0) (st_listV_w (wt b1)) b1 z0 rfl rfl rfl rfl rfl Tryd.underlying3 rfl (by decide) (fun y0 u0 => ?_)
                  refine r_gtr (st_listV_w (wt u0)) u0 rfl rfl rfl rfl (by decide) (fun y0 b1 => ?_)
                  refine r_pick_f sv b1 rfl rfl rfl rfl (by decide) (fun y0 u0 => ?_)
                  refine wpList_nil ?_
                  exact x_then_n ⟨(u0.sub (rc rfl (rc rfl (rc rfl (rc rfl (rc (rb rfl (by (simp only [f1, bl]; done))) (rc rfl rnl))))))), z0⟩
                rintro u0 f1 ⟨z0, y0⟩
                refine wpList_nil (x_then_n (o0 _ _ ?_))
                rcases Bool.eq_false_or_eq_true ((((((!(nameOk n.S)) || (decide ((n.N) < 0))) || (decide (6 ≤ (n.N)))) || (decide ((n.M) < 0))) || (decide (6 < (n.M))))) with o0 | o0
                ·
                 have f1 := o0
                 try simp only [Bool.or_eq_true, Bool.and_eq_true, Bool.not_eq_true', Bool.not_eq_false', decide_eq_true_eq, decide_eq_false_iff_not, Bool.or_eq_false_iff, Bool.and_eq_false_iff] at f1
                 have u0 := z0.setb (d := 192) (b := true) rfl o0
                 refine wp_cond_true (u0.ev rfl) ?_
                 refine wsc (fun b1 p0 => ?_)
                 refine mv u0 (fun b1 m0 => ?_)
                 refine asg m0 (fun b1 u0 => ?_)
                 refine asg u0 (fun b1 m0 => ?_)
                 refine wpList_nil (x_then_n (p0 _ _ ?_))
                 refine wp_ret ?_
                 refine x_then_r ?_
                 refine x_block_r ?_
                 refine x_then_r ?_
                 refine e_ret2 m0 rfl rfl rfl rfl ?_
                 have m0 : bindL n = [] := bindL_bad (by omega) (show right n = false by rw [(right_con2 (by omega))]; exact decide_eq_false (by rintro ⟨z1, z2⟩; have hq' := f1; rw [z1] at hq'; simp only [Bool.true_eq_false, false_or] at hq'; omega))
                 rw [m0]
                 have m0 := own_cap (y0.res (i := 1) rfl)
                 obtain ⟨p0, b1⟩ := y0.row_data (i := 1) rfl (fun _ h => h)
                 have u0 := p0.data (dRow 1 (some ⟨d0, 0, none⟩) 0 0 (encIs ([]))) ⟨m0, b1⟩
                 refine ⟨(some ⟨d0, 0, none⟩), 0, ?_, u0.fr, u0.rx 0⟩
                 exact ret_t2 rfl (ret_b (by exact (show right n = false by rw [(right_con2 (by omega))]; exact decide_eq_false (by rintro ⟨z1, z2⟩; have hq' := f1; rw [z1] at hq'; simp only [Bool.true_eq_false, false_or] at hq'; omega)).symm))
                ·
                 have f1 := or_fl o0
                 have u0 := or_fl f1
                 have b1 := or_fl u0
                 have p0 := or_fl b1
                 have m0 := not_f p0
                 have p0 := or_fr b1
                 have b1 := of_decide_eq_false p0
                 have p0 := or_fr u0
                 have u0 := of_decide_eq_false p0
                 have p0 := or_fr f1
                 have f1 := of_decide_eq_false p0
                 have p0 := or_fr o0
                 have j0 := of_decide_eq_false p0
                 have p0 := z0.setb (d := 192) (b := false) rfl o0
                 refine wp_cond_false (p0.ev rfl) ?_
                 refine wp_skip ?_
                 refine x_then_n (k0 _ _ ?_)
                 refine wsc (fun k0 z0 => ?_)
                 refine m_field (j' := 2) sv p0 rfl rfl rfl Tryd.underlying32 rfl sz3 rfl rfl (by decide) (fun k0 f0 => ?_)
                 refine m_load (i := 0) sv f0 y0 rfl rfl rfl rfl rfl Tryd.underlying3 rfl (by decide) (fun k0 p0 => ?_)
                 have k0 : (n.M) = ((n.M.toNat : Nat) : Int) := by omega
                 refine m_makeInts (n := n.M.toNat) sv p0 y0 rfl rfl rfl rfl k0 k0 Tryd.underlying56 zi3 (by omega) (by decide) (fun f0 n0 v0 b0 c1 => ?_)
                 have n0 : (List.replicate (n.M.toNat) (0 : Int)).length = n.M.toNat := by simp
                 refine asg b0 (fun n0 f0 => ?_)
                 refine asg f0 (fun n0 b0 => ?_)
                 refine wpList_nil (x_then_n (z0 _ _ ?_))
                 refine wp_ret ?_
                 refine x_block_r ?_
                 refine x_then_r ?_
                 refine e_ret2 b0 rfl rfl rfl rfl ?_
                 have b0 : bindL n = List.replicate (n.M.toNat) (0 : Int) := bindL_con (by omega) (by rw [(right_con2 (by omega))]; first | (simp [o0, m0, b1, u0, f1, j0]; done) | (simp [o0, m0, b1, u0, f1, j0]; omega))
                 rw [b0]
                 have b0 := own_cap (c1.res (i := 2) rfl)
                 obtain ⟨z0, n0⟩ := c1.row_data (i := 2) rfl (fun _ h => h)
                 have c1 := z0.data (dRow 1 (some ⟨v0, 0, none⟩) ((List.replicate (n.M.toNat) (0 : Int) : List Int).length) ((List.replicate (n.M.toNat) (0 : Int) : List Int).length) (encIs (List.replicate (n.M.toNat) (0 : Int)))) ⟨b0, n0⟩
                 refine ⟨(some ⟨v0, 0, none⟩), ((List.replicate (n.M.toNat) (0 : Int) : List Int).length), ?_, c1.fr, c1.rx 0⟩
                 exact ret_t2 rfl (ret_b (by (rw [(right_con2 (by omega))]; simp [o0, m0, b1, u0, f1, j0] <;> omega) ))
               ·
                have j0 := q0.setb (d := 167) (b := false) rfl (decide_eq_false t0)
                refine wp_cond_false (j0.ev rfl) ?_
                refine wsc (fun t0 q0 => ?_)
                refine r_eql sv j0 rfl rfl rfl rfl (by decide) (fun t0 f1 => ?_)
                refine asg f1 (fun t0 j0 => ?_)
                refine wpList_nil (x_then_n (q0 _ _ ?_))
                rcases Decidable.em ((n.K) = 27) with q0 | q0
                ·
                 have t0 := j0.setb (d := 197) (b := true) rfl (decide_eq_true q0)
                 refine wp_cond_true (t0.ev rfl) ?_
                 refine wp_seq_k (fun f1 u0 => ?_)
                 refine wsc (fun f1 b1 => ?_)
                 refine m_field (j' := 3) sv t0 rfl rfl rfl Tryd.underlying32 rfl sz9 rfl rfl (by decide) (fun f1 m0 => ?_)
                 refine m_load (i := 0) sv m0 h0 rfl rfl rfl rfl rfl Tryd.underlying9 rfl (by decide) (fun f1 t0 => ?_)
                 have f1 := h0.nf
                 refine k_call (xs := [.tmp 200]) se t0 rfl rfl rfl (by decide) ok36 (rname_calls _ _ f1.il n.S) ?_
                 rintro t0 m0 ⟨rfl, o0⟩
                 have m0 := f1.below o0.below
                 refine ⟨_, rfl, fun o0 f1 => ?_⟩
                 refine r_not sv f1 rfl rfl rfl (by decide) (fun o0 t0 => ?_)
                 refine mv t0 (fun o0 f1 => ?_)
                 refine l_join (fun ga gw => Reg ga 228 [(1, .pointer (some ⟨i0, 0, none⟩)), (2, .slice none 0 0), (3, .bool false), (4, .slice (some ⟨d0, 0, none⟩) 0 0), (207, .bool ((!(nameOk n.S)) || (!(decide ((n.N) = 0))))), (1000000, .bool false)] ∧ St w0 Z none_ gw [.box i0 32 [.int .i64 (n.K), .int .i64 (n.N), .int .i64 (n.M), .string n.S], .row (some ⟨d0, 0, none⟩) 0 0 3 1 (encIs ([]))] []) 4 ?_ ?_
                 ·
                  rcases Bool.eq_false_or_eq_true (nameOk n.S) with o0 | o0
                  ·
                   have t0 := f1.setb (d := 203) (b := false) rfl (by rw [o0]; rfl)
                   refine m_field (j' := 1) (st_listV_w (wt t0)) t0 rfl rfl rfl Tryd.underlying32 rfl sz3 rfl rfl (by decide) (fun c1 v0 => ?_)
                   refine m_load (i := 0) (st_listV_w (wt v0)) v0 m0 rfl rfl rfl rfl rfl Tryd.underlying3 rfl (by decide) (fun c1 t0 => ?_)
                   refine r_neq (st_listV_w (wt t0)) t0 rfl rfl rfl rfl (by decide) (fun c1 v0 => ?_)
                   refine r_pick_f sv v0 rfl rfl rfl rfl (by decide) (fun c1 t0 => ?_)
                   refine wpList_nil ?_
                   exact x_then_n ⟨(t0.sub (rc rfl (rc rfl (rc rfl (rc rfl (rc (rb rfl (by (simp only [o0, bl]; done))) (rc rfl rnl))))))), m0⟩
                  ·
                   have t0 := f1.setb (d := 203) (b := true) rfl (by rw [o0]; rfl)
                   refine sps t0 (wff t0) (fun f1 c1 => ?_)
                   refine sps c1 (wff c1) (fun f1 t0 => ?_)
                   refine sps t0 (wff t0) (fun f1 c1 => ?_)
                   refine r_pick_t sv c1 rfl rfl rfl rfl (by decide) (fun f1 t0 => ?_)
                   refine wpList_nil ?_
                   exact x_then_n ⟨(t0.sub (rc rfl (rc rfl (rc rfl (rc rfl (rc (rb rfl (by (simp only [o0, bl]; done))) (rc rfl rnl))))))), m0⟩
                 rintro t0 o0 ⟨m0, f1⟩
                 refine mv m0 (fun o0 t0 => ?_)
                 refine l_join (fun ga gw => Reg ga 228 [(1, .pointer (some ⟨i0, 0, none⟩)), (2, .slice none 0 0), (3, .bool false), (4, .slice (some ⟨d0, 0, none⟩) 0 0), (212, .bool (((!(nameOk n.S)) || (!(decide ((n.N) = 0)))) || (decide ((n.M) < 0)))), (1000000, .bool false)] ∧ St w0 Z none_ gw [.box i0 32 [.int .i64 (n.K), .int .i64 (n.N), .int .i64 (n.M), .string n.S], .row (some ⟨d0, 0, none⟩) 0 0 3 1 (encIs ([]))] []) 4 ?_ ?_
                 ·
                  rcases Bool.eq_false_or_eq_true (((!(nameOk n.S)) || (!(decide ((n.N) = 0))))) with o0 | o0
                  ·
                   have m0 := o0
                   try simp only [Bool.or_eq_true, Bool.and_eq_true, Bool.not_eq_true', Bool.not_eq_false', decide_eq_true_eq, decide_eq_false_iff_not, Bool.or_eq_false_iff, Bool.and_eq_false_iff] at m0
                   have m0 := t0.setb (d := 208) (b := true) rfl o0
                   refine sps m0 (wff m0) (fun c1 v0 => ?_)
                   refine sps v0 (wff v0) (fun c1 m0 => ?_)
                   refine sps m0 (wff m0) (fun c1 v0 => ?_)
                   refine r_pick_t sv v0 rfl rfl rfl rfl (by decide) (fun c1 m0 => ?_)
                   refine wpList_nil ?_
                   exact x_then_n ⟨(m0.sub (rc rfl (rc rfl (rc rfl (rc rfl (rc (rb rfl (by (simp only [o0, bl]; done))) (rc rfl rnl))))))), f1⟩
                  ·
                   have m0 := or_fl o0
                   have c1 := not_f m0
                   have c1 := or_fr o0
                   have m0 := not_f c1
                   have c1 := of_decide_eq_true m0
                   have c1 := t0.setb (d := 208) (b := false) rfl o0
                   refine m_field (j' := 2) (st_listV_w (wt c1)) c1 rfl rfl rfl Tryd.underlying32 rfl sz3 rfl rfl (by decide) (fun t0 m0 => ?_)
                   refine m_load (i := 0) (st_listV_w (wt m0)) m0 f1 rfl rfl rfl rfl rfl Tryd.underlying3 rfl (by decide) (fun t0 c1 => ?_)
                   refine r_lss (st_listV_w (wt c1)) c1 rfl rfl rfl rfl (by decide) (fun t0 m0 => ?_)
                   refine r_pick_f sv m0 rfl rfl rfl rfl (by decide) (fun t0 c1 => ?_)
                   refine wpList_nil ?_
                   exact x_then_n ⟨(c1.sub (rc rfl (rc rfl (rc rfl (rc rfl (rc (rb rfl (by (simp only [o0, bl]; done))) (rc rfl rnl))))))), f1⟩
                 rintro c1 o0 ⟨f1, t0⟩
                 refine mv f1 (fun o0 c1 => ?_)
                 refine l_join (fun ga gw => Reg ga 228 [(1, .pointer (some ⟨i0, 0, none⟩)), (2, .slice none 0 0), (3, .bool false), (4, .slice (some ⟨d0, 0, none⟩) 0 0), (217, .bool ((((!(nameOk n.S)) || (!(decide ((n.N) = 0)))) || (decide ((n.M) < 0))) || (decide (6 < (n.M))))), (1000000, .bool false)] ∧ St w0 Z none_ gw [.box i0 32 [.int .i64 (n.K), .int .i64 (n.N), .int .i64 (n.M), .string n.S], .row (some ⟨d0, 0, none⟩) 0 0 3 1 (encIs ([]))] []) 4 ?_ ?_
                 ·
                  rcases Bool.eq_false_or_eq_true ((((!(nameOk n.S)) || (!(decide ((n.N) = 0)))) || (decide ((n.M) < 0)))) with i0 | i0
                  ·
                   have o0 := i0
                   try simp only [Bool.or_eq_true, Bool.and_eq_true, Bool.not_eq_true', Bool.not_eq_false', decide_eq_true_eq, decide_eq_false_iff_not, Bool.or_eq_false_iff, Bool.and_eq_false_iff] at o0
                   have o0 := c1.setb (d := 213) (b := true) rfl i0
                   refine sps o0 (wff o0) (fun f1 m0 => ?_)
                   refine sps m0 (wff m0) (fun f1 o0 => ?_)
                   refine sps o0 (wff o0) (fun f1 m0 => ?_)
                   refine r_pick_t sv m0 rfl rfl rfl rfl (by decide) (fun f1 o0 => ?_)
                   refine wpList_nil ?_
                   exact x_then_n ⟨(o0.sub (rc rfl (rc rfl (rc rfl (rc rfl (rc (rb rfl (by (simp only [i0, bl]; done))) (rc rfl rnl))))))), t0⟩
                  ·
                   have o0 := or_fl i0
                   have f1 := or_fl o0
                   have m0 := not_f f1
                   have m0 := or_fr o0
                   have o0 := not_f m0
                   have m0 := of_decide_eq_true o0
                   have m0 := or_fr i0
                   have o0 := of_decide_eq_false m0
                   have o0 := c1.setb (d := 213) (b := false) rfl i0
                   refine m_field (j' := 2) (st_listV_w (wt o0)) o0 rfl rfl rfl Tryd.underlying32 rfl sz3 rfl rfl (by decide) (fun c1 m0 => ?_)
                   refine m_load (i := 0) (st_listV_w (wt m0)) m0 t0 rfl rfl rfl rfl rfl Tryd.underlying3 rfl (by decide) (fun c1 o0 => ?_)
                   refine r_gtr (st_listV_w (wt o0)) o0 rfl rfl rfl rfl (by decide) (fun c1 m0 => ?_)
                   refine r_pick_f sv m0 rfl rfl rfl rfl (by decide) (fun c1 o0 => ?_)
                   refine wpList_nil ?_
                   exact x_then_n ⟨(o0.sub (rc rfl (rc rfl (rc rfl (rc rfl (rc (rb rfl (by (simp only [i0, bl]; done))) (rc rfl rnl))))))), t0⟩
                 rintro o0 i0 ⟨t0, c1⟩
                 refine wpList_nil (x_then_n (b1 _ _ ?_))
                 rcases Bool.eq_false_or_eq_true (((((!(nameOk n.S)) || (!(decide ((n.N) = 0)))) || (decide ((n.M) < 0))) || (decide (6 < (n.M))))) with b1 | b1
                 ·
                  have i0 := b1
                  try simp only [Bool.or_eq_true, Bool.and_eq_true, Bool.not_eq_true', Bool.not_eq_false', decide_eq_true_eq, decide_eq_false_iff_not, Bool.or_eq_false_iff, Bool.and_eq_false_iff] at i0
                  have o0 := t0.setb (d := 217) (b := true) rfl b1
                  refine wp_cond_true (o0.ev rfl) ?_
                  refine wsc (fun m0 f1 => ?_)
                  refine mv o0 (fun m0 v0 => ?_)
                  refine asg v0 (fun m0 o0 => ?_)
                  refine asg o0 (fun m0 v0 => ?_)
                  refine wpList_nil (x_then_n (f1 _ _ ?_))
                  refine wp_ret ?_
                  refine x_then_r ?_
                  refine x_block_r ?_
                  refine x_then_r ?_
                  refine e_ret2 v0 rfl rfl rfl rfl ?_
                  have v0 : bindL n = [] := bindL_bad (by omega) (show right n = false by rw [(right_elim2 (by omega))]; exact decide_eq_false (by rintro ⟨z1, z2⟩; have hq' := i0; rw [z1] at hq'; simp only [Bool.true_eq_false, false_or] at hq'; omega))
                  rw [v0]
                  have v0 := own_cap (c1.res (i := 1) rfl)
                  obtain ⟨f1, m0⟩ := c1.row_data (i := 1) rfl (fun _ h => h)
                  have o0 := f1.data (dRow 1 (some ⟨d0, 0, none⟩) 0 0 (encIs ([]))) ⟨v0, m0⟩
                  refine ⟨(some ⟨d0, 0, none⟩), 0, ?_, o0.fr, o0.rx 0⟩
                  exact ret_t2 rfl (ret_b (by exact (show right n = false by rw [(right_elim2 (by omega))]; exact decide_eq_false (by rintro ⟨z1, z2⟩; have hq' := i0; rw [z1] at hq'; simp only [Bool.true_eq_false, false_or] at hq'; omega)).symm))
                 ·
                  have i0 := or_fl b1
                  have o0 := or_fl i0
                  have m0 := or_fl o0
                  have f1 := not_f m0
                  have m0 := or_fr o0
                  have o0 := not_f m0
                  have m0 := of_decide_eq_true o0
                  have o0 := or_fr i0
                  have i0 := of_decide_eq_false o0
                  have o0 := or_fr b1
                  have v0 := of_decide_eq_false o0
                  have o0 := t0.setb (d := 217) (b := false) rfl b1
                  refine wp_cond_false (o0.ev rfl) ?_
                  refine wp_skip ?_
                  refine x_then_n (u0 _ _ ?_)
                  refine wsc (fun u0 t0 => ?_)
                  refine mv o0 (fun u0 n0 => ?_)
                  refine mbs [(0, .const (.int .i64 1))] [.int .i64 1] sv n0 c1 Tryd.underlying56 zi3 (fun u0 o0 z0 b0 f0 => ?_)
                  refine m_appendF (f := encI) (i := 1) ([]) ([1]) sv b0 f0 rfl rfl rfl rfl rfl encI_len (encI_one _) Tryd.underlying56 zi3 rfl rfl (own_lnews (f := encI) (f0.res (i := 2) rfl)) rfl (by first | omega | (simp only [List.length_cons, List.length_nil]; omega)) (by decide) (fun z0 o0 u0 n0 c1 k0 p0 => ?_)
                  have c1 : (([]) ++ ([1]) : List Int).length = 1 := by (simp only [List.length_append, List.length_take, List.length_cons, List.length_nil]; done)
                  have c1 := p0.erase 2
                  refine asg k0 (fun p0 n0 => ?_)
                  refine wpList_nil (x_then_n (t0 _ _ ?_))
                  refine wsc (fun t0 p0 => ?_)
                  refine mv n0 (fun t0 k0 => ?_)
                  refine m_field (j' := 2) sv k0 rfl rfl rfl Tryd.underlying32 rfl sz3 rfl rfl (by decide) (fun t0 n0 => ?_)
                  refine m_load (i := 0) sv n0 c1 rfl rfl rfl rfl rfl Tryd.underlying3 rfl (by decide) (fun t0 k0 => ?_)
                  refine r_add (z := (n.M + 1)) sv k0 rfl rfl rfl rfl (by decide) (by omega) (by omega) (by omega) (fun t0 n0 => ?_)
                  have t0 : (n.M + 1) = ((n.M.toNat + 1 : Nat) : Int) := by omega
                  refine m_appendZ (i := 1) (([]) ++ ([1])) (n.M.toNat + 1) sv n0 c1 rfl rfl rfl rfl rfl t0 (by omega) (by simp) (by simp; omega) Tryd.underlying56 Tryd.underlying3 zi3 (by decide) (fun k0 u0 o0 z0 f0 b0 y0 => ?_)
                  refine asg b0 (fun f0 u0 => ?_)
                  refine asg u0 (fun f0 b0 => ?_)
                  refine wpList_nil (x_then_n (p0 _ _ ?_))
                  refine wp_ret ?_
                  refine x_block_r ?_
                  refine x_then_r ?_
                  refine e_ret2 b0 rfl rfl rfl rfl ?_
                  have b0 : bindL n = (([]) ++ ([1])) ++ List.replicate (n.M.toNat + 1) 0 := bindL_elim (by omega) (by rw [(right_elim2 (by omega))]; first | (simp [b1, f1, m0, i0, v0]; done) | (simp [b1, f1, m0, i0, v0]; omega))
                  rw [b0]
                  have b0 := own_cap (y0.res (i := 1) rfl)
                  obtain ⟨p0, f0⟩ := y0.row_data (i := 1) rfl (fun _ h => h)
                  have y0 := p0.data (dRow 1 o0 (((([]) ++ ([1])) ++ List.replicate (n.M.toNat + 1) 0 : List Int).length) z0 (encIs ((([]) ++ ([1])) ++ List.replicate (n.M.toNat + 1) 0))) ⟨b0, f0⟩
                  refine ⟨o0, z0, ?_, y0.fr, y0.rx 0⟩
                  exact ret_t2 rfl (ret_b (by (rw [(right_elim2 (by omega))]; simp [b1, f1, m0, i0, v0] <;> omega) ))
                ·
                 have v0 := j0.setb (d := 197) (b := false) rfl (decide_eq_false q0)
                 refine wp_cond_false (v0.ev rfl) ?_
                 refine wp_skip ?_
                 refine x_block_n ?_
                 refine x_then_n (c0 _ _ ?_)
                 refine wsc (fun c0 q0 => ?_)
                 refine mv v0 (fun c0 j0 => ?_)
                 refine asg j0 (fun c0 v0 => ?_)
                 refine asg v0 (fun c0 j0 => ?_)
                 refine wpList_nil (x_then_n (q0 _ _ ?_))
                 refine wp_ret ?_
                 refine e_ret2 j0 rfl rfl rfl rfl ?_
                 have j0 : bindL n = [] := bindL_none (by omega)
                 rw [j0]
                 have j0 := own_cap (h0.res (i := 1) rfl)
                 obtain ⟨q0, c0⟩ := h0.row_data (i := 1) rfl (fun _ h => h)
                 have h0 := q0.data (dRow 1 (some ⟨d0, 0, none⟩) 0 0 (encIs ([]))) ⟨j0, c0⟩
                 refine ⟨(some ⟨d0, 0, none⟩), 0, ?_, h0.fr, h0.rx 0⟩
                 exact ret_t2 rfl (ret_b (by (rw [(right_bad (by omega))]; done) ))
end Go.Proofs.YthdemmcfnpmmiaaDoor
/- Contracts of functions, one theorem each: what the call returns, and that nothing old is changed. Printed by gen.py. -/
namespace Go.Proofs.YthdemmcfnpmmiaaDoor
open Go Go.RowKit
set_option linter.unusedSimpArgs false
set_option linter.unusedVariables false
set_option maxRecDepth 100000 in
set_option maxHeartbeats 1000000 in
theorem rwhole_calls (w0 : World) (Z : Nat → Prop) (hZ : ∀ k, Z k → k < w0.heap.size) (tA : Option Addr) (tc : Nat) (t : List Nd) (ht : (dRow 4 tA t.length tc (encNs t)).φ w0 Z) (hl : t.length ≤ 1000000 := by first | assumption | omega | (simp; done) | (simp; omega)) (hsm : sml t := by first | assumption | omega | (simp; done) | (simp; omega)) :
    Calls Tryd.prog 19 [.slice tA t.length tc].toArray w0 (fun e w' => e = .returned (.bool (measB t)) ∧ Fr none_ w0 w') := by
 have b0 := s0 (M := none_) hZ (zc ht zn)
 refine c_enter Tryd.func19 rfl Tryd.ntmps19 rfl (fun c0 d0 => ?_)
 refine wsc (fun c0 f0 => ?_)
 refine asg d0 (fun c0 h0 => ?_)
 refine wpList_nil (x_then_n (f0 _ _ ?_))
 refine wsc (fun f0 c0 => ?_)
 refine asg h0 (fun f0 d0 => ?_)
 refine wpList_nil (x_then_n (c0 _ _ ?_))
 refine wp_seq_k (fun c0 f0 => ?_)
 refine wsc (fun c0 h0 => ?_)
 refine asg d0 (fun c0 i0 => ?_)
 refine wpList_nil (x_then_n (h0 _ _ ?_))
 refine wp_block ?_
 refine wp_loop_ghost (fun gn ga gw => ∃ k : Nat, ∃ st : List T, (Reg ga 36 [(1000000, .bool false), (0, .slice tA t.length tc), (4, .int .i64 ((k : Nat) : Int)), (3, .int .i64 ((st.length : Nat) : Int))]) ∧ (St w0 Z none_ gw [] [dRow 4 tA t.length tc (encNs t)]) ∧ (k ≤ t.length) ∧ (scanT [] (t.take k) = some st) ∧ (t.length - k) = gn) _ ⟨0, [], (i0.sub (rc rfl (rc rfl (rc rfl (rc rfl rnl))))), b0, by omega, rfl, rfl⟩ ?_
 rintro i0 b0 h0 ⟨k, st, c0, d0, hk, hsc, j0⟩
 have hfl := scan_flats hsc hk
 have hsl := flats_len_ge st
 have hbl := bindL_le (nth t k)
 refine wp_seq_k (fun j0 h0 => ?_)
 refine wsc (fun j0 b0 => ?_)
 refine mv c0 (fun j0 i0 => ?_)
 refine mv i0 (fun j0 c0 => ?_)
 refine r_len sv c0 rfl rfl rfl rfl Tryd.underlying22 (by decide) (fun j0 i0 => ?_)
 refine r_lss sv i0 rfl rfl rfl rfl (by decide) (fun j0 c0 => ?_)
 refine wpList_nil (x_then_n (b0 _ _ ?_))
 rcases Decidable.em (((k : Nat) : Int) < ((t.length : Nat) : Int)) with b0 | b0
 ·
  have j0 := c0.setb (d := 10) (b := true) rfl (decide_eq_true b0)
  refine wp_cond_true (j0.ev rfl) ?_
  refine wp_skip ?_
  refine x_then_n (h0 _ _ ?_)
  refine wp_seq_k (fun h0 i0 => ?_)
  refine wp_block ?_
  refine wsc (fun h0 k0 => ?_)
  refine mv j0 (fun h0 m0 => ?_)
  refine mv m0 (fun h0 j0 => ?_)
  refine m_index (i := k) (j := k * 4) sv j0 rfl rfl rfl rfl Tryd.underlying22 sz32 (by omega) (by omega) (nds_elem (t := t) (k := k) (d0.row (i := 0) rfl).2 (by omega)).some_ rfl (by decide) (fun h0 m0 => ?_)
  refine m_loadEN sv m0 rfl rfl rfl (nds_elem (t := t) (k := k) (d0.row (i := 0) rfl).2 (by omega)) Tryd.underlying32 rfl sz32 (by decide) (fun h0 j0 => ?_)
  have h0 := d0.nf
  refine k_call (xs := [.tmp 17]) se j0 rfl rfl rfl (by decide) ok28 (rbinds_calls _ _ h0.il (nth t k) (hs := (hsm _ (by omega)))) ?_
  rintro j0 m0 ⟨n0, o0, rfl, p0, q0⟩
  have m0 := h0.below p0.below
  have p0 := h0.dN m0 q0
  refine ⟨_, rfl, fun m0 q0 => ?_⟩
  refine mv q0 (fun m0 h0 => ?_)
  refine r_extract sv h0 rfl rfl rfl rfl (by decide) (fun m0 q0 => ?_)
  refine r_extract sv q0 rfl rfl rfl rfl (by decide) (fun m0 h0 => ?_)
  refine asg h0 (fun m0 q0 => ?_)
  refine asg q0 (fun m0 h0 => ?_)
  refine wpList_nil (x_then_n (k0 _ _ ?_))
  refine wp_seq_k (fun k0 m0 => ?_)
  refine wsc (fun k0 q0 => ?_)
  refine mv h0 (fun k0 j0 => ?_)
  refine r_not sv j0 rfl rfl rfl (by decide) (fun k0 h0 => ?_)
  refine mv h0 (fun k0 j0 => ?_)
  refine l_join (fun ga gw => Reg ga 36 [(0, .slice tA t.length tc), (3, .int .i64 ((st.length : Nat) : Int)), (4, .int .i64 ((k : Nat) : Int)), (5, .slice n0 ((bindL (nth t k)).length) o0), (28, .bool ((!(right (nth t k))) || (decide (((st.length : Nat) : Int) < (((bindL (nth t k)).length : Nat) : Int))))), (1000000, .bool false)] ∧ St w0 Z none_ gw [] [dRow 4 tA t.length tc (encNs t), dRow 1 n0 ((bindL (nth t k)).length) o0 (encIs (bindL (nth t k)))]) 5 ?_ ?_
  ·
   rcases Bool.eq_false_or_eq_true (right (nth t k)) with o0 | o0
   ·
    have n0 := j0.setb (d := 23) (b := false) rfl (by rw [o0]; rfl)
    refine r_move (st_listV_w (wt n0)) n0 rfl rfl rfl (by decide) (fun k0 h0 => ?_)
    refine r_len (st_listV_w (wt h0)) h0 rfl rfl rfl rfl Tryd.underlying56 (by decide) (fun k0 n0 => ?_)
    refine r_move (st_listV_w (wt n0)) n0 rfl rfl rfl (by decide) (fun k0 h0 => ?_)
    refine r_gtr (st_listV_w (wt h0)) h0 rfl rfl rfl rfl (by decide) (fun k0 n0 => ?_)
    refine r_pick_f sv n0 rfl rfl rfl rfl (by decide) (fun k0 h0 => ?_)
    refine wpList_nil ?_
    exact x_then_n ⟨(h0.sub (rc rfl (rc rfl (rc rfl (rc rfl (rc (rb rfl (by first | rfl | (simp only [o0, bl]; done) | (simp [o0]; done) | (simp [o0]; omega))) (rc rfl rnl))))))), p0⟩
   ·
    have h0 := j0.setb (d := 23) (b := true) rfl (by rw [o0]; rfl)
    refine sps h0 (wff h0) (fun j0 k0 => ?_)
    refine sps k0 (wff k0) (fun j0 h0 => ?_)
    refine sps h0 (wff h0) (fun j0 k0 => ?_)
    refine sps k0 (wff k0) (fun j0 h0 => ?_)
    refine r_pick_t sv h0 rfl rfl rfl rfl (by decide) (fun j0 k0 => ?_)
    refine wpList_nil ?_
    exact x_then_n ⟨(k0.sub (rc rfl (rc rfl (rc rfl (rc rfl (rc (rb rfl (by first | rfl | (simp only [o0, bl]; done) | (simp [o0]; done) | (simp [o0]; omega))) (rc rfl rnl))))))), p0⟩
  rintro k0 o0 ⟨p0, j0⟩
  refine wpList_nil (x_then_n (q0 _ _ ?_))
  rcases Bool.eq_false_or_eq_true (((!(right (nth t k))) || (decide (((st.length : Nat) : Int) < (((bindL (nth t k)).length : Nat) : Int))))) with q0 | q0
  ·
   have o0 := q0
   try simp only [Bool.or_eq_true, Bool.and_eq_true, Bool.not_eq_true', Bool.not_eq_false', decide_eq_true_eq, decide_eq_false_iff_not, Bool.or_eq_false_iff, Bool.and_eq_false_iff] at o0
   have k0 := p0.setb (d := 28) (b := true) rfl q0
   refine wp_cond_true (k0.ev rfl) ?_
   refine wsc (fun h0 n0 => ?_)
   refine asg k0 (fun h0 t0 => ?_)
   refine wpList_nil (x_then_n (n0 _ _ ?_))
   refine wp_ret ?_
   refine x_then_r ?_
   refine x_block_r ?_
   refine x_then_r ?_
   refine x_then_r ?_
   refine x_block_r ?_
   refine x_then_r ?_
   refine e_ret1 t0 rfl rfl rfl ?_
   refine ⟨?_, j0.fr⟩
   exact congrArg Ending.returned (ret_b (by exact (whole_no hsc (by omega) o0).symm))
  ·
   have o0 := or_fl q0
   have t0 := not_f o0
   have t0 := or_fr q0
   have o0 := of_decide_eq_false t0
   have hbm := bindL_many (n := nth t k) (by assumption)
   have o0 := p0.setb (d := 28) (b := false) rfl q0
   refine wp_cond_false (o0.ev rfl) ?_
   refine wp_skip ?_
   refine x_then_n (m0 _ _ ?_)
   refine c_region ?_
   refine mv o0 (fun m0 q0 => ?_)
   refine mv q0 (fun m0 o0 => ?_)
   refine r_len sv o0 rfl rfl rfl rfl Tryd.underlying56 (by decide) (fun m0 q0 => ?_)
   refine r_sub (z := (((st.length : Nat) : Int) - (((bindL (nth t k)).length : Nat) : Int))) sv q0 rfl rfl rfl rfl (by decide) (by omega) (by omega) (by omega) (fun m0 o0 => ?_)
   refine r_add (z := (((st.length : Nat) : Int) - (((bindL (nth t k)).length : Nat) : Int) + 1)) sv o0 rfl rfl rfl rfl (by decide) (by omega) (by omega) (by omega) (fun m0 q0 => ?_)
   refine asg q0 (fun m0 o0 => ?_)
   refine wpList_nil ?_
   refine x_block_n ?_
   refine x_then_n (i0 _ _ ?_)
   refine c_region ?_
   refine mv o0 (fun i0 m0 => ?_)
   refine r_add (z := ((k + 1 : Nat) : Int)) sv m0 rfl rfl rfl rfl (by decide) (by omega) (by omega) (by omega) (fun i0 o0 => ?_)
   refine asg o0 (fun i0 m0 => ?_)
   refine wpList_nil ?_
   obtain ⟨st', hp, hpl⟩ := push_some (st := st) (n := nth t k) (by assumption) (by omega)
   have i0 := j0.forget 1
   exact ⟨_, by omega, k + 1, st', (m0.sub (rc rfl (rc rfl (rc rfl (rc (ri rfl (by rw [hpl]; omega)) rnl))))), i0, by omega, (scan_step hsc (by omega)).trans hp, rfl⟩
 ·
  have i0 := c0.setb (d := 10) (b := false) rfl (decide_eq_false b0)
  refine wp_cond_false (i0.ev rfl) ?_
  refine wp_exit ?_
  refine x_then_e ?_
  refine x_then_e ?_
  refine x_block_eq ?_
  refine x_then_n (f0 _ _ ?_)
  refine wsc (fun f0 b0 => ?_)
  refine mv i0 (fun f0 c0 => ?_)
  refine r_eql sv c0 rfl rfl rfl rfl (by decide) (fun f0 i0 => ?_)
  refine asg i0 (fun f0 c0 => ?_)
  refine wpList_nil (x_then_n (b0 _ _ ?_))
  refine wp_ret ?_
  refine e_ret1 c0 rfl rfl rfl ?_
  refine ⟨?_, d0.fr⟩
  exact congrArg Ending.returned (ret_b (by first | (rw [measB_end (by rw [← hsc, List.take_of_length_le (by omega)])]; done) | (rw [measB_end (by rw [← hsc, List.take_of_length_le (by omega)])]; simp; done)))
set_option maxRecDepth 100000 in
set_option maxHeartbeats 1000000 in
theorem rdeeper_calls (w0 : World) (Z : Nat → Prop) (hZ : ∀ k, Z k → k < w0.heap.size) (tA : Option Addr) (tc : Nat) (t : List Nd) (ht : (dRow 4 tA t.length tc (encNs t)).φ w0 Z) (hl : t.length ≤ 4000 := by first | assumption | omega | (simp; done) | (simp; omega)) (hsm : sml t := by first | assumption | omega | (simp; done) | (simp; omega)) (hb : measB t = true := by first | assumption | omega | (simp; done) | (simp; omega)) :
    Calls Tryd.prog 20 [.slice tA t.length tc].toArray w0 (fun e w' => e = .returned (.bool (deepB t)) ∧ Fr none_ w0 w') := by
 have b0 := s0 (M := none_) hZ (zc ht zn)
 refine c_enter Tryd.func20 rfl Tryd.ntmps20 rfl (fun c0 d0 => ?_)
 refine wsc (fun c0 f0 => ?_)
 refine asg d0 (fun c0 h0 => ?_)
 refine wpList_nil (x_then_n (f0 _ _ ?_))
 refine wsc (fun f0 c0 => ?_)
 refine mbs [] [] sv h0 b0 Tryd.underlying56 zi3 (fun f0 d0 i0 j0 k0 => ?_)
 refine asg j0 (fun d0 f0 => ?_)
 refine wpList_nil (x_then_n (c0 _ _ ?_))
 refine wp_seq_k (fun c0 d0 => ?_)
 refine wsc (fun c0 j0 => ?_)
 refine asg f0 (fun c0 h0 => ?_)
 refine wpList_nil (x_then_n (j0 _ _ ?_))
 refine wp_block ?_
 refine wp_loop_ghost (fun gn ga gw => ∃ k : Nat, ∃ st : List T, ∃ Al : Option Addr, ∃ cl : Nat, (Reg ga 51 [(1000000, .bool false), (0, .slice tA t.length tc), (4, .int .i64 ((k : Nat) : Int)), (3, .slice Al ((dl st).length) cl)]) ∧ (St w0 Z none_ gw [.row Al ((dl st).length) cl 3 1 (encIs (dl st))] [dRow 4 tA t.length tc (encNs t)]) ∧ (k ≤ t.length) ∧ (scanT [] (t.take k) = some st) ∧ (shallow st) ∧ (t.length - k) = gn) _ ⟨0, [], (some ⟨i0, 0, none⟩), 0, (h0.sub (rc rfl (rc rfl (rc rfl (rc rfl rnl))))), k0, by omega, rfl, (fun _ h => by cases h), rfl⟩ ?_
 rintro h0 k0 i0 ⟨k, st, Al, cl, j0, c0, hk, hsc, hsh, f0⟩
 have hfl := scan_flats hsc hk
 have hsl := flats_len_ge st
 have hdl := dl_length st
 refine wp_seq_k (fun f0 i0 => ?_)
 refine wsc (fun f0 k0 => ?_)
 refine mv j0 (fun f0 h0 => ?_)
 refine mv h0 (fun f0 j0 => ?_)
 refine r_len sv j0 rfl rfl rfl rfl Tryd.underlying22 (by decide) (fun f0 h0 => ?_)
 refine r_lss sv h0 rfl rfl rfl rfl (by decide) (fun f0 j0 => ?_)
 refine wpList_nil (x_then_n (k0 _ _ ?_))
 rcases Decidable.em (((k : Nat) : Int) < ((t.length : Nat) : Int)) with k0 | k0
 ·
  obtain ⟨hrk, hmk⟩ := measB_at hb hsc (by omega)
  have hbm := bindL_many hrk
  have f0 := j0.setb (d := 13) (b := true) rfl (decide_eq_true k0)
  refine wp_cond_true (f0.ev rfl) ?_
  refine wp_skip ?_
  refine x_then_n (i0 _ _ ?_)
  refine wp_seq_k (fun i0 h0 => ?_)
  refine wp_block ?_
  refine wsc (fun i0 b0 => ?_)
  refine mv f0 (fun i0 m0 => ?_)
  refine mv m0 (fun i0 f0 => ?_)
  refine m_index (i := k) (j := k * 4) sv f0 rfl rfl rfl rfl Tryd.underlying22 sz32 (by omega) (by omega) (nds_elem (t := t) (k := k) (c0.row (i := 0) rfl).2 (by omega)).some_ rfl (by decide) (fun i0 m0 => ?_)
  refine m_loadEN sv m0 rfl rfl rfl (nds_elem (t := t) (k := k) (c0.row (i := 0) rfl).2 (by omega)) Tryd.underlying32 rfl sz32 (by decide) (fun i0 f0 => ?_)
  have i0 := c0.nf
  refine k_call (xs := [.tmp 20]) se f0 rfl rfl rfl (by decide) ok28 (rbinds_calls _ _ i0.il (nth t k) (hs := (hsm _ (by omega)))) ?_
  rintro f0 m0 ⟨n0, o0, rfl, p0, q0⟩
  have m0 := i0.below p0.below
  have p0 := i0.dN m0 q0
  refine ⟨_, rfl, fun m0 q0 => ?_⟩
  refine mv q0 (fun m0 i0 => ?_)
  refine r_extract sv i0 rfl rfl rfl rfl (by decide) (fun m0 q0 => ?_)
  refine r_extract sv q0 rfl rfl rfl rfl (by decide) (fun m0 i0 => ?_)
  refine asg i0 (fun m0 q0 => ?_)
  refine asg q0 (fun m0 i0 => ?_)
  refine wpList_nil (x_then_n (b0 _ _ ?_))
  refine wsc (fun b0 m0 => ?_)
  refine asg i0 (fun b0 q0 => ?_)
  refine wpList_nil (x_then_n (m0 _ _ ?_))
  refine wp_seq_k (fun m0 b0 => ?_)
  refine wsc (fun m0 i0 => ?_)
  refine asg q0 (fun m0 f0 => ?_)
  refine wpList_nil (x_then_n (i0 _ _ ?_))
  refine wp_block ?_
  refine wp_loop_ghost (fun gn ga gw => ∃ j : Nat, (Reg ga 51 [(1000000, .bool false), (0, .slice tA t.length tc), (4, .int .i64 ((k : Nat) : Int)), (5, .slice n0 ((bindL (nth t k)).length) o0), (8, .int .i64 ((j : Nat) : Int)), (7, .int .i64 ((maxB st j))), (3, .slice Al ((dl st).length - j) cl)]) ∧ (St w0 Z none_ gw [.row Al ((dl st).length) cl 3 1 (encIs (dl st))] [dRow 4 tA t.length tc (encNs t), dRow 1 n0 ((bindL (nth t k)).length) o0 (encIs (bindL (nth t k)))]) ∧ (j ≤ many (nth t k)) ∧ (many (nth t k) - j) = gn) _ ⟨0, (f0.sub (rc rfl (rc rfl (rc rfl (rc rfl (rc rfl (rc (ri rfl (by rw [maxB_zero])) (rc rfl rnl)))))))), p0, by omega, rfl⟩ ?_
  rintro f0 p0 o0 ⟨j, n0, i0, hj, m0⟩
  have hmx := maxB_le (st := st) (j := j)
  refine wp_seq_k (fun m0 o0 => ?_)
  refine wsc (fun m0 p0 => ?_)
  refine mv n0 (fun m0 f0 => ?_)
  refine mv f0 (fun m0 n0 => ?_)
  refine r_len sv n0 rfl rfl rfl rfl Tryd.underlying56 (by decide) (fun m0 f0 => ?_)
  refine r_lss sv f0 rfl rfl rfl rfl (by decide) (fun m0 n0 => ?_)
  refine wpList_nil (x_then_n (p0 _ _ ?_))
  rcases Decidable.em (((j : Nat) : Int) < (((bindL (nth t k)).length : Nat) : Int)) with p0 | p0
  ·
   have m0 := n0.setb (d := 27) (b := true) rfl (decide_eq_true p0)
   refine wp_cond_true (m0.ev rfl) ?_
   refine wp_skip ?_
   refine x_then_n (o0 _ _ ?_)
   refine wp_seq_k (fun o0 f0 => ?_)
   refine wp_block ?_
   refine wsc (fun o0 q0 => ?_)
   refine mv m0 (fun o0 t0 => ?_)
   refine mv t0 (fun o0 m0 => ?_)
   refine mv m0 (fun o0 t0 => ?_)
   refine r_len sv t0 rfl rfl rfl rfl Tryd.underlying56 (by decide) (fun o0 m0 => ?_)
   refine r_sub (z := ((((dl st).length - j : Nat) : Int) - 1)) sv m0 rfl rfl rfl rfl (by decide) (by omega) (by omega) (by omega) (fun o0 t0 => ?_)
   refine m_index (i := ((dl st).length - j) - (1)) (j := (((dl st).length - j) - (1)) * 1) sv t0 rfl rfl rfl rfl Tryd.underlying56 sz3 (by omega) (by omega) (own_ints (t := dl st) (k := ((dl st).length - j) - (1)) (i0.res (i := 0) rfl) (by omega)).some_ rfl (by decide) (fun o0 m0 => ?_)
   refine m_loadE sv m0 rfl rfl rfl 0 ((((dl st).length - j) - (1)) * 1) (own_ints (t := dl st) (k := ((dl st).length - j) - (1)) (i0.res (i := 0) rfl) (by omega)) rfl rfl Tryd.underlying3 rfl (by decide) (fun o0 t0 => ?_)
   refine r_max sv t0 rfl rfl rfl rfl rfl (by decide) (fun o0 m0 => ?_)
   refine asg m0 (fun o0 t0 => ?_)
   refine wpList_nil (x_then_n (q0 _ _ (c_region ?_)))
   refine mv t0 (fun q0 o0 => ?_)
   refine mv o0 (fun q0 t0 => ?_)
   refine r_len sv t0 rfl rfl rfl rfl Tryd.underlying56 (by decide) (fun q0 o0 => ?_)
   refine r_sub (z := ((((dl st).length - j : Nat) : Int) - 1)) sv o0 rfl rfl rfl rfl (by decide) (by omega) (by omega) (by omega) (fun q0 t0 => ?_)
   have q0 := own_cap (i0.res (i := 0) rfl)
   refine m_sliceP (q := ((dl st).length - j) - (1)) sv t0 rfl rfl rfl rfl (by omega) Tryd.underlying56 sz3 (by omega) (by decide) (fun q0 o0 => ?_)
   refine asg o0 (fun q0 t0 => ?_)
   refine wpList_nil ?_
   refine x_block_n ?_
   refine x_then_n (f0 _ _ ?_)
   refine c_region ?_
   refine mv t0 (fun f0 q0 => ?_)
   refine r_add (z := ((j + 1 : Nat) : Int)) sv q0 rfl rfl rfl rfl (by decide) (by omega) (by omega) (by omega) (fun f0 t0 => ?_)
   refine asg t0 (fun f0 q0 => ?_)
   refine wpList_nil ?_
   exact ⟨_, by omega, j + 1, (q0.sub (rc rfl (rc rfl (rc rfl (rc rfl (rc rfl (rc (ri rfl (by rw [dl_length]; exact (maxB_step (by omega)).symm)) (rc rfl rnl)))))))), i0, by omega, rfl⟩
  ·
   have q0 := n0.setb (d := 27) (b := false) rfl (decide_eq_false p0)
   refine wp_cond_false (q0.ev rfl) ?_
   refine wp_exit ?_
   refine x_then_e ?_
   refine x_then_e ?_
   refine x_block_eq ?_
   refine x_then_n (b0 _ _ ?_)
   refine wp_seq_k (fun b0 p0 => ?_)
   refine wsc (fun b0 n0 => ?_)
   refine mv q0 (fun b0 f0 => ?_)
   refine r_add (z := ((maxB st j) + 1)) sv f0 rfl rfl rfl rfl (by decide) (by omega) (by omega) (by omega) (fun b0 q0 => ?_)
   refine r_gtr sv q0 rfl rfl rfl rfl (by decide) (fun b0 f0 => ?_)
   refine wpList_nil (x_then_n (n0 _ _ ?_))
   rcases Decidable.em (60 < ((maxB st j) + 1)) with n0 | n0
   ·
    have b0 := f0.setb (d := 45) (b := true) rfl (decide_eq_true n0)
    refine wp_cond_true (b0.ev rfl) ?_
    refine wsc (fun q0 t0 => ?_)
    refine asg b0 (fun q0 o0 => ?_)
    refine wpList_nil (x_then_n (t0 _ _ ?_))
    refine wp_ret ?_
    refine x_then_r ?_
    refine x_block_r ?_
    refine x_then_r ?_
    refine x_then_r ?_
    refine x_block_r ?_
    refine x_then_r ?_
    refine e_ret1 o0 rfl rfl rfl ?_
    refine ⟨?_, i0.fr⟩
    exact congrArg Ending.returned (ret_b (by exact (deepB_true (k := k) hb hsc (by omega) hrk (by omega) (by rw [← show j = many (nth t k) by omega]; omega)).symm))
   ·
    have o0 := f0.setb (d := 45) (b := false) rfl (decide_eq_false n0)
    refine wp_cond_false (o0.ev rfl) ?_
    refine wp_skip ?_
    refine x_then_n (p0 _ _ ?_)
    refine c_region ?_
    refine mv o0 (fun p0 n0 => ?_)
    refine mv n0 (fun p0 o0 => ?_)
    refine r_add (z := ((maxB st j) + 1)) sv o0 rfl rfl rfl rfl (by decide) (by omega) (by omega) (by omega) (fun p0 n0 => ?_)
    refine mbs [(0, .tmp 48)] [.int .i64 ((maxB st j) + 1)] sv n0 i0 Tryd.underlying56 zi3 (fun p0 o0 f0 t0 q0 => ?_)
    refine m_appendC (f := encI) (i := 0) (dl st) ([((maxB st j) + 1)]) sv t0 q0 rfl rfl rfl rfl rfl (by omega) encI_len (encI_one _) Tryd.underlying56 zi3 rfl rfl (own_lnews (f := encI) (q0.res (i := 1) rfl)) rfl (by first | omega | (simp only [List.length_cons, List.length_nil]; omega)) (by decide) (fun f0 o0 p0 n0 i0 b0 m0 => ?_)
    have i0 : ((dl st).take ((dl st).length - j) ++ ([((maxB st j) + 1)]) : List Int).length = (dl st).length - j + 1 := by first | (simp only [List.length_append, List.length_take, List.length_cons, List.length_nil]; done) | (simp only [List.length_append, List.length_take, List.length_cons, List.length_nil]; omega)
    have i0 := m0.erase 1
    refine asg b0 (fun m0 o0 => ?_)
    refine wpList_nil ?_
    refine x_block_n ?_
    refine x_then_n (h0 _ _ ?_)
    refine c_region ?_
    refine mv o0 (fun h0 m0 => ?_)
    refine r_add (z := ((k + 1 : Nat) : Int)) sv m0 rfl rfl rfl rfl (by decide) (by omega) (by omega) (by omega) (fun h0 o0 => ?_)
    refine asg o0 (fun h0 m0 => ?_)
    refine wpList_nil ?_
    obtain ⟨st', hp, hpl⟩ := push_some (st := st) (n := nth t k) hrk (by omega)
    have hpd := (push_dl hp).1
    have hjq : j = many (nth t k) := by omega
    have h0 : (dl st).take ((dl st).length - j) ++ ([((maxB st j) + 1)]) = dl st' := by rw [hpd, hjq, dl_length]
    have o0 := m0
    have m0 := i0
    rw [h0] at o0 m0
    have h0 := m0.forget 1
    exact ⟨_, by omega, k + 1, st', p0, n0, (o0.sub (rc rfl (rc rfl (rc rfl (rc rfl rnl))))), h0, by omega, (scan_step hsc (by omega)).trans hp, shallow_push hp hsh (by rw [← hjq]; omega), rfl⟩
 ·
  have h0 := j0.setb (d := 13) (b := false) rfl (decide_eq_false k0)
  refine wp_cond_false (h0.ev rfl) ?_
  refine wp_exit ?_
  refine x_then_e ?_
  refine x_then_e ?_
  refine x_block_eq ?_
  refine x_then_n (d0 _ _ ?_)
  refine wsc (fun d0 k0 => ?_)
  refine asg h0 (fun d0 j0 => ?_)
  refine wpList_nil (x_then_n (k0 _ _ ?_))
  refine wp_ret ?_
  refine e_ret1 j0 rfl rfl rfl ?_
  refine ⟨?_, c0.fr⟩
  exact congrArg Ending.returned (ret_b (by exact (deepB_false (by rw [← hsc, List.take_of_length_le (by omega)]) hsh).symm))
set_option maxRecDepth 100000 in
set_option maxHeartbeats 1000000 in
theorem rcheck_calls (w0 : World) (Z : Nat → Prop) (hZ : ∀ k, Z k → k < w0.heap.size) (tA : Option Addr) (tc : Nat) (t : List Nd) (ht : (dRow 4 tA t.length tc (encNs t)).φ w0 Z) (hl : t.length ≤ 100000000 := by first | assumption | omega | (simp; done) | (simp; omega)) (hsm : sml t := by first | assumption | omega | (simp; done) | (simp; omega)) :
    Calls Tryd.prog 10 [.slice tA t.length tc].toArray w0 (fun e w' => e = .returned (.int .i64 (chk t)) ∧ Fr none_ w0 w') := by
 have b0 := s0 (M := none_) hZ (zc ht zn)
 refine c_enter Tryd.func10 rfl Tryd.ntmps10 rfl (fun c0 d0 => ?_)
 refine wsc (fun c0 f0 => ?_)
 refine asg d0 (fun c0 h0 => ?_)
 refine wpList_nil (x_then_n (f0 _ _ ?_))
 refine wp_seq_k (fun f0 c0 => ?_)
 refine wsc (fun f0 d0 => ?_)
 refine mv h0 (fun f0 i0 => ?_)
 refine r_len sv i0 rfl rfl rfl rfl Tryd.underlying22 (by decide) (fun f0 h0 => ?_)
 refine r_gtr sv h0 rfl rfl rfl rfl (by decide) (fun f0 i0 => ?_)
 refine wpList_nil (x_then_n (d0 _ _ ?_))
 rcases Decidable.em (4000 < ((t.length : Nat) : Int)) with d0 | d0
 ·
  have f0 := i0.setb (d := 5) (b := true) rfl (decide_eq_true d0)
  refine wp_cond_true (f0.ev rfl) ?_
  refine wsc (fun h0 j0 => ?_)
  refine asg f0 (fun h0 k0 => ?_)
  refine wpList_nil (x_then_n (j0 _ _ ?_))
  refine wp_ret ?_
  refine x_then_r ?_
  refine e_ret1 k0 rfl rfl rfl ?_
  refine ⟨?_, b0.fr⟩
  exact congrArg Ending.returned (ret_i (by exact (chk_size (by omega)).symm))
 ·
  have k0 := i0.setb (d := 5) (b := false) rfl (decide_eq_false d0)
  refine wp_cond_false (k0.ev rfl) ?_
  refine wp_skip ?_
  refine x_then_n (c0 _ _ ?_)
  refine wp_seq_k (fun c0 i0 => ?_)
  refine wsc (fun c0 j0 => ?_)
  refine mv k0 (fun c0 h0 => ?_)
  have c0 := b0.nf
  refine k_call (xs := [.tmp 6]) se h0 rfl rfl rfl (by decide) ok19 (rwhole_calls _ _ c0.il _ _ _ (c0.g 0)) ?_
  rintro h0 b0 ⟨rfl, k0⟩
  have b0 := c0.below k0.below
  refine ⟨_, rfl, fun k0 c0 => ?_⟩
  refine r_not sv c0 rfl rfl rfl (by decide) (fun k0 h0 => ?_)
  refine wpList_nil (x_then_n (j0 _ _ ?_))
  rcases Bool.eq_false_or_eq_true (measB t) with j0 | j0
  ·
   have k0 := h0.setb (d := 8) (b := false) rfl (by rw [j0]; rfl)
   refine wp_cond_false (k0.ev rfl) ?_
   refine wp_skip ?_
   refine x_then_n (i0 _ _ ?_)
   refine wp_seq_k (fun i0 c0 => ?_)
   refine wsc (fun i0 f0 => ?_)
   refine mv k0 (fun i0 m0 => ?_)
   have i0 := b0.nf
   refine k_call (xs := [.tmp 9]) se m0 rfl rfl rfl (by decide) ok20 (rdeeper_calls _ _ i0.il _ _ _ (i0.g 0)) ?_
   rintro m0 k0 ⟨rfl, n0⟩
   have k0 := i0.below n0.below
   refine ⟨_, rfl, fun n0 i0 => ?_⟩
   refine wpList_nil (x_then_n (f0 _ _ ?_))
   rcases Bool.eq_false_or_eq_true (deepB t) with f0 | f0
   ·
    have n0 := i0.setb (d := 10) (b := true) rfl f0
    refine wp_cond_true (n0.ev rfl) ?_
    refine wsc (fun m0 o0 => ?_)
    refine asg n0 (fun m0 p0 => ?_)
    refine wpList_nil (x_then_n (o0 _ _ ?_))
    refine wp_ret ?_
    refine x_then_r ?_
    refine e_ret1 p0 rfl rfl rfl ?_
    refine ⟨?_, k0.fr⟩
    exact congrArg Ending.returned (ret_i (by (rw [chk_whole (by omega) (by assumption)]; simp [d0, j0, f0])))
   ·
    have p0 := i0.setb (d := 10) (b := false) rfl f0
    refine wp_cond_false (p0.ev rfl) ?_
    refine wp_skip ?_
    refine x_then_n (c0 _ _ ?_)
    refine wsc (fun c0 i0 => ?_)
    refine asg p0 (fun c0 o0 => ?_)
    refine wpList_nil (x_then_n (i0 _ _ ?_))
    refine wp_ret ?_
    refine e_ret1 o0 rfl rfl rfl ?_
    refine ⟨?_, k0.fr⟩
    exact congrArg Ending.returned (ret_i (by (rw [chk_whole (by omega) (by assumption)]; simp [d0, j0, f0])))
  ·
   have f0 := h0.setb (d := 8) (b := true) rfl (by rw [j0]; rfl)
   refine wp_cond_true (f0.ev rfl) ?_
   refine wsc (fun j0 h0 => ?_)
   refine asg f0 (fun j0 d0 => ?_)
   refine wpList_nil (x_then_n (h0 _ _ ?_))
   refine wp_ret ?_
   refine x_then_r ?_
   refine e_ret1 d0 rfl rfl rfl ?_
   refine ⟨?_, b0.fr⟩
   exact congrArg Ending.returned (ret_i (by exact (chk_form (by omega) (by assumption)).symm))
set_option maxRecDepth 100000 in
set_option maxHeartbeats 1000000 in
theorem rroot_calls (w0 : World) (Z : Nat → Prop) (hZ : ∀ k, Z k → k < w0.heap.size) (tA : Option Addr) (tc : Nat) (t : List Nd) (ht : (dRow 4 tA t.length tc (encNs t)).φ w0 Z) (hl : t.length ≤ 1000000 := by first | assumption | omega | (simp; done) | (simp; omega)) (h0 : 0 < t.length := by first | assumption | omega | (simp; done) | (simp; omega)) :
    Calls Tryd.prog 14 [.slice tA t.length tc].toArray w0 (fun e w' => e = .returned (.agg #[.int .i64 (((nth t (t.length - 1)).K)), .int .i64 (((nth t (t.length - 1)).N)), .int .i64 (((nth t (t.length - 1)).M)), .string ((nth t (t.length - 1)).S)]) ∧ Fr none_ w0 w') := by
 have b0 := s0 (M := none_) hZ (zc ht zn)
 refine c_enter Tryd.func14 rfl Tryd.ntmps14 rfl (fun c0 d0 => ?_)
 refine wsc (fun c0 f0 => ?_)
 refine m_alloc (cs := [.int .i64 0, .int .i64 0, .int .i64 0, .string (⟨#[]⟩ : ByteArray)]) sv d0 b0 rfl rfl ze32 rfl (by decide) (fun c0 i0 j0 k0 m0 => ?_)
 refine wpList_nil (x_then_n (f0 _ _ ?_))
 refine wsc (fun f0 j0 => ?_)
 refine mv k0 (fun f0 i0 => ?_)
 refine mv i0 (fun f0 k0 => ?_)
 refine r_len sv k0 rfl rfl rfl rfl Tryd.underlying22 (by decide) (fun f0 i0 => ?_)
 refine r_sub (z := (((t.length : Nat) : Int) - 1)) sv i0 rfl rfl rfl rfl (by decide) (by omega) (by omega) (by omega) (fun f0 k0 => ?_)
 refine m_index (i := (t.length) - (1)) (j := ((t.length) - (1)) * 4) sv k0 rfl rfl rfl rfl Tryd.underlying22 sz32 (by omega) (by omega) (nds_elem (t := t) (k := (t.length) - (1)) (m0.row (i := 0) rfl).2 (by omega)).some_ rfl (by decide) (fun f0 i0 => ?_)
 refine m_loadEN sv i0 rfl rfl rfl (nds_elem (t := t) (k := (t.length) - (1)) (m0.row (i := 0) rfl).2 (by omega)) Tryd.underlying32 rfl sz32 (by decide) (fun f0 k0 => ?_)
 refine m_store (i := 0) (cs' := [.int .i64 (((nth t ((t.length) - (1))).K)), .int .i64 (((nth t ((t.length) - (1))).N)), .int .i64 (((nth t ((t.length) - (1))).M)), .string ((nth t ((t.length) - (1))).S)]) se k0 m0 rfl rfl rfl rfl rfl sz32 rfl rfl rfl (fun f0 i0 c0 d0 => ?_)
 refine wpList_nil (x_then_n (j0 _ _ ?_))
 refine wp_ret ?_
 refine e_cell (i := 0) (vs := [.int .i64 (((nth t ((t.length) - (1))).K)), .int .i64 (((nth t ((t.length) - (1))).N)), .int .i64 (((nth t ((t.length) - (1))).M)), .string ((nth t ((t.length) - (1))).S)]) (.inl rfl) c0 d0 rfl rfl rfl rfl Tryd.underlying32 rfl sz32 ?_
 refine ⟨?_, d0.fr⟩
 exact congrArg Ending.returned rfl
end Go.Proofs.YthdemmcfnpmmiaaDoor
/- Terms that are built of parts: whether they are terms, what their parts are, and which errors there may be. -/
namespace Go.Proofs.YthdemmcfnpmmiaaDoor
set_option linter.unusedSimpArgs false
set_option linter.unusedVariables false
theorem chk_meas {t : List Nd} (h : measB t = true) : chk t = 0 ∨ chk t = 21 ∨ chk t = 22 := by
 by_cases hl : t.length ≤ 4000
 ·
  by_cases hd : 60 < (nthM (measL t) ((measL t).length - 1)).2
  · exact .inr (.inr (chk_deep hl h hd))
  · exact .inl (chk_good hl h hd)
 · exact .inr (.inl (chk_size (by omega)))
def dpL (t : List Nd) : Nat := (treeOf t).deep
theorem deeps_bd {l : List T} {b : Nat} (h : ∀ t ∈ l, t.deep ≤ b) : T.deeps l ≤ b := by
 induction l with
 | nil => simp [T.deeps]
 | cons t l ih =>
  simp only [T.deeps]
  have h1 := h t (by simp)
  have h2 := ih (fun x hx => h x (by simp [hx]))
  omega
theorem built {n : Nd} {p : List (List Nd)} (hr : right n = true) (hm : many n = p.length) (hp : ∀ x ∈ p, measB x = true) :
  measB (p.flatten ++ [n]) = true ∧ treeOf (p.flatten ++ [n]) = .mk n (p.map treeOf) ∧ ptL (p.flatten ++ [n]) = p ∧ nth (p.flatten ++ [n]) ((p.flatten ++ [n]).length - 1) = n := by
 have e1 : (p.map treeOf).map T.flat = p := by
  rw [List.map_map]
  have : p.map (T.flat ∘ treeOf) = p.map id := List.map_congr_left fun x hx => (treeOf_meas (hp x hx)).2
  rw [this, List.map_id]
 have e2 : T.flats (p.map treeOf) = p.flatten := by rw [← flats_flatten, e1]
 have hw : (T.mk n (p.map treeOf)).wf = true := by
  rw [T.wf_mk]
  simp only [Bool.and_eq_true, beq_iff_eq, List.length_map]
  refine ⟨⟨hr, hm⟩, (T.wfs_iff _).2 ?_⟩
  intro t ht
  obtain ⟨x, hx, rfl⟩ := List.mem_map.1 ht
  exact (treeOf_meas (hp x hx)).1
 have e3 : (T.mk n (p.map treeOf)).flat = p.flatten ++ [n] := by rw [T.flat_mk, e2]
 have e4 : treeOf (p.flatten ++ [n]) = .mk n (p.map treeOf) := by rw [← e3, treeOf_flat hw]
 refine ⟨by rw [← e3]; exact meas_flat hw, e4, ?_, ?_⟩
 ·
  unfold ptL
  rw [e4]
  exact e1
 · simp [nth]
def GE (e : Int) : Prop := e = 0 ∨ e = 2 ∨ e = 21 ∨ e = 22
theorem GE.zero : GE 0 := .inl rfl
theorem GE.meas {t : List Nd} (h : measB t = true) : GE (chk t) := by
 rcases chk_meas h with q | q | q
 · exact .inl q
 · exact .inr (.inr (.inl q))
 · exact .inr (.inr (.inr q))
end Go.Proofs.YthdemmcfnpmmiaaDoor
