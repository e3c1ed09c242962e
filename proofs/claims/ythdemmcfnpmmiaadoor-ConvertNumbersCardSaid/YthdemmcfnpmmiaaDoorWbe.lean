import Derived.Test.YthdemmcfnpmmiaaDoorWbd
import Derived.Test.YthdemmcfnpmmiaaDoorCards
import Derived.Test.YthdemmcfnpmmiaaDoorTie
import Derived.ProofKit
import Derived.OpenShut
import Derived.ReadAgain
import Derived.Deep.DeepHandedRow
import Derived.Deep.Slices
import Derived.Lib.LaidTab
import Derived.Deep.DeepWitnessRowRef
/- Terms compared: the answer for any two lists of nodes; how many casts there are. -/
namespace Go.Proofs.YthdemmcfnpmmiaaDoor
set_option linter.unusedSimpArgs false
set_option linter.unusedVariables false
open Go Go.RowKit
def smE (a b : List Nd) : Int := if ¬ chk a = 0 then chk a else if ¬ chk b = 0 then chk b else (cv (treeOf a) (treeOf b)).1
def smB (a b : List Nd) : Bool := decide (chk a = 0) && decide (chk b = 0) && (cv (treeOf a) (treeOf b)).2
theorem sm_bad {a b : List Nd} (h : ¬ chk a = 0) : smB a b = false ∧ smE a b = chk a := by
 unfold smB smE
 rw [if_pos h, decide_eq_false h]
 exact ⟨rfl, rfl⟩
theorem sm_bad2 {a b : List Nd} (ha : chk a = 0) (h : ¬ chk b = 0) : smB a b = false ∧ smE a b = chk b := by
 unfold smB smE
 rw [if_neg (not_not_intro ha), if_pos h, decide_eq_false h]
 exact ⟨by simp, rfl⟩
theorem sm_ok {a b : List Nd} (ha : chk a = 0) (hb : chk b = 0) : smB a b = (cv (treeOf a) (treeOf b)).2 ∧ smE a b = (cv (treeOf a) (treeOf b)).1 := by
 unfold smB smE
 rw [if_neg (not_not_intro ha), if_neg (not_not_intro hb), decide_eq_true ha, decide_eq_true hb]
 exact ⟨rfl, rfl⟩
theorem ck_leaf {n : Nd} (hr : right n = true) (hm : many n = 0) : chk [n] = 0 ∧ treeOf [n] = .mk n [] := by
 have hw : (T.mk n []).wf = true := by simp [T.wf, T.wfs, hr, hm]
 have hf : (T.mk n []).flat = [n] := by simp [T.flat, T.flats]
 refine ⟨chk_ok.2 ⟨.mk n [], hw, hf.symm, by simp, by simp [T.deep, T.deeps]⟩, ?_⟩
 rw [← hf]
 exact treeOf_flat hw
theorem ck_k {k : Nat} (h : k = 10 ∨ k = 11 ∨ k = 29) : chk [cN (k : Int)] = 0 ∧ treeOf [cN (k : Int)] = .mk (cN (k : Int)) [] := by
 have h2 := cN_right (k := k) (by omega)
 refine ck_leaf h2.1 (h2.2.trans ?_)
 rcases h with rfl | rfl | rfl <;> rfl
def sucT : Nat → T
 | 0 => .mk (cN 11) []
 | k + 1 => .mk (cN 12) [sucT k]
def suL (k : Nat) : List Nd := ⟨11, 0, 0, ⟨#[]⟩⟩ :: List.replicate k ⟨12, 0, 0, ⟨#[]⟩⟩
theorem suL_len (k : Nat) : (suL k).length = k + 1 := by simp [suL]
theorem suL_app {k : Nat} : suL k ++ [⟨12, 0, 0, ⟨#[]⟩⟩] = suL (k + 1) := by
 unfold suL
 rw [List.replicate_succ', List.cons_append]
theorem su_ok : ∀ k, (sucT k).wf = true ∧ (sucT k).flat = suL k ∧ (sucT k).deep = k + 1
 | 0 => ⟨by decide, rfl, by simp [sucT, T.deep, T.deeps]⟩
 | k + 1 => by
  obtain ⟨h1, h2, h3⟩ := su_ok k
  refine ⟨?_, ?_, ?_⟩
  ·
   have a := cN_right (k := 12) (by decide)
   have b : right (cN 12) = true := a.1
   have c : many (cN 12) = 1 := a.2
   simp only [sucT, T.wf, T.wfs, h1, b, c, List.length_cons, List.length_nil, BEq.rfl, Bool.and_self]
  ·
   rw [sucT, T.flat_mk, T.flats_one, h2]
   exact suL_app
  · simp [sucT, T.deep, T.deeps, h3]
theorem suL_chk {k : Nat} (h : k ≤ 50) : chk (suL k) = 0 ∧ treeOf (suL k) = sucT k := by
 obtain ⟨h1, h2, h3⟩ := su_ok k
 rw [← h2]
 refine ⟨chk_ok.2 ⟨sucT k, h1, rfl, by rw [h2, suL_len]; omega, by omega⟩, treeOf_flat h1⟩
theorem suT_root (k : Nat) : (sucT k).root = if k = 0 then cN 11 else cN 12 := by cases k <;> rfl
theorem suT_K (k : Nat) : ¬ (sucT k).root.K = 29 ∧ ¬ (sucT k).root.K = 20 ∧ ¬ (sucT k).root.K = 4 ∧ ¬ (sucT k).root.K = 7 := by
 rw [suT_root]
 split <;> decide
theorem cvB_plain {f : T → T → Int × Bool} {a b : T} (ha : ¬ a.root.K = 4) (hb : ¬ b.root.K = 4) (ha7 : ¬ a.root.K = 7) (hb7 : ¬ b.root.K = 7) : cvB f a b = if a.root = b.root then seqF f (kidsF a b 0) else (0, false) := by
 unfold cvB stepE stepL
 rw [if_neg (c := a.root.K = 4 ∨ b.root.K = 4) (by omega), if_neg (c := a.root.K = 7 ∨ b.root.K = 7) (by omega)]
 rw [decide_eq_false (by omega), Bool.false_and, if_neg (by decide)]
 by_cases h : a.root = b.root
 · rw [if_pos h, if_pos h]
 · rw [if_neg h, if_neg h]
theorem cv_plain {a b : T} (wa : a.wf = true) (wb : b.wf = true) (ha : ¬ a.root.K = 29 ∧ ¬ a.root.K = 20 ∧ ¬ a.root.K = 4 ∧ ¬ a.root.K = 7) (hb : ¬ b.root.K = 29 ∧ ¬ b.root.K = 20 ∧ ¬ b.root.K = 4 ∧ ¬ b.root.K = 7) :
  cv a b = if a.root = b.root then seqF cv (kidsF a b 0) else (0, false) := by
 rw [cv_eq wa wb (by omega), br_no ha.2.1, br_no hb.2.1]
 unfold cvX
 rw [if_neg (by simp), if_neg ha.1, if_neg (by simp), if_neg hb.1]
 exact cvB_plain ha.2.2.1 hb.2.2.1 ha.2.2.2 hb.2.2.2
theorem cv_num : ∀ m n : Nat, cv (sucT m) (sucT n) = (0, decide (m = n))
 | 0, 0 => by
  rw [cv_plain (su_ok _).1 (su_ok _).1 (suT_K _) (suT_K _), if_pos rfl]
  rfl
 | 0, n + 1 => by
  rw [cv_plain (su_ok _).1 (su_ok _).1 (suT_K _) (suT_K _), if_neg (show ¬ (sucT 0).root = (sucT (n + 1)).root from (by decide : ¬ cN 11 = cN 12))]
  simp
 | m + 1, 0 => by
  rw [cv_plain (su_ok _).1 (su_ok _).1 (suT_K _) (suT_K _), if_neg (show ¬ (sucT (m + 1)).root = (sucT 0).root from (by decide : ¬ cN 12 = cN 11))]
  simp
 | m + 1, n + 1 => by
  rw [cv_plain (su_ok _).1 (su_ok _).1 (suT_K _) (suT_K _), if_pos (show (sucT (m + 1)).root = (sucT (n + 1)).root from rfl)]
  have e : kidsF (sucT (m + 1)) (sucT (n + 1)) 0 = [(sucT m, sucT n)] := rfl
  rw [e]
  simp only [seqF, cv_num m n]
  by_cases h : m = n
  · subst h; simp
  ·
   have : ¬ m + 1 = n + 1 := by omega
   simp [h]
theorem sm_num {m n : Nat} (hm : m ≤ 50) (hn : n ≤ 50) : smB (suL m) (suL n) = decide (m = n) ∧ smE (suL m) (suL n) = 0 := by
 obtain ⟨a1, a2⟩ := suL_chk hm
 obtain ⟨b1, b2⟩ := suL_chk hn
 obtain ⟨x1, x2⟩ := sm_ok a1 b1
 rw [x1, x2, a2, b2, cv_num]
 exact ⟨rfl, rfl⟩
theorem sm_nat {m : Nat} (hm : m ≤ 50) : smB (suL m) [⟨10, 0, 0, ⟨#[]⟩⟩] = false ∧ smE (suL m) [⟨10, 0, 0, ⟨#[]⟩⟩] = 0 := by
 obtain ⟨a1, a2⟩ := suL_chk hm
 obtain ⟨b1, b2⟩ := ck_k (k := 10) (by omega)
 obtain ⟨x1, x2⟩ := sm_ok (a := suL m) (b := [⟨10, 0, 0, ⟨#[]⟩⟩]) a1 b1
 have e : cv (treeOf (suL m)) (treeOf [⟨10, 0, 0, ⟨#[]⟩⟩]) = (0, false) := by
  rw [a2, show treeOf [⟨10, 0, 0, ⟨#[]⟩⟩] = .mk (cN 10) [] from b2, cv_plain (su_ok _).1 (by decide) (suT_K _) (by decide), if_neg]
  rw [suT_root]
  split <;> decide
 rw [x1, x2, e]
 exact ⟨rfl, rfl⟩
theorem cv_ne2 {a b : T} (h : ¬ (cv a b).1 = 0) : (cv a b).2 = false := by
 cases q : (cv a b).2 with
 | false => rfl
 | true => exact absurd (cv_two q) h
theorem sml_16 {n : Nd} (h : n.S.size < 1000000 := by decide) : sml [n] := by
 intro k hk
 have : k = 0 := by simpa using hk
 subst this
 exact h
theorem su_sml (k : Nat) : sml (suL k) := by
 intro j hj
 unfold suL at hj ⊢
 cases j with
 | zero => exact (by decide : (⟨#[]⟩ : ByteArray).size < 1000000)
 | succ j =>
  have h : j < k := by simpa using hj
  simp [nth, h]
  decide
mutual
theorem mu_flat : ∀ t : T, muT t ≤ 4 * t.flat.length
 | .mk n l => by
  have := mus_flat l
  rw [T.flat_mk, List.length_append, List.length_singleton]
  simp only [muT]
  split <;> omega
theorem mus_flat : ∀ l : List T, muTs l ≤ 4 * (T.flats l).length
 | [] => by simp only [muTs]; omega
 | t :: l => by
  have := mu_flat t
  have := mus_flat l
  rw [T.flats_cons, List.length_append]
  simp only [muTs]
  omega
end
theorem mu_len {t : List Nd} (h : measB t = true) : muT (treeOf t) ≤ 4 * t.length := by
 obtain ⟨_, hf⟩ := treeOf_meas h
 have := mu_flat (treeOf t)
 rwa [hf] at this
theorem sm_mu {a b : List Nd} (ha : chk a = 0) (hb : chk b = 0) (hla : a.length ≤ 100000) (hlb : b.length ≤ 100000) : muT (treeOf a) + muT (treeOf b) ≤ 1000000 := by
 have := mu_len (meas_chk ha)
 have := mu_len (meas_chk hb)
 omega
end Go.Proofs.YthdemmcfnpmmiaaDoor
/- Contracts of functions, one theorem each: what the call returns, and that nothing old is changed. Printed by gen.py. -/
namespace Go.Proofs.YthdemmcfnpmmiaaDoor
open Go Go.RowKit
set_option linter.unusedSimpArgs false
set_option linter.unusedVariables false
theorem vone_all : ∀ n, OneC n
  | 0 => fun w0 Z hZ cg cb cq ce aA ac a bA bc b hShp hc hcz hci ha hb hba hbb hce hN hB => absurd hN (by have := mu_pos (treeOf a); omega)
  | n + 1 => fun w0 Z hZ cg cb cq ce aA ac a bA bc b hShp hc hcz hci ha hb hba hbb hce hN hB => vone_step n (vone_all n) w0 Z hZ cg cb cq ce aA ac a bA bc b hShp hc hcz hci ha hb hba hbb hce hN hB
theorem vone_calls (w0 : World) (Z : Nat → Prop) (hZ : ∀ k, Z k → k < w0.heap.size) (cg cb : Nat) (cq : IQ) (ce : Int) (aA : Option Addr) (ac : Nat) (a : List Nd) (bA : Option Addr) (bc : Nat) (b : List Nd) (hShp : Shapes w0 Z) (hc : (Res.box cg 55 [.map (some cb), .int .i64 (ce)]).holds w0) (hcz : ¬ Z cg) (hci : (dIdle cb cq).φ w0 Z) (ha : (dRow 4 aA a.length ac (encNs a)).φ w0 Z) (hb : (dRow 4 bA b.length bc (encNs b)).φ w0 Z) (hba : measB a = true := by first | assumption | omega | (simp; done) | (simp; omega)) (hbb : measB b = true := by first | assumption | omega | (simp; done) | (simp; omega)) (hce : ce = 0 := by first | assumption | omega | (simp; done) | (simp; omega)) (hm : muT (treeOf a) + muT (treeOf b) ≤ 1000000 := by first | assumption | omega | (simp; done) | (simp; omega)) :
    Calls Tryd.prog 27 [.pointer (some ⟨cg, 0, none⟩), .slice aA a.length ac, .slice bA b.length bc].toArray w0 (fun e w' => e = .returned (.bool ((cv (treeOf a) (treeOf b)).2)) ∧ Fr (· = cg) w0 w' ∧ (Res.box cg 55 [.map (some cb), .int .i64 (((cv (treeOf a) (treeOf b)).1))]).holds w') :=
  vone_all 1000000 w0 Z hZ cg cb cq ce aA ac a bA bc b hShp hc hcz hci ha hb hba hbb hce hm (Nat.le_refl _)
set_option maxRecDepth 100000 in
set_option maxHeartbeats 1000000 in
theorem vsame_calls (w0 : World) (Z : Nat → Prop) (hZ : ∀ k, Z k → k < w0.heap.size) (aA : Option Addr) (ac : Nat) (a : List Nd) (bA : Option Addr) (bc : Nat) (b : List Nd) (hShp : Shapes w0 Z) (ha : (dRow 4 aA a.length ac (encNs a)).φ w0 Z) (hb : (dRow 4 bA b.length bc (encNs b)).φ w0 Z) (hba : measB a = true := by first | assumption | omega | (simp; done) | (simp; omega)) (hbb : measB b = true := by first | assumption | omega | (simp; done) | (simp; omega)) (hm : muT (treeOf a) + muT (treeOf b) ≤ 1000000 := by first | assumption | omega | (simp; done) | (simp; omega)) :
    Calls Tryd.prog 18 [.slice aA a.length ac, .slice bA b.length bc].toArray w0 (fun e w' => e = .returned (.tuple #[.bool ((cv (treeOf a) (treeOf b)).2), .int .i64 ((cv (treeOf a) (treeOf b)).1)]) ∧ Fr none_ w0 w') := by
 have b0 := s0 (M := none_) hZ (zc (d := dShapes) hShp (zc ha (zc hb zn)))
 refine c_enter Tryd.func18 rfl Tryd.ntmps18 rfl (fun c0 d0 => ?_)
 refine wsc (fun c0 f0 => ?_)
 refine asg d0 (fun c0 h0 => ?_)
 refine asg h0 (fun c0 d0 => ?_)
 refine wpList_nil (x_then_n (f0 _ _ ?_))
 refine wsc (fun f0 c0 => ?_)
 have f0 := b0.nf
 refine k_call (xs := []) se d0 rfl rfl rfl (by decide) ok26 (idle_calls _ _ f0.il ) ?_
 rintro d0 b0 ⟨b18, h0, rfl, i0, j0⟩
 have h0 := f0.below i0.below
 have i0 := f0.dN h0 j0
 refine ⟨_, rfl, fun h0 j0 => ?_⟩
 refine m_build (ps := [(0, .tmp 8)]) (v := .agg #[.map (some b18), .int .i64 0]) sv j0 rfl rfl rfl (fun _ => by kernel_rfl) (by decide) (fun h0 f0 => ?_)
 refine m_box (cs := [.map (some b18), .int .i64 0]) sv f0 i0 rfl rfl rfl rfl (by decide) (fun h0 j0 b0 d0 k0 => ?_)
 refine asg d0 (fun b0 j0 => ?_)
 refine wpList_nil (x_then_n (c0 _ _ ?_))
 refine wsc (fun c0 b0 => ?_)
 refine mv j0 (fun c0 d0 => ?_)
 refine mv d0 (fun c0 j0 => ?_)
 refine mv j0 (fun c0 d0 => ?_)
 have c0 := k0.nf
 refine k_call (xs := [.tmp 11, .tmp 12, .tmp 13]) se d0 rfl rfl rfl (by decide) ok27 (vone_calls _ _ c0.il _ _ _ _ _ _ _ _ _ _ (c0.g 0) (c0.z 0) (imm_box (i := 0) rfl) (c0.g 3) (c0.g 1) (c0.g 2) (hba := hba) (hbb := hbb) (hce := rfl) (hm := hm)) ?_
 rintro d0 k0 ⟨rfl, j0, h0⟩
 have k0 := c0.callM (i := 0) rfl j0 h0
 refine ⟨_, rfl, fun h0 j0 => ?_⟩
 refine asg j0 (fun h0 c0 => ?_)
 refine wpList_nil (x_then_n (b0 _ _ ?_))
 refine wp_seq_k (fun b0 h0 => ?_)
 refine wsc (fun b0 j0 => ?_)
 refine mv c0 (fun b0 d0 => ?_)
 refine r_nilCheck sv d0 rfl rfl rfl (by decide) (fun b0 c0 => ?_)
 refine m_field (j' := 1) sv c0 rfl rfl rfl Tryd.underlying55 rfl sz26 rfl rfl (by decide) (fun b0 d0 => ?_)
 refine m_load (i := 0) sv d0 k0 rfl rfl rfl rfl rfl Tryd.underlying26 rfl (by decide) (fun b0 c0 => ?_)
 refine r_neq sv c0 rfl rfl rfl rfl (by decide) (fun b0 d0 => ?_)
 refine wpList_nil (x_then_n (j0 _ _ ?_))
 rcases Decidable.em ((((cv (treeOf a) (treeOf b)).1)) = 0) with j0 | j0
 ·
  have b0 := d0.setb (d := 19) (b := false) rfl (by rw [(decide_eq_true j0)]; rfl)
  refine wp_cond_false (b0.ev rfl) ?_
  refine wp_skip ?_
  refine x_then_n (h0 _ _ ?_)
  refine wsc (fun h0 c0 => ?_)
  refine mv b0 (fun h0 f0 => ?_)
  refine asg f0 (fun h0 b0 => ?_)
  refine asg b0 (fun h0 f0 => ?_)
  refine wpList_nil (x_then_n (c0 _ _ ?_))
  refine wp_ret ?_
  refine e_ret2 f0 rfl rfl rfl rfl ?_
  refine ⟨?_, k0.fr⟩
  exact ret_t2 (ret_b (by first | exact Eq.symm j0 | rfl)) (ret_i (by first | exact Eq.symm j0 | rfl))
 ·
  have f0 := d0.setb (d := 19) (b := true) rfl (by rw [(decide_eq_false j0)]; rfl)
  refine wp_cond_true (f0.ev rfl) ?_
  refine wp_seq_k (fun d0 c0 => ?_)
  obtain ⟨d0, h0, b0⟩ := k0.agree
  refine d_reg3 (n := 6) b0 4 (pc 0 0 pn) (pan_then (pan_then pan_body)) (fun h0 d0 k0 i0 m0 n0 => ?_)
  refine dtM 0 d0 f0 n0 (fun i0 h0 => ?_)
  refine dtN 1 d0 h0 n0 (fun i0 f0 => ?_)
  refine dtF 2 1 d0 f0 n0 Tryd.underlying55 sz26 (fun i0 h0 => ?_)
  refine dtA 4 d0 h0 n0 (fun i0 f0 => ?_)
  refine d1 3 ?_
  refine m_load (i := 0) (st_opV rfl (want_n rfl)) f0 m0 rfl rfl rfl rfl rfl Tryd.underlying26 rfl (by decide) (fun i0 h0 => ?_)
  have i0 := sWI m0 4 (pc 0 0 pn)
  refine ⟨i0, ?_⟩
  refine dtA 5 d0 h0 i0 (fun f0 n0 => ?_)
  refine wpAnyH_done (by kernel_rfl) (k0 _ _ ?_) _
  refine x_then_n (c0 _ _ ?_)
  refine wp_ret ?_
  refine x_then_r ?_
  refine e_ret2 n0 rfl rfl rfl rfl ?_
  refine ⟨?_, m0.fr⟩
  exact ret_t2 (ret_b (by first | exact (cv_ne2 j0).symm | rfl)) (ret_i (by first | exact (cv_ne2 j0).symm | rfl))
set_option maxRecDepth 100000 in
set_option maxHeartbeats 1000000 in
theorem vSame_calls (w0 : World) (Z : Nat → Prop) (hZ : ∀ k, Z k → k < w0.heap.size) (aA : Option Addr) (ac : Nat) (a : List Nd) (bA : Option Addr) (bc : Nat) (b : List Nd) (hShp : Shapes w0 Z) (ha : (dRow 4 aA a.length ac (encNs a)).φ w0 Z) (hb : (dRow 4 bA b.length bc (encNs b)).φ w0 Z) (hla : a.length ≤ 100000 := by first | assumption | omega | (simp; done) | (simp; omega)) (hlb : b.length ≤ 100000 := by first | assumption | omega | (simp; done) | (simp; omega)) (hsa : sml a := by first | assumption | omega | (simp; done) | (simp; omega)) (hsb : sml b := by first | assumption | omega | (simp; done) | (simp; omega)) :
    Calls Tryd.prog 9 [.slice aA a.length ac, .slice bA b.length bc].toArray w0 (fun e w' => e = .returned (.tuple #[.bool (smB a b), .int .i64 (smE a b)]) ∧ Fr none_ w0 w') := by
 have b0 := s0 (M := none_) hZ (zc (d := dShapes) hShp (zc ha (zc hb zn)))
 refine c_enter Tryd.func9 rfl Tryd.ntmps9 rfl (fun c0 d0 => ?_)
 refine wsc (fun c0 f0 => ?_)
 refine asg d0 (fun c0 h0 => ?_)
 refine asg h0 (fun c0 d0 => ?_)
 refine wpList_nil (x_then_n (f0 _ _ ?_))
 refine wp_seq_k (fun f0 c0 => ?_)
 refine wsc (fun f0 h0 => ?_)
 refine mv d0 (fun f0 i0 => ?_)
 refine mv i0 (fun f0 d0 => ?_)
 have f0 := b0.data (dAll [((aA, ac, a) : Sl), ((bA, bc, b) : Sl)]) (all_cons (b0.get (i := 1) rfl) (all_cons (b0.get (i := 2) rfl) all_nil))
 refine mbs [(0, .tmp 9), (1, .tmp 10)] [.slice aA a.length ac, .slice bA b.length bc] sv d0 f0 Tryd.underlying39 zi22 (fun b0 i0 j0 k0 m0 => ?_)
 refine r_len sv k0 rfl rfl rfl rfl Tryd.underlying39 (by decide) (fun j0 i0 => ?_)
 refine mv i0 (fun j0 k0 => ?_)
 refine wpList_nil (x_then_n (h0 _ _ ?_))
 refine wp_block ?_
 refine wp_loop_rounds 3 (r_round ?_)
 refine wsc (fun h0 j0 => ?_)
 have h0 : (0 : Int) < 2 := by decide
 refine r_lss sv k0 rfl rfl rfl rfl (by decide) (fun i0 b0 => ?_)
 refine wpList_nil (x_then_n (j0 _ _ ?_))
 refine wp_seq_k (fun j0 i0 => ?_)
 have j0 := b0.setb (d := 14) (b := true) rfl (decide_eq_true h0)
 refine wp_cond_true (j0.ev rfl) ?_
 refine wp_skip ?_
 refine x_then_n (i0 _ _ ?_)
 refine wp_seq_k (fun i0 b0 => ?_)
 refine wp_block ?_
 refine wsc (fun i0 h0 => ?_)
 refine m_index (i := 0) (j := 0 * 1) sv j0 rfl rfl rfl rfl Tryd.underlying39 sz22 (by omega) (by simp) (own_ss (t := [((aA, ac, a) : Sl), ((bA, bc, b) : Sl)]) (k := 0) (m0.res (i := 0) rfl) (by simp)).some_ rfl (by decide) (fun i0 k0 => ?_)
 refine m_loadE sv k0 rfl rfl rfl 0 (0 * 1) (own_ss (t := [((aA, ac, a) : Sl), ((bA, bc, b) : Sl)]) (k := 0) (m0.res (i := 0) rfl) (by simp)) rfl rfl Tryd.underlying22 rfl (by decide) (fun i0 j0 => ?_)
 refine asg j0 (fun i0 k0 => ?_)
 refine wpList_nil (x_then_n (h0 _ _ ?_))
 refine wsc (fun h0 i0 => ?_)
 refine mv k0 (fun h0 j0 => ?_)
 have h0 := m0.nf
 refine k_call (xs := [.tmp 17]) se j0 rfl rfl rfl (by decide) ok17 (check_calls _ _ h0.il _ _ a (h0.g 0) (h0.g 1)) ?_
 rintro j0 m0 ⟨rfl, k0⟩
 have m0 := h0.below k0.below
 refine ⟨_, rfl, fun k0 h0 => ?_⟩
 refine asg h0 (fun k0 j0 => ?_)
 refine wpList_nil (x_then_n (i0 _ _ ?_))
 refine wsc (fun i0 k0 => ?_)
 refine mv j0 (fun i0 h0 => ?_)
 refine r_neq sv h0 rfl rfl rfl rfl (by decide) (fun i0 j0 => ?_)
 refine wpList_nil (x_then_n (k0 _ _ ?_))
 rcases Decidable.em (((chk a)) = 0) with k0 | k0
 ·
  have i0 := j0.setb (d := 20) (b := false) rfl (by rw [(decide_eq_true k0)]; rfl)
  refine wp_cond_false (i0.ev rfl) ?_
  refine wp_skip ?_
  refine x_block_n ?_
  refine x_then_n (b0 _ _ ?_)
  refine c_region ?_
  refine r_add (z := 1) sv i0 rfl rfl rfl rfl (by decide) (by omega) (by omega) (by omega) (fun b0 h0 => ?_)
  refine mv h0 (fun b0 i0 => ?_)
  refine wpList_nil ?_
  refine x_then_n (r_round ?_)
  refine wsc (fun b0 h0 => ?_)
  have b0 : (1 : Int) < 2 := by decide
  refine r_lss sv i0 rfl rfl rfl rfl (by decide) (fun f0 d0 => ?_)
  refine wpList_nil (x_then_n (h0 _ _ ?_))
  refine wp_seq_k (fun h0 f0 => ?_)
  have h0 := d0.setb (d := 14) (b := true) rfl (decide_eq_true b0)
  refine wp_cond_true (h0.ev rfl) ?_
  refine wp_skip ?_
  refine x_then_n (f0 _ _ ?_)
  refine wp_seq_k (fun f0 d0 => ?_)
  refine wp_block ?_
  refine wsc (fun f0 b0 => ?_)
  refine m_index (i := 1) (j := 1 * 1) sv h0 rfl rfl rfl rfl Tryd.underlying39 sz22 (by omega) (by simp) (own_ss (t := [((aA, ac, a) : Sl), ((bA, bc, b) : Sl)]) (k := 1) (m0.res (i := 0) rfl) (by simp)).some_ rfl (by decide) (fun f0 i0 => ?_)
  refine m_loadE sv i0 rfl rfl rfl 0 (1 * 1) (own_ss (t := [((aA, ac, a) : Sl), ((bA, bc, b) : Sl)]) (k := 1) (m0.res (i := 0) rfl) (by simp)) rfl rfl Tryd.underlying22 rfl (by decide) (fun f0 h0 => ?_)
  refine asg h0 (fun f0 i0 => ?_)
  refine wpList_nil (x_then_n (b0 _ _ ?_))
  refine wsc (fun b0 f0 => ?_)
  refine mv i0 (fun b0 h0 => ?_)
  have b0 := m0.nf
  refine k_call (xs := [.tmp 17]) se h0 rfl rfl rfl (by decide) ok17 (check_calls _ _ b0.il _ _ b (b0.g 0) (b0.g 2)) ?_
  rintro h0 i0 ⟨rfl, n0⟩
  have i0 := b0.below n0.below
  refine ⟨_, rfl, fun n0 b0 => ?_⟩
  refine asg b0 (fun n0 h0 => ?_)
  refine wpList_nil (x_then_n (f0 _ _ ?_))
  refine wsc (fun f0 n0 => ?_)
  refine mv h0 (fun f0 b0 => ?_)
  refine r_neq sv b0 rfl rfl rfl rfl (by decide) (fun f0 h0 => ?_)
  refine wpList_nil (x_then_n (n0 _ _ ?_))
  rcases Decidable.em (((chk b)) = 0) with n0 | n0
  ·
   have f0 := h0.setb (d := 20) (b := false) rfl (by rw [(decide_eq_true n0)]; rfl)
   refine wp_cond_false (f0.ev rfl) ?_
   refine wp_skip ?_
   refine x_block_n ?_
   refine x_then_n (d0 _ _ ?_)
   refine c_region ?_
   refine r_add (z := 2) sv f0 rfl rfl rfl rfl (by decide) (by omega) (by omega) (by omega) (fun d0 b0 => ?_)
   refine mv b0 (fun d0 f0 => ?_)
   refine wpList_nil ?_
   refine x_then_n (r_round ?_)
   refine wsc (fun d0 b0 => ?_)
   have d0 : ¬ (2 : Int) < 2 := by decide
   refine r_lss sv f0 rfl rfl rfl rfl (by decide) (fun o0 p0 => ?_)
   refine wpList_nil (x_then_n (b0 _ _ ?_))
   refine wp_seq_k (fun b0 o0 => ?_)
   have o0 := p0.setb (d := 14) (b := false) rfl (decide_eq_false d0)
   refine wp_cond_false (o0.ev rfl) ?_
   refine wp_exit ?_
   refine x_then_e ?_
   refine x_then_e ?_
   refine x_block_eq ?_
   refine x_then_n (c0 _ _ ?_)
   refine wsc (fun c0 p0 => ?_)
   refine mv o0 (fun c0 d0 => ?_)
   refine mv d0 (fun c0 o0 => ?_)
   have c0 := i0.nf
   refine k_call (xs := [.tmp 23, .tmp 24]) se o0 rfl rfl rfl (by decide) ok18 (vsame_calls _ _ c0.il _ _ _ _ _ _ (c0.g 0) (c0.g 1) (c0.g 2) (hba := (meas_chk (by assumption))) (hbb := (meas_chk (by assumption))) (hm := (sm_mu (by assumption) (by assumption) hla hlb))) ?_
   rintro o0 d0 ⟨rfl, b0⟩
   have d0 := c0.below b0.below
   refine ⟨_, rfl, fun b0 c0 => ?_⟩
   refine r_extract sv c0 rfl rfl rfl rfl (by decide) (fun b0 o0 => ?_)
   refine r_extract sv o0 rfl rfl rfl rfl (by decide) (fun b0 c0 => ?_)
   refine asg c0 (fun b0 o0 => ?_)
   refine asg o0 (fun b0 c0 => ?_)
   refine wpList_nil (x_then_n (p0 _ _ ?_))
   refine wp_ret ?_
   refine e_ret2 c0 rfl rfl rfl rfl ?_
   refine ⟨?_, d0.fr⟩
   exact ret_t2 (ret_b (by first | exact (sm_ok k0 n0).1.symm | exact (sm_ok k0 n0).2.symm)) (ret_i (by first | exact (sm_ok k0 n0).1.symm | exact (sm_ok k0 n0).2.symm))
  ·
   have d0 := h0.setb (d := 20) (b := true) rfl (by rw [(decide_eq_false n0)]; rfl)
   refine wp_cond_true (d0.ev rfl) ?_
   refine wsc (fun h0 c0 => ?_)
   refine mv d0 (fun h0 p0 => ?_)
   refine asg p0 (fun h0 d0 => ?_)
   refine asg d0 (fun h0 p0 => ?_)
   refine wpList_nil (x_then_n (c0 _ _ ?_))
   refine wp_ret ?_
   refine x_block_r ?_
   refine x_then_r ?_
   refine x_then_r ?_
   refine x_block_r ?_
   refine x_then_r ?_
   refine e_ret2 p0 rfl rfl rfl rfl ?_
   refine ⟨?_, i0.fr⟩
   exact ret_t2 (ret_b (by first | exact (sm_bad2 k0 n0).1.symm | exact (sm_bad2 k0 n0).2.symm)) (ret_i (by first | exact (sm_bad2 k0 n0).1.symm | exact (sm_bad2 k0 n0).2.symm))
 ·
  have n0 := j0.setb (d := 20) (b := true) rfl (by rw [(decide_eq_false k0)]; rfl)
  refine wp_cond_true (n0.ev rfl) ?_
  refine wsc (fun j0 i0 => ?_)
  refine mv n0 (fun j0 p0 => ?_)
  refine asg p0 (fun j0 n0 => ?_)
  refine asg n0 (fun j0 p0 => ?_)
  refine wpList_nil (x_then_n (i0 _ _ ?_))
  refine wp_ret ?_
  refine x_block_r ?_
  refine x_then_r ?_
  refine x_then_r ?_
  refine x_block_r ?_
  refine x_then_r ?_
  refine e_ret2 p0 rfl rfl rfl rfl ?_
  refine ⟨?_, m0.fr⟩
  exact ret_t2 (ret_b (by first | exact (sm_bad k0).1.symm | exact (sm_bad k0).2.symm)) (ret_i (by first | exact (sm_bad k0).1.symm | exact (sm_bad k0).2.symm))
end Go.Proofs.YthdemmcfnpmmiaaDoor
/- Terms that are built of parts: whether they are terms, what their parts are, and which errors there may be. -/
namespace Go.Proofs.YthdemmcfnpmmiaaDoor
set_option linter.unusedSimpArgs false
set_option linter.unusedVariables false
theorem chk_meas {t : List Nd} (h : measB t = true) : chk t = 0 ∨ chk t = 21 ∨ chk t = 22 := by
 by_cases hl : t.length ≤ 4000
 ·
  by_cases hd : 60 < (nthM (measL t) ((measL t).length - 1)).2
  · exact .inr (.inr (chk_deep hl h hd))
  · exact .inl (chk_good hl h hd)
 · exact .inr (.inl (chk_size (by omega)))
theorem built {n : Nd} {p : List (List Nd)} (hr : right n = true) (hm : many n = p.length) (hp : ∀ x ∈ p, measB x = true) :
  measB (p.flatten ++ [n]) = true ∧ treeOf (p.flatten ++ [n]) = .mk n (p.map treeOf) ∧ ptL (p.flatten ++ [n]) = p ∧ nth (p.flatten ++ [n]) ((p.flatten ++ [n]).length - 1) = n := by
 have e1 : (p.map treeOf).map T.flat = p := by
  rw [List.map_map]
  have : p.map (T.flat ∘ treeOf) = p.map id := List.map_congr_left fun x hx => (treeOf_meas (hp x hx)).2
  rw [this, List.map_id]
 have e2 : T.flats (p.map treeOf) = p.flatten := by rw [← flats_flatten, e1]
 have hw : (T.mk n (p.map treeOf)).wf = true := by
  rw [T.wf_mk]
  simp only [Bool.and_eq_true, beq_iff_eq, List.length_map]
  refine ⟨⟨hr, hm⟩, (T.wfs_iff _).2 ?_⟩
  intro t ht
  obtain ⟨x, hx, rfl⟩ := List.mem_map.1 ht
  exact (treeOf_meas (hp x hx)).1
 have e3 : (T.mk n (p.map treeOf)).flat = p.flatten ++ [n] := by rw [T.flat_mk, e2]
 have e4 : treeOf (p.flatten ++ [n]) = .mk n (p.map treeOf) := by rw [← e3, treeOf_flat hw]
 refine ⟨by rw [← e3]; exact meas_flat hw, e4, ?_, ?_⟩
 ·
  unfold ptL
  rw [e4]
  exact e1
 · simp [nth]
def GE (e : Int) : Prop := e = 0 ∨ e = 2 ∨ e = 21 ∨ e = 22
theorem GE.zero : GE 0 := .inl rfl
theorem GE.meas {t : List Nd} (h : measB t = true) : GE (chk t) := by
 rcases chk_meas h with q | q | q
 · exact .inl q
 · exact .inr (.inr (.inl q))
 · exact .inr (.inr (.inr q))
end Go.Proofs.YthdemmcfnpmmiaaDoor
/- Contracts of functions, one theorem each: what the call returns, and that nothing old is changed. Printed by gen.py. -/
namespace Go.Proofs.YthdemmcfnpmmiaaDoor
open Go Go.RowKit
set_option linter.unusedSimpArgs false
set_option linter.unusedVariables false
set_option maxRecDepth 100000 in
set_option maxHeartbeats 1000000 in
theorem shown16_calls (w0 : World) (Z : Nat → Prop) (hZ : ∀ k, Z k → k < w0.heap.size)  (hShp : Shapes w0 Z) :
    Calls Tryd.prog 8 [].toArray w0 (fun e w' => e = .returned (.bool (true)) ∧ Fr none_ w0 w') := by
 have b0 := s0 (M := none_) hZ (zc (d := dShapes) hShp zn)
 refine c_enter Tryd.func8 rfl Tryd.ntmps8 rfl (fun c0 d0 => ?_)
 refine wsc (fun c0 f0 => ?_)
 refine asg d0 (fun c0 h0 => ?_)
 refine wpList_nil (x_then_n (f0 _ _ ?_))
 refine wsc (fun f0 c0 => ?_)
 refine m_build (ps := [(0, .const (.int .i64 11))]) (v := .agg #[.int .i64 11, .int .i64 0, .int .i64 0, .string (⟨#[]⟩ : ByteArray)]) sv h0 rfl rfl rfl (fun _ => by kernel_rfl) (by decide) (fun f0 d0 => ?_)
 refine mbs [(0, .tmp 7)] [.int .i64 11, .int .i64 0, .int .i64 0, .string (⟨#[]⟩ : ByteArray)] sv d0 b0 Tryd.underlying22 zi32 (fun f0 h0 i0 j0 k0 => ?_)
 refine asg j0 (fun h0 f0 => ?_)
 refine wpList_nil (x_then_n (c0 _ _ ?_))
 refine wsc (fun c0 h0 => ?_)
 refine m_build (ps := [(0, .const (.int .i64 10))]) (v := .agg #[.int .i64 10, .int .i64 0, .int .i64 0, .string (⟨#[]⟩ : ByteArray)]) sv f0 rfl rfl rfl (fun _ => by kernel_rfl) (by decide) (fun c0 j0 => ?_)
 refine mbs [(0, .tmp 9)] [.int .i64 10, .int .i64 0, .int .i64 0, .string (⟨#[]⟩ : ByteArray)] sv j0 k0 Tryd.underlying22 zi32 (fun c0 f0 d0 b0 m0 => ?_)
 refine asg b0 (fun f0 c0 => ?_)
 refine wpList_nil (x_then_n (h0 _ _ ?_))
 refine wsc (fun h0 f0 => ?_)
 refine mv c0 (fun h0 b0 => ?_)
 refine mv b0 (fun h0 c0 => ?_)
 have h0 := m0.nf
 have m0 := own_cap (h0.res (i := 0) rfl)
 obtain ⟨b0, j0⟩ := h0.row_data (i := 0) rfl (fun _ h => h)
 have h0 := b0.data (dRow 4 (some ⟨i0, 0, none⟩) 1 1 (encNs ([(⟨11, 0, 0, (⟨#[]⟩ : ByteArray)⟩ : Nd)]))) ⟨m0, j0⟩
 refine k_call (xs := [.tmp 12, .tmp 13]) se c0 rfl rfl rfl (by decide) ok9 (vSame_calls _ _ h0.il _ _ ([(⟨11, 0, 0, (⟨#[]⟩ : ByteArray)⟩ : Nd)]) _ _ ([(⟨11, 0, 0, (⟨#[]⟩ : ByteArray)⟩ : Nd)]) (h0.g 0) (h0.g 1) (h0.g 1) (hla := (by first | omega | (simp; done))) (hlb := (by first | omega | (simp; done))) (hsa := (by first | assumption | exact sml_16)) (hsb := (by first | assumption | exact sml_16))) ?_
 rintro c0 j0 ⟨rfl, b0⟩
 have j0 := h0.below b0.below
 refine ⟨_, rfl, fun b0 h0 => ?_⟩
 refine mv h0 (fun b0 c0 => ?_)
 refine r_extract sv c0 rfl rfl rfl rfl (by decide) (fun b0 h0 => ?_)
 refine r_extract sv h0 rfl rfl rfl rfl (by decide) (fun b0 c0 => ?_)
 refine asg c0 (fun b0 h0 => ?_)
 refine asg h0 (fun b0 c0 => ?_)
 refine wpList_nil (x_then_n (f0 _ _ ?_))
 refine wsc (fun f0 b0 => ?_)
 refine mv c0 (fun f0 h0 => ?_)
 refine mv h0 (fun f0 c0 => ?_)
 have f0 := j0.nf
 have j0 := own_cap (f0.res (i := 0) rfl)
 obtain ⟨h0, m0⟩ := f0.row_data (i := 0) rfl (fun _ h => h)
 have f0 := h0.data (dRow 4 (some ⟨d0, 0, none⟩) 1 1 (encNs ([(⟨10, 0, 0, (⟨#[]⟩ : ByteArray)⟩ : Nd)]))) ⟨j0, m0⟩
 refine k_call (xs := [.tmp 18, .tmp 19]) se c0 rfl rfl rfl (by decide) ok9 (vSame_calls _ _ f0.il _ _ ([(⟨11, 0, 0, (⟨#[]⟩ : ByteArray)⟩ : Nd)]) _ _ ([(⟨10, 0, 0, (⟨#[]⟩ : ByteArray)⟩ : Nd)]) (f0.g 0) (f0.g 1) (f0.g 2) (hla := (by first | omega | (simp; done))) (hlb := (by first | omega | (simp; done))) (hsa := (by first | assumption | exact sml_16)) (hsb := (by first | assumption | exact sml_16))) ?_
 rintro c0 m0 ⟨rfl, h0⟩
 have m0 := f0.below h0.below
 refine ⟨_, rfl, fun h0 f0 => ?_⟩
 refine mv f0 (fun h0 c0 => ?_)
 refine r_extract sv c0 rfl rfl rfl rfl (by decide) (fun h0 f0 => ?_)
 refine r_extract sv f0 rfl rfl rfl rfl (by decide) (fun h0 c0 => ?_)
 refine asg c0 (fun h0 f0 => ?_)
 refine asg f0 (fun h0 c0 => ?_)
 refine wpList_nil (x_then_n (b0 _ _ ?_))
 refine wsc (fun b0 h0 => ?_)
 refine mv c0 (fun b0 f0 => ?_)
 refine mv f0 (fun b0 c0 => ?_)
 have b0 : (smB ([(⟨11, 0, 0, (⟨#[]⟩ : ByteArray)⟩ : Nd)]) ([(⟨11, 0, 0, (⟨#[]⟩ : ByteArray)⟩ : Nd)])) = true := (sm_num (m := 0) (n := 0) (by omega) (by omega)).1
 have f0 := c0.setb (d := 24) (b := true) rfl b0
 refine r_move (st_listV_w (wt f0)) f0 rfl rfl rfl (by decide) (fun c0 j0 => ?_)
 refine r_eql (st_listV_w (wt j0)) j0 rfl rfl rfl rfl (by decide) (fun c0 f0 => ?_)
 refine r_pick_t sv f0 rfl rfl rfl rfl (by decide) (fun c0 j0 => ?_)
 refine mv j0 (fun c0 f0 => ?_)
 have c0 : ((smE ([(⟨11, 0, 0, (⟨#[]⟩ : ByteArray)⟩ : Nd)]) ([(⟨11, 0, 0, (⟨#[]⟩ : ByteArray)⟩ : Nd)]))) = 0 := (sm_num (m := 0) (n := 0) (by omega) (by omega)).2
 have j0 := f0.setb (d := 28) (b := true) rfl (decide_eq_true c0)
 refine r_move (st_listV_w (wt j0)) j0 rfl rfl rfl (by decide) (fun f0 d0 => ?_)
 refine r_not (st_listV_w (wt d0)) d0 rfl rfl rfl (by decide) (fun f0 j0 => ?_)
 refine r_pick_t sv j0 rfl rfl rfl rfl (by decide) (fun f0 d0 => ?_)
 refine mv d0 (fun f0 j0 => ?_)
 have f0 : (smB ([(⟨11, 0, 0, (⟨#[]⟩ : ByteArray)⟩ : Nd)]) ([(⟨10, 0, 0, (⟨#[]⟩ : ByteArray)⟩ : Nd)])) = false := (sm_nat (m := 0) (by omega)).1
 have d0 := j0.setb (d := 32) (b := true) rfl (by rw [f0]; rfl)
 refine r_move (st_listV_w (wt d0)) d0 rfl rfl rfl (by decide) (fun j0 i0 => ?_)
 refine r_eql (st_listV_w (wt i0)) i0 rfl rfl rfl rfl (by decide) (fun j0 d0 => ?_)
 refine r_pick_t sv d0 rfl rfl rfl rfl (by decide) (fun j0 i0 => ?_)
 refine asg i0 (fun j0 d0 => ?_)
 refine wpList_nil (x_then_n (h0 _ _ ?_))
 refine wp_ret ?_
 refine e_ret1 d0 rfl rfl rfl ?_
 have d0 : ((smE ([(⟨11, 0, 0, (⟨#[]⟩ : ByteArray)⟩ : Nd)]) ([(⟨10, 0, 0, (⟨#[]⟩ : ByteArray)⟩ : Nd)]))) = 0 := (sm_nat (m := 0) (by omega)).2
 refine ⟨?_, m0.fr⟩
 exact congrArg Ending.returned (ret_b (by first | rfl | omega | assumption | exact decide_eq_true (by assumption) | (have m0 := b0; (try simp at m0); have h0 := c0; (try simp at h0); have j0 := f0; (try simp at j0); have i0 := d0; (try simp at i0);  omega) | (simp [b0, c0, f0, d0]; done) | (simp [] at *; done) | (simp [b0, c0, f0, d0] <;> omega) | (rw [Bool.eq_iff_iff]; simp [b0, c0, f0, d0] <;> omega) | (rw [Bool.eq_iff_iff]; simp [b0, c0, f0, d0] at * <;> omega)))
end Go.Proofs.YthdemmcfnpmmiaaDoor
/- Contracts of functions, one theorem each: what the call returns, and that nothing old is changed. Printed by gen.py. -/
namespace Go.Proofs.YthdemmcfnpmmiaaDoor
open Go Go.RowKit
set_option linter.unusedSimpArgs false
set_option linter.unusedVariables false
set_option maxRecDepth 100000 in
set_option maxHeartbeats 1000000 in
theorem convertNumbers_calls (w0 : World) (Z : Nat → Prop) (hZ : ∀ k, Z k → k < w0.heap.size) (a : Nat) (b : Nat) (hShp : Shapes w0 Z) (ha : a < 256 := by first | assumption | omega | (simp; done) | (simp; omega)) (hb : b < 256 := by first | assumption | omega | (simp; done) | (simp; omega)) :
    Calls Tryd.prog 5 [.int .u8 ((a : Nat) : Int), .int .u8 ((b : Nat) : Int)].toArray w0 (fun e w' => e = .returned (.bool (true)) ∧ Fr none_ w0 w') := by
 have b0 := s0 (M := none_) hZ (zc (d := dShapes) hShp zn)
 refine c_enter Tryd.func5 rfl Tryd.ntmps5 rfl (fun c0 d0 => ?_)
 refine wsc (fun c0 f0 => ?_)
 refine asg d0 (fun c0 h0 => ?_)
 refine wpList_nil (x_then_n (f0 _ _ ?_))
 refine wp_seq_k (fun f0 c0 => ?_)
 refine wsc (fun f0 d0 => ?_)
 have f0 := b0.nf
 refine k_call (xs := []) se h0 rfl rfl rfl (by decide) ok8 (shown16_calls _ _ f0.il (f0.g 0)) ?_
 rintro h0 b0 ⟨rfl, i0⟩
 have b0 := f0.below i0.below
 refine ⟨_, rfl, fun i0 f0 => ?_⟩
 refine r_not sv f0 rfl rfl rfl (by decide) (fun i0 h0 => ?_)
 refine wpList_nil (x_then_n (d0 _ _ ?_))
 have d0 := h0.setb (d := 15) (b := false) rfl rfl
 refine wp_cond_false (d0.ev rfl) ?_
 refine wp_skip ?_
 refine x_then_n (c0 _ _ ?_)
 refine wsc (fun c0 h0 => ?_)
 refine m_build (ps := [(0, .const (.int .i64 11))]) (v := .agg #[.int .i64 11, .int .i64 0, .int .i64 0, .string (⟨#[]⟩ : ByteArray)]) sv d0 rfl rfl rfl (fun _ => by kernel_rfl) (by decide) (fun c0 i0 => ?_)
 refine mbs [(0, .tmp 16)] [.int .i64 11, .int .i64 0, .int .i64 0, .string (⟨#[]⟩ : ByteArray)] sv i0 b0 Tryd.underlying22 zi32 (fun c0 d0 f0 j0 k0 => ?_)
 refine asg j0 (fun d0 c0 => ?_)
 refine wpList_nil (x_then_n (h0 _ _ ?_))
 refine wsc (fun h0 d0 => ?_)
 refine m_build (ps := [(0, .const (.int .i64 11))]) (v := .agg #[.int .i64 11, .int .i64 0, .int .i64 0, .string (⟨#[]⟩ : ByteArray)]) sv c0 rfl rfl rfl (fun _ => by kernel_rfl) (by decide) (fun h0 j0 => ?_)
 refine mbs [(0, .tmp 18)] [.int .i64 11, .int .i64 0, .int .i64 0, .string (⟨#[]⟩ : ByteArray)] sv j0 k0 Tryd.underlying22 zi32 (fun h0 c0 i0 b0 m0 => ?_)
 refine asg b0 (fun c0 h0 => ?_)
 refine wpList_nil (x_then_n (d0 _ _ ?_))
 refine wp_seq_k (fun d0 c0 => ?_)
 refine wsc (fun d0 b0 => ?_)
 refine asg h0 (fun d0 j0 => ?_)
 refine wpList_nil (x_then_n (b0 _ _ ?_))
 refine wp_block ?_
 refine wp_loop_ghost (fun gn ga gw => ∃ k : Nat, ∃ tA : Option Addr, ∃ tc : Nat, (Reg ga 77 [(1000000, .bool false), (0, .int .u8 ((a : Nat) : Int)), (1, .int .u8 ((b : Nat) : Int)), (4, .bool false), (6, .slice (some ⟨i0, 0, none⟩) 1 1), (7, .int .i64 ((k : Nat) : Int)), (5, .slice tA ((suL k).length) tc)]) ∧ (St w0 Z none_ gw [.row tA ((suL k).length) tc 32 4 (encNs (suL k)), .row (some ⟨i0, 0, none⟩) 1 1 32 4 (encNs ([(⟨11, 0, 0, (⟨#[]⟩ : ByteArray)⟩ : Nd)]))] [dShapes]) ∧ (k ≤ a % 50) ∧ (a % 50 - k) = gn) _ ⟨0, (some ⟨f0, 0, none⟩), 1, (j0.sub (rc rfl (rc rfl (rc rfl (rc rfl (rc rfl (rc rfl (rc rfl rnl)))))))), m0, by omega, rfl⟩ ?_
 rintro j0 m0 f0 ⟨k, tA, tc, b0, d0, hk, h0⟩
 have hnk := suL_len k
 refine wp_seq_k (fun h0 f0 => ?_)
 refine wsc (fun h0 m0 => ?_)
 refine mv b0 (fun h0 j0 => ?_)
 refine mv j0 (fun h0 b0 => ?_)
 refine r_conv sv b0 rfl rfl rfl Tryd.underlying5 Tryd.underlying3 (by decide) (by omega) (by omega) (fun h0 j0 => ?_)
 refine r_rem (z := (((a) % 50 : Nat) : Int)) sv j0 rfl rfl rfl rfl (by decide) (tmod_nat (a) 50) (by decide) (fun h0 b0 => ?_)
 refine r_lss sv b0 rfl rfl rfl rfl (by decide) (fun h0 j0 => ?_)
 refine wpList_nil (x_then_n (m0 _ _ ?_))
 rcases Decidable.em (((k : Nat) : Int) < (((a) % 50 : Nat) : Int)) with m0 | m0
 ·
  have h0 := j0.setb (d := 24) (b := true) rfl (decide_eq_true m0)
  refine wp_cond_true (h0.ev rfl) ?_
  refine wp_skip ?_
  refine x_then_n (f0 _ _ ?_)
  refine wp_seq_k (fun f0 b0 => ?_)
  refine wp_block ?_
  refine c_region ?_
  refine mv h0 (fun f0 k0 => ?_)
  refine m_build (ps := [(0, .const (.int .i64 12))]) (v := .agg #[.int .i64 12, .int .i64 0, .int .i64 0, .string (⟨#[]⟩ : ByteArray)]) sv k0 rfl rfl rfl (fun _ => by kernel_rfl) (by decide) (fun f0 h0 => ?_)
  refine mbs [(0, .tmp 28)] [.int .i64 12, .int .i64 0, .int .i64 0, .string (⟨#[]⟩ : ByteArray)] sv h0 d0 Tryd.underlying22 zi32 (fun f0 k0 n0 o0 p0 => ?_)
  refine m_appendF (f := encN) (i := 0) (suL k) ([(⟨12, 0, 0, (⟨#[]⟩ : ByteArray)⟩ : Nd)]) sv o0 p0 rfl rfl rfl rfl rfl encN_len (encN_one _) Tryd.underlying22 zi32 rfl rfl (own_lnews (f := encN) (p0.res (i := 2) rfl)) rfl (by first | omega | (simp only [List.length_cons, List.length_nil]; omega)) (by decide) (fun n0 k0 f0 h0 t0 u0 v0 => ?_)
  have t0 : ((suL k) ++ ([(⟨12, 0, 0, (⟨#[]⟩ : ByteArray)⟩ : Nd)]) : List Nd).length = (suL k).length + 1 := by first | (simp only [List.length_append, List.length_take, List.length_cons, List.length_nil]; done) | (simp only [List.length_append, List.length_take, List.length_cons, List.length_nil]; omega)
  have t0 := v0.erase 2
  refine asg u0 (fun v0 k0 => ?_)
  refine wpList_nil ?_
  refine x_block_n ?_
  refine x_then_n (b0 _ _ ?_)
  refine c_region ?_
  refine mv k0 (fun b0 v0 => ?_)
  refine r_add (z := ((k + 1 : Nat) : Int)) sv v0 rfl rfl rfl rfl (by decide) (by omega) (by omega) (by omega) (fun b0 k0 => ?_)
  refine asg k0 (fun b0 v0 => ?_)
  refine wpList_nil ?_
  have b0 : (suL k) ++ ([(⟨12, 0, 0, (⟨#[]⟩ : ByteArray)⟩ : Nd)]) = suL (k + 1) := suL_app
  have k0 := v0
  have v0 := t0
  rw [b0] at k0 v0
  exact ⟨_, by omega, k + 1, f0, h0, (k0.sub (rc rfl (rc rfl (rc rfl (rc rfl (rc rfl (rc rfl (rc rfl rnl)))))))), v0, by omega, rfl⟩
 ·
  have v0 := j0.setb (d := 24) (b := false) rfl (decide_eq_false m0)
  refine wp_cond_false (v0.ev rfl) ?_
  refine wp_exit ?_
  refine x_then_e ?_
  refine x_then_e ?_
  refine x_block_eq ?_
  refine x_then_n (c0 _ _ ?_)
  refine wp_seq_k (fun c0 j0 => ?_)
  refine wsc (fun c0 k0 => ?_)
  refine asg v0 (fun c0 h0 => ?_)
  refine wpList_nil (x_then_n (k0 _ _ ?_))
  refine wp_block ?_
  refine wp_loop_ghost (fun gn ga gw => ∃ l : Nat, ∃ uA : Option Addr, ∃ uc : Nat, (Reg ga 77 [(1000000, .bool false), (0, .int .u8 ((a : Nat) : Int)), (1, .int .u8 ((b : Nat) : Int)), (4, .bool false), (5, .slice tA ((suL k).length) tc), (8, .int .i64 ((l : Nat) : Int)), (6, .slice uA ((suL l).length) uc)]) ∧ (St w0 Z none_ gw [.row tA ((suL k).length) tc 32 4 (encNs (suL k)), .row uA ((suL l).length) uc 32 4 (encNs (suL l))] [dShapes]) ∧ (l ≤ b % 50) ∧ (b % 50 - l) = gn) _ ⟨0, (some ⟨i0, 0, none⟩), 1, (h0.sub (rc rfl (rc rfl (rc rfl (rc rfl (rc rfl (rc rfl (rc rfl rnl)))))))), d0, by omega, rfl⟩ ?_
  rintro h0 d0 i0 ⟨l, uA, uc, k0, c0, hl, v0⟩
  have hnl := suL_len l
  refine wp_seq_k (fun v0 i0 => ?_)
  refine wsc (fun v0 d0 => ?_)
  refine mv k0 (fun v0 h0 => ?_)
  refine mv h0 (fun v0 k0 => ?_)
  refine r_conv sv k0 rfl rfl rfl Tryd.underlying5 Tryd.underlying3 (by decide) (by omega) (by omega) (fun v0 h0 => ?_)
  refine r_rem (z := (((b) % 50 : Nat) : Int)) sv h0 rfl rfl rfl rfl (by decide) (tmod_nat (b) 50) (by decide) (fun v0 k0 => ?_)
  refine r_lss sv k0 rfl rfl rfl rfl (by decide) (fun v0 h0 => ?_)
  refine wpList_nil (x_then_n (d0 _ _ ?_))
  rcases Decidable.em (((l : Nat) : Int) < (((b) % 50 : Nat) : Int)) with d0 | d0
  ·
   have v0 := h0.setb (d := 35) (b := true) rfl (decide_eq_true d0)
   refine wp_cond_true (v0.ev rfl) ?_
   refine wp_skip ?_
   refine x_then_n (i0 _ _ ?_)
   refine wp_seq_k (fun i0 k0 => ?_)
   refine wp_block ?_
   refine c_region ?_
   refine mv v0 (fun i0 f0 => ?_)
   refine m_build (ps := [(0, .const (.int .i64 12))]) (v := .agg #[.int .i64 12, .int .i64 0, .int .i64 0, .string (⟨#[]⟩ : ByteArray)]) sv f0 rfl rfl rfl (fun _ => by kernel_rfl) (by decide) (fun i0 v0 => ?_)
   refine mbs [(0, .tmp 39)] [.int .i64 12, .int .i64 0, .int .i64 0, .string (⟨#[]⟩ : ByteArray)] sv v0 c0 Tryd.underlying22 zi32 (fun i0 f0 b0 t0 u0 => ?_)
   refine m_appendF (f := encN) (i := 1) (suL l) ([(⟨12, 0, 0, (⟨#[]⟩ : ByteArray)⟩ : Nd)]) sv t0 u0 rfl rfl rfl rfl rfl encN_len (encN_one _) Tryd.underlying22 zi32 rfl rfl (own_lnews (f := encN) (u0.res (i := 2) rfl)) rfl (by first | omega | (simp only [List.length_cons, List.length_nil]; omega)) (by decide) (fun b0 f0 i0 v0 n0 p0 o0 => ?_)
   have n0 : ((suL l) ++ ([(⟨12, 0, 0, (⟨#[]⟩ : ByteArray)⟩ : Nd)]) : List Nd).length = (suL l).length + 1 := by first | (simp only [List.length_append, List.length_take, List.length_cons, List.length_nil]; done) | (simp only [List.length_append, List.length_take, List.length_cons, List.length_nil]; omega)
   have n0 := o0.erase 2
   refine asg p0 (fun o0 f0 => ?_)
   refine wpList_nil ?_
   refine x_block_n ?_
   refine x_then_n (k0 _ _ ?_)
   refine c_region ?_
   refine mv f0 (fun k0 o0 => ?_)
   refine r_add (z := ((l + 1 : Nat) : Int)) sv o0 rfl rfl rfl rfl (by decide) (by omega) (by omega) (by omega) (fun k0 f0 => ?_)
   refine asg f0 (fun k0 o0 => ?_)
   refine wpList_nil ?_
   have k0 : (suL l) ++ ([(⟨12, 0, 0, (⟨#[]⟩ : ByteArray)⟩ : Nd)]) = suL (l + 1) := suL_app
   have f0 := o0
   have o0 := n0
   rw [k0] at f0 o0
   exact ⟨_, by omega, l + 1, i0, v0, (f0.sub (rc rfl (rc rfl (rc rfl (rc rfl (rc rfl (rc rfl (rc rfl rnl)))))))), o0, by omega, rfl⟩
  ·
   have o0 := h0.setb (d := 35) (b := false) rfl (decide_eq_false d0)
   refine wp_cond_false (o0.ev rfl) ?_
   refine wp_exit ?_
   refine x_then_e ?_
   refine x_then_e ?_
   refine x_block_eq ?_
   refine x_then_n (j0 _ _ ?_)
   refine wsc (fun j0 h0 => ?_)
   refine m_build (ps := [(0, .const (.int .i64 10))]) (v := .agg #[.int .i64 10, .int .i64 0, .int .i64 0, .string (⟨#[]⟩ : ByteArray)]) sv o0 rfl rfl rfl (fun _ => by kernel_rfl) (by decide) (fun j0 f0 => ?_)
   refine mbs [(0, .tmp 42)] [.int .i64 10, .int .i64 0, .int .i64 0, .string (⟨#[]⟩ : ByteArray)] sv f0 c0 Tryd.underlying22 zi32 (fun j0 o0 v0 i0 k0 => ?_)
   refine asg i0 (fun o0 j0 => ?_)
   refine wpList_nil (x_then_n (h0 _ _ ?_))
   refine wsc (fun h0 o0 => ?_)
   refine mv j0 (fun h0 i0 => ?_)
   refine mv i0 (fun h0 j0 => ?_)
   have h0 := k0.nf
   have k0 := own_cap (h0.res (i := 0) rfl)
   obtain ⟨i0, f0⟩ := h0.row_data (i := 0) rfl (fun _ h => h)
   have h0 := i0.data (dRow 4 tA ((suL k).length) tc (encNs (suL k))) ⟨k0, f0⟩
   have f0 := own_cap (h0.res (i := 0) rfl)
   obtain ⟨i0, k0⟩ := h0.row_data (i := 0) rfl (fun _ h => h)
   have h0 := i0.data (dRow 4 uA ((suL l).length) uc (encNs (suL l))) ⟨f0, k0⟩
   refine k_call (xs := [.tmp 45, .tmp 46]) se j0 rfl rfl rfl (by decide) ok9 (vSame_calls _ _ h0.il _ _ (suL k) _ _ (suL l) (h0.g 0) (h0.g 1) (h0.g 2) (hla := (by omega)) (hlb := (by first | omega | (simp; done))) (hsa := (su_sml _)) (hsb := (by first | exact su_sml _ | exact sml_16))) ?_
   rintro j0 k0 ⟨rfl, i0⟩
   have k0 := h0.below i0.below
   refine ⟨_, rfl, fun i0 h0 => ?_⟩
   refine mv h0 (fun i0 j0 => ?_)
   refine r_extract sv j0 rfl rfl rfl rfl (by decide) (fun i0 h0 => ?_)
   refine r_extract sv h0 rfl rfl rfl rfl (by decide) (fun i0 j0 => ?_)
   refine asg j0 (fun i0 h0 => ?_)
   refine asg h0 (fun i0 j0 => ?_)
   refine wpList_nil (x_then_n (o0 _ _ ?_))
   refine wsc (fun o0 i0 => ?_)
   refine mv j0 (fun o0 h0 => ?_)
   refine mv h0 (fun o0 j0 => ?_)
   have o0 := k0.nf
   have k0 := own_cap (o0.res (i := 0) rfl)
   obtain ⟨h0, f0⟩ := o0.row_data (i := 0) rfl (fun _ h => h)
   have o0 := h0.data (dRow 4 (some ⟨v0, 0, none⟩) 1 1 (encNs ([(⟨10, 0, 0, (⟨#[]⟩ : ByteArray)⟩ : Nd)]))) ⟨k0, f0⟩
   refine k_call (xs := [.tmp 51, .tmp 52]) se j0 rfl rfl rfl (by decide) ok9 (vSame_calls _ _ o0.il _ _ (suL k) _ _ ([(⟨10, 0, 0, (⟨#[]⟩ : ByteArray)⟩ : Nd)]) (o0.g 0) (o0.g 1) (o0.g 3) (hla := (by omega)) (hlb := (by first | omega | (simp; done))) (hsa := (su_sml _)) (hsb := (by first | exact su_sml _ | exact sml_16))) ?_
   rintro j0 f0 ⟨rfl, h0⟩
   have f0 := o0.below h0.below
   refine ⟨_, rfl, fun h0 o0 => ?_⟩
   refine mv o0 (fun h0 j0 => ?_)
   refine r_extract sv j0 rfl rfl rfl rfl (by decide) (fun h0 o0 => ?_)
   refine r_extract sv o0 rfl rfl rfl rfl (by decide) (fun h0 j0 => ?_)
   refine asg j0 (fun h0 o0 => ?_)
   refine asg o0 (fun h0 j0 => ?_)
   refine wpList_nil (x_then_n (i0 _ _ ?_))
   refine wsc (fun i0 h0 => ?_)
   refine mv j0 (fun i0 o0 => ?_)
   refine r_eql sv o0 rfl rfl rfl rfl (by decide) (fun i0 j0 => ?_)
   refine mv j0 (fun i0 o0 => ?_)
   have i0 : ((smE (suL k) (suL l))) = 0 := (sm_num (by omega) (by omega)).2
   have j0 := o0.setb (d := 58) (b := true) rfl (decide_eq_true i0)
   refine r_move (st_listV_w (wt j0)) j0 rfl rfl rfl (by decide) (fun o0 k0 => ?_)
   refine r_eql (st_listV_w (wt k0)) k0 rfl rfl rfl rfl (by decide) (fun o0 j0 => ?_)
   refine r_pick_t sv j0 rfl rfl rfl rfl (by decide) (fun o0 k0 => ?_)
   refine mv k0 (fun o0 j0 => ?_)
   have o0 : ((smE (suL k) ([(⟨10, 0, 0, (⟨#[]⟩ : ByteArray)⟩ : Nd)]))) = 0 := (sm_nat (by omega)).2
   have k0 := j0.setb (d := 62) (b := true) rfl (decide_eq_true o0)
   refine r_move (st_listV_w (wt k0)) k0 rfl rfl rfl (by decide) (fun j0 c0 => ?_)
   refine r_not (st_listV_w (wt c0)) c0 rfl rfl rfl (by decide) (fun j0 k0 => ?_)
   refine r_pick_t sv k0 rfl rfl rfl rfl (by decide) (fun j0 c0 => ?_)
   refine mv c0 (fun j0 k0 => ?_)
   refine l_join (fun ga gw => Reg ga 77 [(4, .bool false), (76, .bool true), (1000000, .bool false)] ∧ St w0 Z none_ gw [] [dShapes, dRow 4 tA ((suL k).length) tc (encNs (suL k)), dRow 4 uA ((suL l).length) uc (encNs (suL l)), dRow 4 (some ⟨v0, 0, none⟩) 1 1 (encNs ([(⟨10, 0, 0, (⟨#[]⟩ : ByteArray)⟩ : Nd)]))]) 10 ?_ ?_
   ·
    have v0 : (smB (suL k) ([(⟨10, 0, 0, (⟨#[]⟩ : ByteArray)⟩ : Nd)])) = false := (sm_nat (by omega)).1
    have j0 := k0.setb (d := 66) (b := true) rfl (by rw [v0]; rfl)
    refine r_move (st_listV_w (wt j0)) j0 rfl rfl rfl (by decide) (fun v0 k0 => ?_)
    refine r_move (st_listV_w (wt k0)) k0 rfl rfl rfl (by decide) (fun v0 j0 => ?_)
    refine r_conv (st_listV_w (wt j0)) j0 rfl rfl rfl Tryd.underlying5 Tryd.underlying3 (by decide) (by omega) (by omega) (fun v0 k0 => ?_)
    refine r_rem (z := (((a) % 50 : Nat) : Int)) (st_listV_w (wt k0)) k0 rfl rfl rfl rfl (by decide) (tmod_nat (a) 50) (by decide) (fun v0 j0 => ?_)
    refine r_move (st_listV_w (wt j0)) j0 rfl rfl rfl (by decide) (fun v0 k0 => ?_)
    refine r_conv (st_listV_w (wt k0)) k0 rfl rfl rfl Tryd.underlying5 Tryd.underlying3 (by decide) (by omega) (by omega) (fun v0 j0 => ?_)
    refine r_rem (z := (((b) % 50 : Nat) : Int)) (st_listV_w (wt j0)) j0 rfl rfl rfl rfl (by decide) (tmod_nat (b) 50) (by decide) (fun v0 k0 => ?_)
    refine r_eql (st_listV_w (wt k0)) k0 rfl rfl rfl rfl (by decide) (fun v0 j0 => ?_)
    rcases Bool.eq_false_or_eq_true (smB (suL k) (suL l)) with v0 | v0
    ·
     have k0 : (((a) % 50 : Nat) : Int) = (((b) % 50 : Nat) : Int) := (by have q := (sm_num (m := k) (n := l) (by omega) (by omega)).1.symm.trans v0; have := of_decide_eq_true q; omega)
     have c0 := j0.setb (d := 67) (b := true) rfl v0
     have n0 := c0.setb (d := 74) (b := true) rfl (decide_eq_true k0)
     refine r_eqlB (st_listV_w (wt j0)) n0 rfl rfl rfl rfl Tryd.underlying4 (by decide) (fun c0 k0 => ?_)
     refine r_pick_t sv k0 rfl rfl rfl rfl (by decide) (fun c0 n0 => ?_)
     refine wpList_nil ?_
     exact x_then_n ⟨(n0.sub (rc rfl (rc rfl (rc rfl rnl)))), f0⟩
    ·
     have n0 : ¬ ((((a) % 50 : Nat) : Int) = (((b) % 50 : Nat) : Int)) := (by have q := (sm_num (m := k) (n := l) (by omega) (by omega)).1.symm.trans v0; have := of_decide_eq_false q; omega)
     have c0 := j0.setb (d := 67) (b := false) rfl v0
     have v0 := c0.setb (d := 74) (b := false) rfl (decide_eq_false n0)
     refine r_eqlB (st_listV_w (wt j0)) v0 rfl rfl rfl rfl Tryd.underlying4 (by decide) (fun c0 n0 => ?_)
     refine r_pick_t sv n0 rfl rfl rfl rfl (by decide) (fun c0 v0 => ?_)
     refine wpList_nil ?_
     exact x_then_n ⟨(v0.sub (rc rfl (rc rfl (rc rfl rnl)))), f0⟩
   rintro v0 f0 ⟨c0, n0⟩
   refine asg c0 (fun f0 v0 => ?_)
   refine wpList_nil (x_then_n (h0 _ _ ?_))
   refine wp_ret ?_
   refine e_ret1 v0 rfl rfl rfl ?_
   refine ⟨?_, n0.fr⟩
   exact congrArg Ending.returned (ret_b (by first | rfl | omega | assumption | exact decide_eq_true (by assumption) | (have n0 := m0; (try simp at n0); have v0 := d0; (try simp at v0); have h0 := i0; (try simp at h0); have f0 := o0; (try simp at f0);  omega) | (simp [m0, d0, i0, o0]; done) | (simp [] at *; done) | (simp [m0, d0, i0, o0] <;> omega) | (rw [Bool.eq_iff_iff]; simp [m0, d0, i0, o0] <;> omega) | (rw [Bool.eq_iff_iff]; simp [m0, d0, i0, o0] at * <;> omega)))
end Go.Proofs.YthdemmcfnpmmiaaDoor
/- From a row's reading to cells, and back: slices of nodes, the table of shapes, arguments that nobody changed. -/
namespace Go.Proofs.YthdemmcfnpmmiaaDoor
set_option linter.unusedSimpArgs false
set_option linter.unusedVariables false
open Go Go.RowKit Go.WideShapes Go.ChangeShapes
theorem kids : Kids Tryd.prog (· < Tryd.prog.types.size) := kids_rows (by kernel_rfl) (by kernel_rfl)
theorem slicesFull : ∀ t e, t < Tryd.prog.types.size → Tryd.prog.underlying t = some (.slice e) → 0 < Tryd.prog.cellsOf e := slices_full_of Tryd.prog (by kernel_rfl)
theorem ownKnobNone : ownKnob Tryd.prog.godebug = none := by kernel_rfl
section
variable {H : Type} {enc : TypeId × Value → H} {P : Program} {w W W' : World}
theorem trodAll_carry {base : Nat} {sp : Nat → Bool} {held : Bool} : ∀ {ts : List TypeId} {vs : List Value} {ds : List (DataW H)} {ps : List MemPlace},
  DataW.TrodAll enc P W base sp held ts vs ds ps → (∀ p ∈ ps, W.sameAt W' p) → DataW.TrodAll enc P W' base sp held ts vs ds ps
 | [], [], [], _, h, _ => h
 | _ :: _, _ :: _, _ :: _, _, ⟨p, q, ⟨n, h1⟩, h2, e⟩, hs =>
  ⟨p, q, ⟨n, DataW.trod_carry n _ _ _ h1 (fun x hx => hs x (by rw [e]; exact List.mem_append_left _ hx))⟩,
   trodAll_carry h2 (fun x hx => hs x (by rw [e]; exact List.mem_append_right _ hx)), e⟩
 | [], [], _ :: _, _, h, _ => h.elim
 | [], _ :: _, _, _, h, _ => h.elim
 | _ :: _, [], _, _, h, _ => h.elim
 | _ :: _, _ :: _, [], _, h, _ => h.elim
theorem sameAt_below (hb : Below W.heap.size W W') {p : MemPlace} (hp : p.block < W.heap.size) : W.sameAt W' p := by
 cases p with
 | cell b off => exact hb.cell (p := ⟨b, off, none⟩) hp
 | map b => exact hb.block b hp
theorem post_true {f : Func} {s : ChangeSpec} {apart fresh handsOn again : Bool} {args : Array Value} {ds : List (DataW H)} {before : List MemPlace}
  (K : Kids P (· < P.types.size)) (hz : ∀ t e, t < P.types.size → P.underlying t = some (.slice e) → 0 < P.cellsOf e) (hts : ∀ t ∈ f.params.toList, t < P.types.size)
  (hvars : s.vars = []) (hW : DataW.Whole enc P f.params.toList s.vars apart W args.toList ds [] before)
  {tb : TypeId} (hrt : f.resultTypes = #[tb]) (htb : P.underlying tb = some .bool)
  (hfn : (s.fn H ds).results = [.lit (.bool true)] ∧ (s.fn H ds).args = ds ∧ (s.fn H ds).vars = []) (hb : Below W.heap.size W W') :
  s.post enc P f apart fresh handsOn again W args (.bool true) W' := by
 have hlt : ∀ p ∈ before, p.block < W.heap.size := fun p hp => hW.lt p hp
 have hold : ∀ p ∈ before, (fun b => decide (b < W.heap.size)) p.block = true := fun p hp => by simpa using hlt p hp
 have hW0 := hW
 obtain ⟨p, q, hA, hV, he, hzf, hn⟩ := hW0
 rw [hvars] at hV
 have hq : q = [] := hV
 subst hq
 rw [List.append_nil] at he
 subst he
 have hA' := trodAll_carry (W' := W') hA (fun x hx => sameAt_below hb (hlt x hx))
 have hres : ∀ (b : Nat) (sp : Nat → Bool) (hd : Bool), DataW.TrodAll enc P W' b sp hd f.resultTypes.toList ((Value.bool true).resultList f.resultTypes.size) (s.fn H ds).results [] := fun b sp hd => by
  rw [hfn.1, hrt]
  exact trodAll_mk1 (shut_bool htb true)
 refine ⟨ds, [], before, [], before, [], hW, ?_, ?_, ?_, World.keptBut_mono (fun p hp => ⟨hp, .inr (.inl hp)⟩) (hb.frame (· ∈ before)), fun _ => ⟨?_, ?_⟩⟩
 · rw [List.append_nil]; exact hres _ _ _
 ·
  rw [List.append_nil, hfn.2.1]
  exact DataW.TrodAll.respare K hz hts hA' hold
 ·
  rw [List.append_nil, hfn.2.2, hvars]
  exact rfl
 · exact ok_one hrt rfl (okWide_bool_mk htb true)
 ·
  refine ⟨[.lit (.bool true)] ++ ds, [], [] ++ before, ⟨[] ++ before, [], ?_, ?_, by simp, ?_, ?_⟩, ?_⟩
  ·
   rw [hrt]
   exact trodAll_append hA' (trodAll_mk1 (shut_bool htb true))
  ·
   rw [hvars]
   exact rfl
  ·
   intro b off hp
   have hin : MemPlace.cell b off ∈ before := by simpa using hp
   rw [hb.frozen (hlt _ hin)]
   exact hzf b off hin
  ·
   intro ha
   simpa using hn ha
  ·
   intro x hx _
   simpa using hx
end
section
variable {H : Type} {enc : TypeId × Value → H} {w : World}
theorem lt_of_cell {p : Addr} {v : Value} (h : w.cell? p = some v) : p.block < w.heap.size := by
 unfold World.cell? at h
 cases ho : w.heap[p.block]? with
 | none => simp [ho] at h
 | some o => exact (Array.getElem?_eq_some_iff.1 ho).1
end
end Go.Proofs.YthdemmcfnpmmiaaDoor
/- An argument that is a byte. -/
namespace Go.Proofs.YthdemmcfnpmmiaaDoor
set_option linter.unusedSimpArgs false
set_option linter.unusedVariables false
open Go Go.RowKit Go.WideShapes Go.ChangeShapes
section
variable {P : Program}
theorem okWide_byte {t : TypeId} {w : World} {r : Reach} {b0 : Nat} {v : Value} (ht : P.underlying t = some (.int .u8)) (h : Value.okWide P w r b0 t v) : ∃ b : Nat, v = .int .u8 (b : Int) ∧ b < 256 := by
 have h0 := h
 obtain ⟨n, rfl⟩ := okWide_int ht h
 simp only [Value.okWide, ht, Cell.okWide] at h0
 have h1 : IntKind.u8.has n := by simpa [Cell.ok, ht] using h0
 have h2 : (0 : Int) ≤ n ∧ n ≤ 255 := h1
 exact ⟨n.toNat, by rw [Int.toNat_of_nonneg h2.1], by omega⟩
end
set_option maxRecDepth 100000 in
theorem open_byte {w : World} {r : Reach} {b0 : Nat} {v : Value} (hval : Value.okWide Tryd.prog w r b0 5 v) : ∃ b : Nat, v = .int .u8 (b : Int) ∧ b < 256 := okWide_byte Tryd.underlying5 hval
end Go.Proofs.YthdemmcfnpmmiaaDoor
/- The table of shapes: from the row's list to cells; a world that holds it. -/
namespace Go.Proofs.YthdemmcfnpmmiaaDoor
set_option linter.unusedSimpArgs false
set_option linter.unusedVariables false
open Go Go.RowKit Go.WideShapes Go.ChangeShapes
set_option maxRecDepth 100000
def shapeD (k : Nat) : DataW Unit := .agg [(match (shp k).b with | [] => .nil | b => .slice (lits .i64 b) []), .lit (.bool (shp k).n), .lit (.bool (shp k).m), .lit (.bool (shp k).s)]
theorem laid_eq : (Rows.laid_cornice_term_shapes : DataW Unit) = .agg ((List.range 30).map shapeD) := by kernel_rfl
theorem encIs_map (l : List Int) : encIs l = l.map (fun n => Value.int .i64 n) := by
 induction l with
 | nil => rfl
 | cons x t ih => rw [List.map_cons, ← ih]; rfl
theorem shape_cells {w : World} {base : Nat} {sp : Nat → Bool} {held : Bool} {n : Nat} {cs : List Value} {k : Nat} {p : List MemPlace}
  (h : DataW.trod (fun _ => ()) Tryd.prog w base sp held n 77 cs = some (shapeD k, p)) :
  ∃ (A : Option Addr) (cap : Nat), cs = [.slice A (shp k).b.length cap, .bool (shp k).n, .bool (shp k).m, .bool (shp k).s] ∧ (shp k).b.length ≤ cap ∧ RowI w (fun k => k < w.heap.size) 1 A (shp k).b.length (encIs (shp k).b) := by
 have hu : Tryd.prog.underlying 77 = some (.struct (Tryd.prog.fieldsOf 77)) := by kernel_rfl
 have hf : (Tryd.prog.fieldsOf 77).toList.map (fun f => (f.type, f.offset)) = [(56, 0), (4, 1), (4, 2), (4, 3)] := by kernel_rfl
 have hci : Tryd.prog.cellsOf 56 = 1 := by kernel_rfl
 have hci1 : Tryd.prog.cellsOf 3 = 1 := by kernel_rfl
 have hcs : Tryd.prog.cellsOf 4 = 1 := by kernel_rfl
 have hcn : Tryd.prog.cellsOf 77 = 4 := by kernel_rfl
 obtain ⟨xs, m, _, hx, hl, hxl, hg⟩ := DataW.trod_struct hu h
 rw [hcn] at hl
 have hd : xs.map (·.1) = [(match (shp k).b with | [] => .nil | b => .slice (lits .i64 b) []), .lit (.bool (shp k).n), .lit (.bool (shp k).m), .lit (.bool (shp k).s)] := by
  have := congrArg Prod.fst hx
  simp only [shapeD] at this
  injection this with h1
  exact h1.symm
 have fld : ∀ (j : Nat) (t : TypeId) (off : Nat), ((Tryd.prog.fieldsOf 77).toList.map (fun f => (f.type, f.offset)))[j]? = some (t, off) → DataW.trod (fun _ => ()) Tryd.prog w base sp held m t ((cs.drop off).take (Tryd.prog.cellsOf t)) = xs[j]? := by
  intro j t off hj
  rw [List.getElem?_map] at hj
  cases hfj : (Tryd.prog.fieldsOf 77).toList[j]? with
  | none => rw [hfj] at hj; cases hj
  | some f =>
   rw [hfj] at hj
   simp only [Option.map_some, Option.some.injEq, Prod.mk.injEq] at hj
   obtain ⟨rfl, rfl⟩ := hj
   exact hg j f (by rw [← Array.getElem?_toList]; exact hfj)
 rw [hf] at fld
 match cs, hl, xs, hd with
 | [c0, c1, c2, c3], _, [y0, y1, y2, y3], hd =>
  simp only [List.map_cons, List.map_nil, List.cons.injEq, and_true] at hd
  obtain ⟨d0, d1, d2, d3⟩ := hd
  have h0 := fld 0 _ _ rfl
  have h1 := fld 1 _ _ rfl
  have h2 := fld 2 _ _ rfl
  have h3 := fld 3 _ _ rfl
  rw [hci] at h0
  rw [hcs] at h1 h2 h3
  obtain ⟨b1, e1, f1⟩ := DataW.trod_bool Tryd.underlying4 h1
  obtain ⟨b2, e2, f2⟩ := DataW.trod_bool Tryd.underlying4 h2
  obtain ⟨b3, e3, f3⟩ := DataW.trod_bool Tryd.underlying4 h3
  simp at e1 e2 e3
  simp [f1] at d1
  simp [f2] at d2
  simp [f3] at d3
  subst e1 e2 e3 d1 d2 d3
  rcases open_ints Tryd.underlying56 Tryd.underlying3 hci1 h0 with ⟨hcs0, hy⟩ | ⟨a, len, cap, zs, hcs0, _, hle, _, hzl, hy, hcell, _⟩
  ·
   simp at hcs0
   subst hcs0
   rw [hy] at d0
   cases hb : (shp k).b with
   | nil => exact ⟨none, 0, by simp, by simp, by simp [encIs], fun h => absurd h (by simp)⟩
   | cons z zs => rw [hb] at d0; simp at d0
  ·
   simp at hcs0
   subst hcs0
   rw [hy] at d0
   cases hb : (shp k).b with
   | nil => rw [hb] at d0; simp at d0
   | cons z l =>
    rw [hb] at d0
    simp only [DataW.slice.injEq] at d0
    obtain ⟨d4, d5⟩ := d0
    have hinj : ∀ a b : List Int, (lits .i64 a : List (DataW Unit)) = lits .i64 b → a = b := by
     intro a
     induction a with
     | nil => intro b hb; cases b with
      | nil => rfl
      | cons _ _ => simp [lits] at hb
     | cons x a ih => intro b hb; cases b with
      | nil => simp [lits] at hb
      | cons y b =>
       simp only [lits, List.map_cons, List.cons.injEq, DataW.lit.injEq, Lit.int.injEq, true_and] at hb
       rw [hb.1, ih b hb.2]
    have d6 := hinj _ _ d4
    have hll : len = (z :: l).length := by
     have := congrArg List.length d6
     rw [List.length_take] at this
     have hz : len ≤ zs.length := by rw [hzl]; split <;> omega
     omega
    subst hll
    refine ⟨some a, cap, rfl, hle, by simp [encIs_length], fun _ => ⟨a, rfl, ?_, ?_⟩⟩
    ·
     have h9 := hcell 0 (by have hz2 : (z :: l).length ≤ zs.length := (by rw [hzl]; split <;> omega); rw [List.length_cons] at hz2; omega)
     have := lt_of_cell h9
     rwa [block_of_add] at this
    ·
     intro j u hu
     have hjl : j < (z :: l).length := by
      have := (List.getElem?_eq_some_iff.1 hu).1
      rw [encIs_length] at this
      simpa using this
     have hzz : (z :: l).length ≤ zs.length := by rw [hzl]; split <;> omega
     rw [hcell j (by omega)]
     have h8 : (z :: l)[j]? = zs[j]? := by rw [← d6, List.getElem?_take_of_lt hjl]
     have h7 := encIs_map (z :: l)
     rw [h7, List.getElem?_map, h8] at hu
     cases hq : zs[j]? with
     | none => rw [hq] at hu; simp at hu
     | some q =>
      rw [hq] at hu
      simp only [Option.map_some, Option.some.injEq] at hu
      rw [← hu, List.getD_eq_getElem?_getD, hq]
      rfl
theorem shapes_of_laid {W : World} (h : laidMetH Tryd.prog [("cornice/term.shapes", Rows.laid_cornice_term_shapes)] W) : Shapes W (fun k => k < W.heap.size) := by
 have h' : laidMet Tryd.prog [("cornice/term.shapes", Rows.laid_cornice_term_shapes)] W := h
 obtain ⟨ps, ⟨g, t, cs, fuel, p, q, hg, ht, hvar, hd, _, _⟩, _⟩ := h'
 have hg0 : Tryd.prog.globalNamed "cornice/term.shapes" = some 0 := by kernel_rfl
 have ht0 : (Tryd.prog.globals[0]?).map (·.type) = some 78 := by kernel_rfl
 obtain rfl : 0 = g := Option.some.inj (hg0.symm.trans hg)
 obtain rfl : 78 = t := Option.some.inj (ht0.symm.trans ht)
 have hcn : Tryd.prog.cellsOf 77 = 4 := by kernel_rfl
 have hct : Tryd.prog.cellsOf 78 = 120 := by kernel_rfl
 obtain ⟨xs, m, _, hx, hl, hxl, hi⟩ := DataW.trod_array Tryd.underlying78 hd
 rw [hct] at hl
 have hxd : xs.map (·.1) = (List.range 30).map shapeD := by
  have := congrArg Prod.fst hx
  simp only [laid_eq] at this
  injection this with h1
  exact h1.symm
 intro k hk
 have h1 := hi k hk
 rw [hcn] at h1
 have hkx : k < xs.length := by omega
 have h2 : xs[k]? = some (shapeD k, (xs[k]).2) := by
  rw [List.getElem?_eq_getElem hkx]
  have h3 : (xs.map (·.1))[k]? = some (shapeD k) := by rw [hxd]; simp [hk]
  rw [List.getElem?_map, List.getElem?_eq_getElem hkx] at h3
  simp only [Option.map_some, Option.some.injEq] at h3
  rw [← h3]
 rw [h2] at h1
 obtain ⟨A, cap, hcs, hle, hrow⟩ := shape_cells h1
 refine ⟨A, cap, ⟨hle, hrow⟩, ?_, ?_⟩
 ·
  have h4 := World.var?_cell hg hvar 0
  have h5 : cs[0]? ≠ none := by
   intro e
   rw [← Array.getElem?_toList, List.getElem?_eq_none_iff] at e
   omega
  cases h6 : cs[0]? with
  | none => exact absurd h6 h5
  | some v => rw [h6] at h4; exact lt_of_cell h4
 ·
  intro j u hu
  have hj : j < 4 := by
   have := (List.getElem?_eq_some_iff.1 hu).1
   simpa using this
  have h4 := World.var?_cell hg hvar (k * 4 + j)
  rw [← hcs, List.getElem?_take_of_lt hj, List.getElem?_drop, Array.getElem?_toList] at hu
  rw [hu] at h4
  rw [add_of_add]
  have : (⟨0, 0, none⟩ : Addr).add (k * 4 + j) = ⟨0, k * 4 + j, none⟩ := by unfold Addr.add; split <;> simp_all
  rw [this]
  exact h4
noncomputable def laidWorld (os : Os) : World :=
 { World.holding Tryd.prog os ⟨#[.cells #[.int .i64 0, .int .i64 1, .int .i64 0, .int .i64 1, .int .i64 0, .int .i64 0, .int .i64 0, .int .i64 1, .int .i64 0, .int .i64 0, .int .i64 0, .int .i64 0, .int .i64 0, .int .i64 0, .int .i64 1, .int .i64 0, .int .i64 2, .int .i64 0, .int .i64 0, .int .i64 0, .int .i64 0, .int .i64 0, .int .i64 0, .int .i64 0, .int .i64 0, .int .i64 0, .int .i64 0, .int .i64 0, .int .i64 0, .int .i64 0, .int .i64 0, .int .i64 1, .int .i64 0, .int .i64 0, .int .i64 0, .int .i64 0, .int .i64 2, .int .i64 0, .int .i64 0, .int .i64 0, .int .i64 0, .int .i64 0, .int .i64 0, .int .i64 1, .int .i64 0, .int .i64 0, .int .i64 0] 3], #[], []⟩ with heap := (World.holding Tryd.prog os ⟨#[.cells #[.int .i64 0, .int .i64 1, .int .i64 0, .int .i64 1, .int .i64 0, .int .i64 0, .int .i64 0, .int .i64 1, .int .i64 0, .int .i64 0, .int .i64 0, .int .i64 0, .int .i64 0, .int .i64 0, .int .i64 1, .int .i64 0, .int .i64 2, .int .i64 0, .int .i64 0, .int .i64 0, .int .i64 0, .int .i64 0, .int .i64 0, .int .i64 0, .int .i64 0, .int .i64 0, .int .i64 0, .int .i64 0, .int .i64 0, .int .i64 0, .int .i64 0, .int .i64 1, .int .i64 0, .int .i64 0, .int .i64 0, .int .i64 0, .int .i64 2, .int .i64 0, .int .i64 0, .int .i64 0, .int .i64 0, .int .i64 0, .int .i64 0, .int .i64 1, .int .i64 0, .int .i64 0, .int .i64 0] 3], #[], []⟩).heap.modify 0 fun
   | .cells _ t frozen => .cells #[.slice none 0 0, .bool true, .bool false, .bool false, .slice none 0 0, .bool false, .bool false, .bool true, .slice none 0 0, .bool true, .bool false, .bool false, .slice (some ⟨6, 0, none⟩) 2 2, .bool true, .bool false, .bool false, .slice (some ⟨6, 2, none⟩) 2 2, .bool false, .bool false, .bool false, .slice (some ⟨6, 4, none⟩) 2 2, .bool false, .bool false, .bool false, .slice (some ⟨6, 6, none⟩) 2 2, .bool true, .bool false, .bool false, .slice (some ⟨6, 8, none⟩) 3 3, .bool false, .bool false, .bool false, .slice (some ⟨6, 11, none⟩) 1 1, .bool false, .bool false, .bool false, .slice (some ⟨6, 12, none⟩) 1 1, .bool false, .bool false, .bool false, .slice none 0 0, .bool false, .bool false, .bool false, .slice none 0 0, .bool false, .bool false, .bool false, .slice (some ⟨6, 13, none⟩) 1 1, .bool false, .bool false, .bool false, .slice (some ⟨6, 14, none⟩) 4 4, .bool false, .bool false, .bool false, .slice none 0 0, .bool false, .bool false, .bool false, .slice (some ⟨6, 18, none⟩) 2 2, .bool false, .bool false, .bool false, .slice none 0 0, .bool false, .bool false, .bool false, .slice none 0 0, .bool false, .bool false, .bool false, .slice (some ⟨6, 20, none⟩) 3 3, .bool false, .bool false, .bool false, .slice (some ⟨6, 23, none⟩) 2 2, .bool false, .bool false, .bool false, .slice (some ⟨6, 25, none⟩) 4 4, .bool false, .bool false, .bool false, .slice (some ⟨6, 29, none⟩) 6 6, .bool false, .bool false, .bool false, .slice (some ⟨6, 35, none⟩) 5 5, .bool false, .bool false, .bool false, .slice (some ⟨6, 40, none⟩) 2 2, .bool false, .bool false, .bool false, .slice (some ⟨6, 42, none⟩) 4 4, .bool false, .bool false, .bool false, .slice none 0 0, .bool false, .bool false, .bool true, .slice none 0 0, .bool true, .bool true, .bool true, .slice none 0 0, .bool false, .bool true, .bool true, .slice (some ⟨6, 46, none⟩) 1 1, .bool false, .bool false, .bool false, .slice none 0 0, .bool false, .bool false, .bool false] t frozen
   | o => o }
end Go.Proofs.YthdemmcfnpmmiaaDoor
/- The law ConvertNumbers: it returns true, whatever its arguments are, and they read as they did; the table of shapes holds what the program's text lays. -/
namespace Go.Proofs.YthdemmcfnpmmiaaDoor.lawConvertNumbers
open Go Go.RowKit Go.WideShapes Go.ChangeShapes Go.Proofs.YthdemmcfnpmmiaaDoor
set_option maxRecDepth 100000
set_option linter.unusedSimpArgs false
set_option linter.unusedVariables false
theorem contract (H : Type) (enc : TypeId × Value → H) (W : World) (base : Nat) (args : Array Value) (ds gs : List (DataW H)) (before : List MemPlace)
  (hval : ∀ (j : Nat) t v, Tryd.f5.params[j]? = some t → args[j]? = some v → Value.okWide Tryd.prog W .any base t v)
  (hW : DataW.Whole enc Tryd.prog Tryd.f5.params.toList Rows.convertNumbersSpec.vars false W args.toList ds gs before) (hL : laidMetH Tryd.prog Rows.convertNumbersRow.laid W) :
  Calls Tryd.prog 5 args W fun e W' => ∃ v, e = .returned v ∧ Rows.convertNumbersSpec.post enc Tryd.prog Tryd.f5 false true false false W args v W' := by
 have hW' := hW
 obtain ⟨p, q, hA0, hV, rfl, hfz, hnd⟩ := hW
 have hA := hA0
 rw [Tryd.params5] at hA hval
 obtain ⟨v0, vs0, d0, ds0, p0, q0, hargs, rfl, rfl, h0, r0⟩ := trodAll_cons hA
 obtain ⟨v1, vs1, d1, ds1, p1, q1, rfl, rfl, rfl, h1, r1⟩ := trodAll_cons r0
 obtain ⟨rfl, rfl, rfl⟩ := trodAll_nil r1
 obtain rfl : args = #[v0, v1] := by cases args; simp_all
 obtain ⟨rfl, rfl⟩ := trodVars_none hV
 obtain ⟨b0, rfl, hb0⟩ := open_byte (hval 0 _ _ rfl rfl)
 obtain ⟨b1, rfl, hb1⟩ := open_byte (hval 1 _ _ rfl rfl)
 refine (convertNumbers_calls W (fun k => k < W.heap.size) (fun _ h => h) b0 b1 (shapes_of_laid hL) hb0 hb1).mono fun e W' ⟨he, hf⟩ => ?_
 subst he
 exact ⟨_, rfl, post_true kids slicesFull (by rw [Tryd.params5]; decide) rfl hW' rfl Tryd.underlying4 ⟨rfl, rfl, rfl⟩ hf.below⟩
theorem laid_met (os : Os) : laidMet Tryd.prog Rows.convertNumbersRow.laid ((laidWorld os).forCall (fun _ _ => 0) ⟨#[], #[Value.int .u8 0, Value.int .u8 0], []⟩).memory :=
 laidMet_of_run' 8 (by kernel_rfl) (by kernel_rfl)
theorem reads (os : Os) {H : Type} (enc : TypeId × Value → H) : ∃ places, DataW.whole enc Tryd.prog ((laidWorld os).forCall (fun _ _ => 0) ⟨#[], #[Value.int .u8 0, Value.int .u8 0], []⟩).memory Tryd.f5.params.toList Rows.convertNumbersSpec.vars false #[Value.int .u8 0, Value.int .u8 0].toList 8 = some ([.lit (.int .u8 0), .lit (.int .u8 0)], [], places) :=
 ⟨[], by kernel_rfl⟩
theorem lifted (os : Os) (started : os.Started) (H : Type) (enc : TypeId × Value → H) (F : Stop.Interp) :
  ReturnsInHanded {} Tryd.checked os 5 .any ((OpenSpec.ofChange Rows.convertNumbersSpec).preRow enc Tryd.prog Tryd.f5 Rows.convertNumbersRow.domain false Rows.convertNumbersRow.laid) (((OpenSpec.ofChange Rows.convertNumbersSpec).at F).post enc Tryd.prog Tryd.f5 false true false false) := by
 obtain ⟨places, hx⟩ := reads os enc
 refine returnsInHanded_of_row (C := Tryd.checked) (s := OpenSpec.ofChange Rows.convertNumbersSpec) ownKnobNone started (by kernel_rfl) Tryd.func5
  (witness_row_atRef (enc := enc) (C := Tryd.checked) false (laidWorld os) #[Value.int .u8 0, Value.int .u8 0] rfl (by kernel_rfl) (by kernel_rfl) (by kernel_rfl)
   (OpenSpec.preRow_of_cond 8 hx (by kernel_rfl) (fun k hk => by cases hk) (by kernel_rfl) (laid_met os))) ?_
 intro W base args ds gs before hval hW _ _ _ hL _ _
 exact contract H enc W base args ds gs before hval hW hL
theorem said : Rows.ConvertNumbersSaid :=
 OpenClaim.holds_of_cond 5 Tryd.f5 rfl rfl rfl rfl rfl rfl rfl ⟨rfl, rfl, rfl, rfl, rfl⟩ rfl rfl rfl rfl rfl (by kernel_rfl) Tryd.func5 (by kernel_rfl)
  (of_decide_eq_true (by kernel_rfl)) (by unfold Func.isWrapper; first | (rw [if_pos (by decide +kernel)]; kernel_rfl) | (rw [if_neg (by decide +kernel)]; exact ⟨rfl, rfl⟩))
  (fun os started H enc _ F => by rw [OpenClaim.pre_eq_preRow]; exact lifted os started H enc F)
theorem plain (f : FuncId) (fn : Func) (hf : Tryd.pinned.checked.prog.funcNamed "cornice/cornicelaw16.ConvertNumbers" = some f) (hfn : Tryd.pinned.checked.prog.funcs[f]? = some fn) :
  false = Tryd.pinned.checked.prog.looks [] ∧ ∀ (j : Nat) t, fn.params[j]? = some t → Tryd.pinned.checked.prog.wantsStandIn t = false := by
 obtain rfl : f = 5 := Option.some.inj ((show Tryd.prog.funcNamed "cornice/cornicelaw16.ConvertNumbers" = some 5 by kernel_rfl).symm.trans hf) |>.symm
 obtain rfl : fn = Tryd.f5 := (Option.some.inj (Tryd.func5.symm.trans hfn)).symm
 refine ⟨by kernel_rfl, fun j t ht => ?_⟩
 rw [Tryd.params5] at ht
 have hm := Array.mem_of_getElem? ht
 simp only [List.mem_toArray, List.mem_cons, List.not_mem_nil, or_false] at hm
 rcases hm with rfl | rfl
 · exact (show Tryd.prog.wantsStandIn 5 = false by kernel_rfl)
 · exact (show Tryd.prog.wantsStandIn 5 = false by kernel_rfl)
theorem proved : Rows.ConvertNumbersCardSaid :=
 Claim7.holds_tied_plain_at .later [] _ _ _ _ said (fun _ h => by cases h) (by kernel_rfl) (fun _ h => by cases h) convertNumbers_row_tie rfl ⟨rfl, rfl⟩ (by kernel_rfl) rfl plain (by kernel_rfl)
end Go.Proofs.YthdemmcfnpmmiaaDoor.lawConvertNumbers
