import Derived.Test.YthdemmcfnpmmiaaDoorWcf
import Derived.Test.YthdemmcfnpmmiaaDoorCards
import Derived.Test.YthdemmcfnpmmiaaDoorTie
import Derived.ProofKit
import Derived.OpenShut
import Derived.ReadAgain
import Derived.Deep.DeepHandedRow
import Derived.Deep.Slices
import Derived.Lib.LaidTab
/- Contracts of functions, one theorem each: what the call returns, and that nothing old is changed. Printed by gen.py. -/
namespace Go.Proofs.YthdemmcfnpmmiaaDoor
open Go Go.RowKit
set_option linter.unusedSimpArgs false
set_option linter.unusedVariables false
set_option maxRecDepth 100000 in
set_option maxHeartbeats 1000000 in
theorem heavy16_calls (w0 : World) (Z : Nat → Prop) (hZ : ∀ k, Z k → k < w0.heap.size) (tA : Option Addr) (tc : Nat) (t : List Nd) (ht : (dRow 4 tA t.length tc (encNs t)).φ w0 Z) :
    Calls Tryd.prog 6 [.slice tA t.length tc].toArray w0 (fun e w' => e = .returned (.bool (heavyB 60 t)) ∧ Fr none_ w0 w') := by
 have b0 := s0 (M := none_) hZ (zc ht zn)
 refine c_enter Tryd.func6 rfl Tryd.ntmps6 rfl (fun c0 d0 => ?_)
 refine wsc (fun c0 f0 => ?_)
 refine asg d0 (fun c0 h0 => ?_)
 refine wpList_nil (x_then_n (f0 _ _ ?_))
 refine wp_seq_k (fun f0 c0 => ?_)
 refine wsc (fun f0 d0 => ?_)
 refine mv h0 (fun f0 i0 => ?_)
 refine r_len sv i0 rfl rfl rfl rfl Tryd.underlying22 (by decide) (fun f0 h0 => ?_)
 refine r_gtr sv h0 rfl rfl rfl rfl (by decide) (fun f0 i0 => ?_)
 refine wpList_nil (x_then_n (d0 _ _ ?_))
 rcases Decidable.em (60 < ((t.length : Nat) : Int)) with d0 | d0
 ·
  have f0 := i0.setb (d := 6) (b := true) rfl (decide_eq_true d0)
  refine wp_cond_true (f0.ev rfl) ?_
  refine wsc (fun h0 j0 => ?_)
  refine asg f0 (fun h0 k0 => ?_)
  refine wpList_nil (x_then_n (j0 _ _ ?_))
  refine wp_ret ?_
  refine x_then_r ?_
  refine e_ret1 k0 rfl rfl rfl ?_
  refine ⟨?_, b0.fr⟩
  exact congrArg Ending.returned (ret_b (by first | exact (heavy_len (by omega)).symm | exact (heavy_at (k := k) (by omega) (by omega)).symm | exact (heavy_no hi (by omega) (by omega)).symm))
 ·
  have k0 := i0.setb (d := 6) (b := false) rfl (decide_eq_false d0)
  refine wp_cond_false (k0.ev rfl) ?_
  refine wp_skip ?_
  refine x_then_n (c0 _ _ ?_)
  refine wp_seq_k (fun c0 d0 => ?_)
  refine wsc (fun c0 i0 => ?_)
  refine asg k0 (fun c0 j0 => ?_)
  refine wpList_nil (x_then_n (i0 _ _ ?_))
  refine wp_block ?_
  refine wp_loop_ghost (fun gn ga gw => ∃ k : Nat, (Reg ga 20 [(1000000, .bool false), (0, .slice tA t.length tc), (3, .int .i64 ((k : Nat) : Int))]) ∧ (St w0 Z none_ gw [] [dRow 4 tA t.length tc (encNs t)]) ∧ (k ≤ t.length) ∧ (lightTo t k) ∧ (t.length - k) = gn) _ ⟨0, (j0.sub (rc rfl (rc rfl (rc rfl rnl)))), b0, by omega, (fun _ h => by omega), rfl⟩ ?_
  rintro j0 b0 i0 ⟨k, c0, k0, hk, hi, h0⟩
  refine wp_seq_k (fun h0 i0 => ?_)
  refine wsc (fun h0 b0 => ?_)
  refine mv c0 (fun h0 j0 => ?_)
  refine mv j0 (fun h0 c0 => ?_)
  refine r_len sv c0 rfl rfl rfl rfl Tryd.underlying22 (by decide) (fun h0 j0 => ?_)
  refine r_lss sv j0 rfl rfl rfl rfl (by decide) (fun h0 c0 => ?_)
  refine wpList_nil (x_then_n (b0 _ _ ?_))
  rcases Decidable.em (((k : Nat) : Int) < ((t.length : Nat) : Int)) with b0 | b0
  ·
   have h0 := c0.setb (d := 10) (b := true) rfl (decide_eq_true b0)
   refine wp_cond_true (h0.ev rfl) ?_
   refine wp_skip ?_
   refine x_then_n (i0 _ _ ?_)
   refine wp_seq_k (fun i0 j0 => ?_)
   refine wp_block ?_
   refine wsc (fun i0 f0 => ?_)
   refine mv h0 (fun i0 m0 => ?_)
   refine mv m0 (fun i0 h0 => ?_)
   refine m_index (i := k) (j := k * 4) sv h0 rfl rfl rfl rfl Tryd.underlying22 sz32 (by omega) (by omega) (nds_elem (t := t) (k := k) (k0.row (i := 0) rfl).2 (by omega)).some_ rfl (by decide) (fun i0 m0 => ?_)
   refine m_fieldE (j' := k * 4 + 3) sv m0 rfl rfl rfl (nds_elem (t := t) (k := k) (k0.row (i := 0) rfl).2 (by omega)).some_ Tryd.underlying32 rfl sz9 rfl rfl (by decide) (fun i0 h0 => ?_)
   refine m_loadE sv h0 rfl rfl rfl 3 (k * 4) (nds_elem (t := t) (k := k) (k0.row (i := 0) rfl).2 (by omega)) rfl rfl Tryd.underlying9 rfl (by decide) (fun i0 m0 => ?_)
   refine r_lenS sv m0 rfl rfl rfl rfl Tryd.underlying9 (by decide) (fun i0 h0 => ?_)
   refine r_gtr sv h0 rfl rfl rfl rfl (by decide) (fun i0 m0 => ?_)
   refine wpList_nil (x_then_n (f0 _ _ ?_))
   rcases Decidable.em (100 < ((((nth t k).S).size : Nat) : Int)) with f0 | f0
   ·
    have i0 := m0.setb (d := 19) (b := true) rfl (decide_eq_true f0)
    refine wp_cond_true (i0.ev rfl) ?_
    refine wsc (fun h0 n0 => ?_)
    refine asg i0 (fun h0 o0 => ?_)
    refine wpList_nil (x_then_n (n0 _ _ ?_))
    refine wp_ret ?_
    refine x_block_r ?_
    refine x_then_r ?_
    refine x_then_r ?_
    refine x_block_r ?_
    refine x_then_r ?_
    refine e_ret1 o0 rfl rfl rfl ?_
    refine ⟨?_, k0.fr⟩
    exact congrArg Ending.returned (ret_b (by first | exact (heavy_len (by omega)).symm | exact (heavy_at (k := k) (by omega) (by omega)).symm | exact (heavy_no hi (by omega) (by omega)).symm))
   ·
    have o0 := m0.setb (d := 19) (b := false) rfl (decide_eq_false f0)
    refine wp_cond_false (o0.ev rfl) ?_
    refine wp_skip ?_
    refine x_block_n ?_
    refine x_then_n (j0 _ _ ?_)
    refine c_region ?_
    refine mv o0 (fun j0 f0 => ?_)
    refine r_add (z := ((k + 1 : Nat) : Int)) sv f0 rfl rfl rfl rfl (by decide) (by omega) (by omega) (by omega) (fun j0 o0 => ?_)
    refine asg o0 (fun j0 f0 => ?_)
    refine wpList_nil ?_
    exact ⟨_, by omega, k + 1, (f0.sub (rc rfl (rc rfl (rc rfl rnl)))), k0, by omega, light_step hi (by omega), rfl⟩
  ·
   have f0 := c0.setb (d := 10) (b := false) rfl (decide_eq_false b0)
   refine wp_cond_false (f0.ev rfl) ?_
   refine wp_exit ?_
   refine x_then_e ?_
   refine x_then_e ?_
   refine x_block_eq ?_
   refine x_then_n (d0 _ _ ?_)
   refine wsc (fun d0 b0 => ?_)
   refine asg f0 (fun d0 c0 => ?_)
   refine wpList_nil (x_then_n (b0 _ _ ?_))
   refine wp_ret ?_
   refine e_ret1 c0 rfl rfl rfl ?_
   refine ⟨?_, k0.fr⟩
   exact congrArg Ending.returned (ret_b (by first | exact (heavy_len (by omega)).symm | exact (heavy_at (k := k) (by omega) (by omega)).symm | exact (heavy_no hi (by omega) (by omega)).symm))
set_option maxRecDepth 100000 in
set_option maxHeartbeats 1000000 in
theorem casts16_calls (w0 : World) (Z : Nat → Prop) (hZ : ∀ k, Z k → k < w0.heap.size) (tA : Option Addr) (tc : Nat) (t : List Nd) (ht : (dRow 4 tA t.length tc (encNs t)).φ w0 Z) (hl : t.length ≤ 1000000 := by first | assumption | omega | (simp; done) | (simp; omega)) :
    Calls Tryd.prog 7 [.slice tA t.length tc].toArray w0 (fun e w' => e = .returned (.int .i64 ((csK t t.length : Nat) : Int)) ∧ Fr none_ w0 w') := by
 have b0 := s0 (M := none_) hZ (zc ht zn)
 refine c_enter Tryd.func7 rfl Tryd.ntmps7 rfl (fun c0 d0 => ?_)
 refine wsc (fun c0 f0 => ?_)
 refine asg d0 (fun c0 h0 => ?_)
 refine wpList_nil (x_then_n (f0 _ _ ?_))
 refine wsc (fun f0 c0 => ?_)
 refine asg h0 (fun f0 d0 => ?_)
 refine wpList_nil (x_then_n (c0 _ _ ?_))
 refine wp_seq_k (fun c0 f0 => ?_)
 refine wsc (fun c0 h0 => ?_)
 refine asg d0 (fun c0 i0 => ?_)
 refine wpList_nil (x_then_n (h0 _ _ ?_))
 refine wp_block ?_
 refine wp_loop_ghost (fun gn ga gw => ∃ k : Nat, (Reg ga 20 [(1000000, .bool false), (0, .slice tA t.length tc), (2, .int .i64 0), (4, .int .i64 ((k : Nat) : Int)), (3, .int .i64 ((csK t k : Nat) : Int))]) ∧ (St w0 Z none_ gw [] [dRow 4 tA t.length tc (encNs t)]) ∧ (k ≤ t.length) ∧ (t.length - k) = gn) _ ⟨0, (i0.sub (rc rfl (rc rfl (rc rfl (rc rfl (rc rfl rnl)))))), b0, by omega, rfl⟩ ?_
 rintro i0 b0 h0 ⟨k, c0, d0, hk, j0⟩
 have hck := csK_le t k
 refine wp_seq_k (fun j0 h0 => ?_)
 refine wsc (fun j0 b0 => ?_)
 refine mv c0 (fun j0 i0 => ?_)
 refine mv i0 (fun j0 c0 => ?_)
 refine r_len sv c0 rfl rfl rfl rfl Tryd.underlying22 (by decide) (fun j0 i0 => ?_)
 refine r_lss sv i0 rfl rfl rfl rfl (by decide) (fun j0 c0 => ?_)
 refine wpList_nil (x_then_n (b0 _ _ ?_))
 rcases Decidable.em (((k : Nat) : Int) < ((t.length : Nat) : Int)) with b0 | b0
 ·
  have j0 := c0.setb (d := 8) (b := true) rfl (decide_eq_true b0)
  refine wp_cond_true (j0.ev rfl) ?_
  refine wp_skip ?_
  refine x_then_n (h0 _ _ ?_)
  refine c_join (fun ga gw => Reg ga 20 [(0, .slice tA t.length tc), (2, .int .i64 0), (3, .int .i64 ((if ((((nth t k).K)) = 20) then ((csK t k + 1 : Nat) : Int) else ((csK t k : Nat) : Int)))), (4, .int .i64 ((k : Nat) : Int)), (1000000, .bool false)] ∧ St w0 Z none_ gw [] [dRow 4 tA t.length tc (encNs t)]) ?_ ?_
  ·
   refine wp_block ?_
   refine wsc (fun h0 i0 => ?_)
   refine mv j0 (fun h0 k0 => ?_)
   refine mv k0 (fun h0 j0 => ?_)
   refine m_index (i := k) (j := k * 4) sv j0 rfl rfl rfl rfl Tryd.underlying22 sz32 (by omega) (by omega) (nds_elem (t := t) (k := k) (d0.row (i := 0) rfl).2 (by omega)).some_ rfl (by decide) (fun h0 k0 => ?_)
   refine m_fieldE (j' := k * 4) sv k0 rfl rfl rfl (nds_elem (t := t) (k := k) (d0.row (i := 0) rfl).2 (by omega)).some_ Tryd.underlying32 rfl sz3 rfl rfl (by decide) (fun h0 j0 => ?_)
   refine m_loadE sv j0 rfl rfl rfl 0 (k * 4) (nds_elem (t := t) (k := k) (d0.row (i := 0) rfl).2 (by omega)) rfl rfl Tryd.underlying3 rfl (by decide) (fun h0 k0 => ?_)
   refine r_eql sv k0 rfl rfl rfl rfl (by decide) (fun h0 j0 => ?_)
   refine wpList_nil (x_then_n (i0 _ _ ?_))
   rcases Decidable.em ((((nth t k).K)) = 20) with i0 | i0
   ·
    have h0 := j0.setb (d := 16) (b := true) rfl (decide_eq_true i0)
    refine wp_cond_true (h0.ev rfl) ?_
    refine c_region ?_
    refine mv h0 (fun k0 m0 => ?_)
    refine r_add (z := ((csK t k + 1 : Nat) : Int)) sv m0 rfl rfl rfl rfl (by decide) (by omega) (by omega) (by omega) (fun k0 h0 => ?_)
    refine asg h0 (fun k0 m0 => ?_)
    refine wpList_nil ?_
    refine x_block_n ?_
    exact x_then_n ⟨(m0.sub (rc rfl (rc rfl (rc (ri rfl (by first | rfl | (simp only [decide_eq_true i0, if_pos i0, bl]; done) | (simp [i0]; done) | (simp [i0]; omega))) (rc rfl (rc rfl rnl)))))), d0⟩
   ·
    have m0 := j0.setb (d := 16) (b := false) rfl (decide_eq_false i0)
    refine wp_cond_false (m0.ev rfl) ?_
    refine wp_skip ?_
    refine x_block_n ?_
    exact x_then_n ⟨(m0.sub (rc rfl (rc rfl (rc (ri rfl (by first | rfl | (simp only [decide_eq_false i0, if_neg i0, bl]; done) | (simp [i0]; done) | (simp [i0]; omega))) (rc rfl (rc rfl rnl)))))), d0⟩
  rintro m0 i0 ⟨j0, k0⟩
  refine c_region ?_
  refine mv j0 (fun i0 m0 => ?_)
  refine r_add (z := ((k + 1 : Nat) : Int)) sv m0 rfl rfl rfl rfl (by decide) (by omega) (by omega) (by omega) (fun i0 j0 => ?_)
  refine asg j0 (fun i0 m0 => ?_)
  refine wpList_nil ?_
  exact ⟨_, by omega, k + 1, (m0.sub (rc rfl (rc rfl (rc rfl (rc rfl (rc (ri rfl (by simp only [csK]; split <;> rfl)) rnl)))))), k0, by omega, rfl⟩
 ·
  have m0 := c0.setb (d := 8) (b := false) rfl (decide_eq_false b0)
  refine wp_cond_false (m0.ev rfl) ?_
  refine wp_exit ?_
  refine x_then_e ?_
  refine x_then_e ?_
  refine x_block_eq ?_
  refine x_then_n (f0 _ _ ?_)
  refine wsc (fun f0 b0 => ?_)
  refine mv m0 (fun f0 c0 => ?_)
  refine asg c0 (fun f0 m0 => ?_)
  refine wpList_nil (x_then_n (b0 _ _ ?_))
  refine wp_ret ?_
  refine e_ret1 m0 rfl rfl rfl ?_
  refine ⟨?_, d0.fr⟩
  exact congrArg Ending.returned (ret_i (by rw [show t.length = k by omega]))
set_option maxRecDepth 100000 in
set_option maxHeartbeats 1000000 in
theorem shown16_calls (w0 : World) (Z : Nat → Prop) (hZ : ∀ k, Z k → k < w0.heap.size)  (hShp : Shapes w0 Z) :
    Calls Tryd.prog 8 [].toArray w0 (fun e w' => e = .returned (.bool (true)) ∧ Fr none_ w0 w') := by
 have b0 := s0 (M := none_) hZ (zc (d := dShapes) hShp zn)
 refine c_enter Tryd.func8 rfl Tryd.ntmps8 rfl (fun c0 d0 => ?_)
 refine wsc (fun c0 f0 => ?_)
 refine asg d0 (fun c0 h0 => ?_)
 refine wpList_nil (x_then_n (f0 _ _ ?_))
 refine wsc (fun f0 c0 => ?_)
 refine m_build (ps := [(0, .const (.int .i64 11))]) (v := .agg #[.int .i64 11, .int .i64 0, .int .i64 0, .string (⟨#[]⟩ : ByteArray)]) sv h0 rfl rfl rfl (fun _ => by kernel_rfl) (by decide) (fun f0 d0 => ?_)
 refine mbs [(0, .tmp 7)] [.int .i64 11, .int .i64 0, .int .i64 0, .string (⟨#[]⟩ : ByteArray)] sv d0 b0 Tryd.underlying22 zi32 (fun f0 h0 i0 j0 k0 => ?_)
 refine asg j0 (fun h0 f0 => ?_)
 refine wpList_nil (x_then_n (c0 _ _ ?_))
 refine wsc (fun c0 h0 => ?_)
 refine m_build (ps := [(0, .const (.int .i64 10))]) (v := .agg #[.int .i64 10, .int .i64 0, .int .i64 0, .string (⟨#[]⟩ : ByteArray)]) sv f0 rfl rfl rfl (fun _ => by kernel_rfl) (by decide) (fun c0 j0 => ?_)
 refine mbs [(0, .tmp 9)] [.int .i64 10, .int .i64 0, .int .i64 0, .string (⟨#[]⟩ : ByteArray)] sv j0 k0 Tryd.underlying22 zi32 (fun c0 f0 d0 b0 m0 => ?_)
 refine asg b0 (fun f0 c0 => ?_)
 refine wpList_nil (x_then_n (h0 _ _ ?_))
 refine wsc (fun h0 f0 => ?_)
 refine mv c0 (fun h0 b0 => ?_)
 refine mv b0 (fun h0 c0 => ?_)
 have h0 := m0.nf
 have m0 := own_cap (h0.res (i := 0) rfl)
 obtain ⟨b0, j0⟩ := h0.row_data (i := 0) rfl (fun _ h => h)
 have h0 := b0.data (dRow 4 (some ⟨i0, 0, none⟩) 1 1 (encNs ([(⟨11, 0, 0, (⟨#[]⟩ : ByteArray)⟩ : Nd)]))) ⟨m0, j0⟩
 refine k_call (xs := [.tmp 12, .tmp 13]) se c0 rfl rfl rfl (by decide) ok9 (vSame_calls _ _ h0.il _ _ ([(⟨11, 0, 0, (⟨#[]⟩ : ByteArray)⟩ : Nd)]) _ _ ([(⟨11, 0, 0, (⟨#[]⟩ : ByteArray)⟩ : Nd)]) (h0.g 0) (h0.g 1) (h0.g 1) (hla := (by first | omega | (simp; done))) (hlb := (by first | omega | (simp; done))) (hsa := (by first | assumption | exact sml_16)) (hsb := (by first | assumption | exact sml_16))) ?_
 rintro c0 j0 ⟨rfl, b0⟩
 have j0 := h0.below b0.below
 refine ⟨_, rfl, fun b0 h0 => ?_⟩
 refine mv h0 (fun b0 c0 => ?_)
 refine r_extract sv c0 rfl rfl rfl rfl (by decide) (fun b0 h0 => ?_)
 refine r_extract sv h0 rfl rfl rfl rfl (by decide) (fun b0 c0 => ?_)
 refine asg c0 (fun b0 h0 => ?_)
 refine asg h0 (fun b0 c0 => ?_)
 refine wpList_nil (x_then_n (f0 _ _ ?_))
 refine wsc (fun f0 b0 => ?_)
 refine mv c0 (fun f0 h0 => ?_)
 refine mv h0 (fun f0 c0 => ?_)
 have f0 := j0.nf
 have j0 := own_cap (f0.res (i := 0) rfl)
 obtain ⟨h0, m0⟩ := f0.row_data (i := 0) rfl (fun _ h => h)
 have f0 := h0.data (dRow 4 (some ⟨d0, 0, none⟩) 1 1 (encNs ([(⟨10, 0, 0, (⟨#[]⟩ : ByteArray)⟩ : Nd)]))) ⟨j0, m0⟩
 refine k_call (xs := [.tmp 18, .tmp 19]) se c0 rfl rfl rfl (by decide) ok9 (vSame_calls _ _ f0.il _ _ ([(⟨11, 0, 0, (⟨#[]⟩ : ByteArray)⟩ : Nd)]) _ _ ([(⟨10, 0, 0, (⟨#[]⟩ : ByteArray)⟩ : Nd)]) (f0.g 0) (f0.g 1) (f0.g 2) (hla := (by first | omega | (simp; done))) (hlb := (by first | omega | (simp; done))) (hsa := (by first | assumption | exact sml_16)) (hsb := (by first | assumption | exact sml_16))) ?_
 rintro c0 m0 ⟨rfl, h0⟩
 have m0 := f0.below h0.below
 refine ⟨_, rfl, fun h0 f0 => ?_⟩
 refine mv f0 (fun h0 c0 => ?_)
 refine r_extract sv c0 rfl rfl rfl rfl (by decide) (fun h0 f0 => ?_)
 refine r_extract sv f0 rfl rfl rfl rfl (by decide) (fun h0 c0 => ?_)
 refine asg c0 (fun h0 f0 => ?_)
 refine asg f0 (fun h0 c0 => ?_)
 refine wpList_nil (x_then_n (b0 _ _ ?_))
 refine wsc (fun b0 h0 => ?_)
 refine mv c0 (fun b0 f0 => ?_)
 refine mv f0 (fun b0 c0 => ?_)
 have b0 : (smB ([(⟨11, 0, 0, (⟨#[]⟩ : ByteArray)⟩ : Nd)]) ([(⟨11, 0, 0, (⟨#[]⟩ : ByteArray)⟩ : Nd)])) = true := (sm_num (m := 0) (n := 0) (by omega) (by omega)).1
 have f0 := c0.setb (d := 24) (b := true) rfl b0
 refine r_move (st_listV_w (wt f0)) f0 rfl rfl rfl (by decide) (fun c0 j0 => ?_)
 refine r_eql (st_listV_w (wt j0)) j0 rfl rfl rfl rfl (by decide) (fun c0 f0 => ?_)
 refine r_pick_t sv f0 rfl rfl rfl rfl (by decide) (fun c0 j0 => ?_)
 refine mv j0 (fun c0 f0 => ?_)
 have c0 : ((smE ([(⟨11, 0, 0, (⟨#[]⟩ : ByteArray)⟩ : Nd)]) ([(⟨11, 0, 0, (⟨#[]⟩ : ByteArray)⟩ : Nd)]))) = 0 := (sm_num (m := 0) (n := 0) (by omega) (by omega)).2
 have j0 := f0.setb (d := 28) (b := true) rfl (decide_eq_true c0)
 refine r_move (st_listV_w (wt j0)) j0 rfl rfl rfl (by decide) (fun f0 d0 => ?_)
 refine r_not (st_listV_w (wt d0)) d0 rfl rfl rfl (by decide) (fun f0 j0 => ?_)
 refine r_pick_t sv j0 rfl rfl rfl rfl (by decide) (fun f0 d0 => ?_)
 refine mv d0 (fun f0 j0 => ?_)
 have f0 : (smB ([(⟨11, 0, 0, (⟨#[]⟩ : ByteArray)⟩ : Nd)]) ([(⟨10, 0, 0, (⟨#[]⟩ : ByteArray)⟩ : Nd)])) = false := (sm_nat (m := 0) (by omega)).1
 have d0 := j0.setb (d := 32) (b := true) rfl (by rw [f0]; rfl)
 refine r_move (st_listV_w (wt d0)) d0 rfl rfl rfl (by decide) (fun j0 i0 => ?_)
 refine r_eql (st_listV_w (wt i0)) i0 rfl rfl rfl rfl (by decide) (fun j0 d0 => ?_)
 refine r_pick_t sv d0 rfl rfl rfl rfl (by decide) (fun j0 i0 => ?_)
 refine asg i0 (fun j0 d0 => ?_)
 refine wpList_nil (x_then_n (h0 _ _ ?_))
 refine wp_ret ?_
 refine e_ret1 d0 rfl rfl rfl ?_
 have d0 : ((smE ([(⟨11, 0, 0, (⟨#[]⟩ : ByteArray)⟩ : Nd)]) ([(⟨10, 0, 0, (⟨#[]⟩ : ByteArray)⟩ : Nd)]))) = 0 := (sm_nat (m := 0) (by omega)).2
 refine ⟨?_, m0.fr⟩
 exact congrArg Ending.returned (ret_b (by first | rfl | omega | assumption | exact decide_eq_true (by assumption) | (have m0 := b0; (try simp at m0); have h0 := c0; (try simp at h0); have j0 := f0; (try simp at j0); have i0 := d0; (try simp at i0);  omega) | (simp [b0, c0, f0, d0]; done) | (simp [] at *; done) | (simp [b0, c0, f0, d0] <;> omega) | (rw [Bool.eq_iff_iff]; simp [b0, c0, f0, d0] <;> omega) | (rw [Bool.eq_iff_iff]; simp [b0, c0, f0, d0] at * <;> omega)))
end Go.Proofs.YthdemmcfnpmmiaaDoor
/- What a pair is cast to. -/
namespace Go.Proofs.YthdemmcfnpmmiaaDoor
set_option linter.unusedSimpArgs false
set_option linter.unusedVariables false
def dpP (t : List Nd) (j : Nat) : Nat := T.deeps ((treeOf t).args.take j)
theorem deeps_snoc (l : List T) (x : T) : T.deeps (l ++ [x]) = max (T.deeps l) x.deep := by
 induction l with
 | nil => simp [T.deeps]
 | cons y l ih => simp only [List.cons_append, T.deeps, ih]; omega
theorem dpP_zero (t : List Nd) : dpP t 0 = 0 := by simp [dpP, T.deeps]
theorem dpP_step {t : List Nd} {j : Nat} (h : measB t = true) (hj : j < (ptL t).length) : dpP t (j + 1) = max (dpP t j) (dpL (nthL (ptL t) j)) := by
 obtain ⟨hj', e1, e2⟩ := ptL_nth h hj
 unfold dpP dpL
 rw [List.take_add_one, List.getElem?_eq_getElem hj', e2]
 exact deeps_snoc _ _
theorem dpL_all {t : List Nd} (h : measB t = true) : dpL t = dpP t (ptL t).length + 1 := by
 have h1 := ptL_length h
 have h2 := root_many h
 unfold dpL dpP
 rw [List.take_of_length_le (by omega)]
 cases treeOf t with
 | mk n l => rfl
theorem dpL_le {t : List Nd} (h : measB t = true) : dpL t ≤ t.length := by
 have := deep_flat (treeOf t)
 rw [(treeOf_meas h).2] at this
 exact this
theorem dpP_le {t : List Nd} (h : measB t = true) (j : Nat) : dpP t j ≤ t.length := by
 have h1 : T.deeps ((treeOf t).args.take j) ≤ T.deeps (treeOf t).args := deeps_bd fun x hx => deeps_le (List.mem_of_mem_take hx)
 have h2 := dpL_le h
 unfold dpL at h2
 unfold dpP
 cases hx : treeOf t with
 | mk n l =>
  rw [hx] at h1 h2
  simp only [T.deep] at h2
  simp only [T.args] at h1 ⊢
  omega
mutual
theorem moT_le (k : Int) : ∀ (x : T) (u : Int), x.wf = true → 0 ≤ u → moT k u x ≤ 99
 | .mk n l, u, hw, hu => by
  obtain ⟨h1, _, h3⟩ := wf_parts hw
  simp only [moT]
  split
  ·
   rename_i hk
   obtain ⟨_, _, h5⟩ := var_node h1 hk
   split <;> omega
  · exact moTs_le k l _ h3 (ubinds hu)
theorem moTs_le (k : Int) : ∀ (l : List T) (us : List Int), T.wfs l = true → (∀ v ∈ us, 0 ≤ v) → moTs k l us ≤ 99
 | [], us, _, _ => by simp [moTs]
 | y :: l, [], _, _ => by simp [moTs]
 | y :: l, u :: us, hw, hu => by
  obtain ⟨h1, h2⟩ := wf_cons hw
  simp only [moTs]
  have := moT_le k y u h1 (hu u (by simp))
  have := moTs_le k l us h2 (fun v hv => hu v (by simp [hv]))
  omega
end
theorem moL_bd {t : List Nd} (h : measB t = true) (k : Int) : -1 ≤ moL t k 0 ∧ moL t k 0 ≤ 99 := ⟨moT_ge _ _ _, moT_le _ _ _ (treeOf_meas h).1 (Int.le_refl _)⟩
def frF (t : List Nd) : Int := if chk t = 0 then moL t (-1) 0 + 1 else 0
def PQ (x : List Nd) : Prop := heavyB 100 x = false ∧ chk x = 0 ∧ dpL x ≤ 25
section
variable {m : Nat} {a b c d t : List Nd} (hm : m < 3) (ha : PQ a) (hb : PQ b) (hc : PQ c) (hd : PQ d) (ht : PQ t) (h29 : ¬ (nth t (t.length - 1)).K = 29)
include hm ha hb hc hd ht h29
end
end Go.Proofs.YthdemmcfnpmmiaaDoor
/- A function is one with what applies it to its variable, a pair with the pair of its halves. -/
namespace Go.Proofs.YthdemmcfnpmmiaaDoor
set_option linter.unusedSimpArgs false
set_option linter.unusedVariables false
open Go Go.RowKit
mutual
theorem sh_ic : ∀ (t : T) (u : Int), t.wf = true → 0 ≤ u → trE (shV 1 0) u t = 0 → trT (shV 1 0) u t = icT u t
 | .mk n l, u, hw, hu, he => by
  obtain ⟨h1, h2, h3⟩ := wf_parts hw
  by_cases hk : n.K = 0
  ·
   have hl : l = [] := by
    have : many n = 0 := by simp [many, binds, hk, shp]
    exact List.eq_nil_of_length_eq_zero (by omega)
   subst hl
   simp only [trE, trT, hk, if_true] at he ⊢
   simp only [icT, icTs]
   obtain ⟨e1, b1, b2⟩ := var_node h1 hk
   unfold shV at he ⊢
   by_cases c1 : 0 ≤ n.N - u
   ·
    rw [if_pos c1] at he ⊢
    rw [if_neg (by omega)] at he ⊢
    by_cases c2 : 99 < n.N + 1
    · rw [if_pos c2] at he; simp at he
    ·
     rw [if_neg c2]
     unfold icN
     rw [if_pos ⟨hk, by omega⟩]
     have h4 : n.M = 0 := by rw [e1, vN]
     have h5 : n.S = ⟨#[]⟩ := by rw [e1, vN]
     simp only [vN, hk, h4, h5]
   ·
    rw [if_neg c1]
    unfold icN
    rw [if_neg (by omega)]
  ·
   simp only [trE, trT, hk, if_false] at he ⊢
   simp only [icT]
   unfold icN
   rw [if_neg (fun q => hk q.1), sh_ics l _ h3 (ubinds hu) he]
   have : (binds n).length = l.length := h2
   rw [List.length_map]
   exact this.symm
theorem sh_ics : ∀ (l : List T) (us : List Int), T.wfs l = true → (∀ v ∈ us, 0 ≤ v) → trEs (shV 1 0) l us = 0 → l.length = us.length → trTs (shV 1 0) l us = icTs l us
 | [], us, _, _, _, _ => by cases us <;> simp [trTs, icTs]
 | t :: l, [], _, _, _, h => by simp at h
 | t :: l, u :: us, hw, hu, he, hl => by
  obtain ⟨h1, h2⟩ := wf_cons hw
  simp only [trEs] at he
  by_cases q : trE (shV 1 0) u t = 0
  ·
   rw [if_pos q] at he
   simp only [trTs, icTs, List.headD_cons, List.tail_cons]
   rw [sh_ic t u h1 (hu u (by simp)) q, sh_ics l us h2 (fun v hv => hu v (by simp [hv])) he (by simpa using hl)]
  ·
   rw [if_neg q] at he
   exact absurd he q
end
mutual
theorem sh_e0 {B : Int} (hB : B < 99) : ∀ (t : T) (u : Int), t.wf = true → 0 ≤ u → vbT B t → trE (shV 1 0) u t = 0
 | .mk n l, u, hw, hu, h => by
  obtain ⟨h1, h2, h3⟩ := wf_parts hw
  simp only [vbT] at h
  simp only [trE]
  split
  ·
   rename_i hk
   have := h.1 hk
   unfold shV
   split
   · rw [if_neg (by omega), if_neg (by omega)]
   · rfl
  · exact sh_es0 hB l _ h3 (ubinds hu) h.2
theorem sh_es0 {B : Int} (hB : B < 99) : ∀ (l : List T) (us : List Int), T.wfs l = true → (∀ v ∈ us, 0 ≤ v) → vbTs B l → trEs (shV 1 0) l us = 0
 | [], us, _, _, _ => by simp [trEs]
 | t :: l, [], _, _, _ => by simp [trEs]
 | t :: l, u :: us, hw, hu, h => by
  obtain ⟨h1, h2⟩ := wf_cons hw
  simp only [vbTs] at h
  simp only [trEs]
  rw [if_pos (sh_e0 hB t u h1 (hu u (by simp)) h.1)]
  exact sh_es0 hB l us h2 (fun v hv => hu v (by simp [hv])) h.2
end
mutual
theorem vb_mo : ∀ (t : T) (u : Int), t.wf = true → 0 ≤ u → moT (-1) u t ≤ 19 → vbT (u + 2 * (t.deep : Int) + 17) t
 | .mk n l, u, hw, hu, h => by
  obtain ⟨h1, h2, h3⟩ := wf_parts hw
  simp only [vbT]
  have hd : T.deep (.mk n l) = T.deeps l + 1 := by simp [T.deep]
  refine ⟨fun hk => ?_, ?_⟩
  ·
   simp only [moT, hk, if_true] at h
   rw [hd]
   split at h
   · omega
   ·
    rename_i q
    have : ¬ 0 ≤ n.N - u := fun c => q ⟨c, .inl (by decide)⟩
    omega
  ·
   by_cases hk : n.K = 0
   ·
    have hl : l = [] := by
     have : many n = 0 := by simp [many, binds, hk, shp]
     exact List.eq_nil_of_length_eq_zero (by omega)
    subst hl
    simp only [vbTs]
   ·
    simp only [moT, hk, if_false] at h
    rw [hd]
    have := vbs_mo l ((binds n).map (u + ·)) (u + 2) h3 (ubinds hu) (fun v hv => by
     obtain ⟨b, hb, rfl⟩ := List.mem_map.1 hv
     have := binds_b n b hb
     omega) (by simp [← h2, many]) h
    exact vbs_mono (by omega) l this
theorem vbs_mo : ∀ (l : List T) (us : List Int) (c : Int), T.wfs l = true → (∀ v ∈ us, 0 ≤ v) → (∀ v ∈ us, v ≤ c) → l.length = us.length → moTs (-1) l us ≤ 19 → vbTs (c + 2 * (T.deeps l : Int) + 17) l
 | [], us, c, _, _, _, _, _ => by simp only [vbTs]
 | t :: l, [], c, _, _, _, h, _ => by simp at h
 | t :: l, u :: us, c, hw, hu, hc, hl, h => by
  obtain ⟨h1, h2⟩ := wf_cons hw
  simp only [moTs] at h
  have h4 := vb_mo t u h1 (hu u (by simp)) (by omega)
  have h5 := vbs_mo l us c h2 (fun v hv => hu v (by simp [hv])) (fun v hv => hc v (by simp [hv])) (by simpa using hl) (by omega)
  have h6 := hc u (by simp)
  have hd : T.deeps (t :: l) = max t.deep (T.deeps l) := by simp [T.deeps]
  simp only [vbTs]
  rw [hd]
  exact ⟨vb_mono (by omega) t h4, vbs_mono (by omega) l h5⟩
end
mutual
theorem lam_len : ∀ t : T, t.wf = true → 2 * lamT t + 1 ≤ t.flat.length
 | .mk n l, hw => by
  obtain ⟨h1, h2, h3⟩ := wf_parts hw
  have h4 := lams_len l h3
  rw [T.flat_mk, List.length_append, List.length_singleton]
  simp only [lamT]
  split
  ·
   rename_i hk
   have : many n = 2 := by simp [many, binds, hk, shp]
   omega
  · omega
theorem lams_len : ∀ l : List T, T.wfs l = true → 2 * lamTs l + l.length ≤ (T.flats l).length
 | [], _ => by simp [lamTs]
 | t :: l, hw => by
  obtain ⟨h1, h2⟩ := wf_cons hw
  have h3 := lam_len t h1
  have h4 := lams_len l h2
  rw [T.flats_cons, List.length_append, List.length_cons]
  simp only [lamTs]
  omega
end
mutual
theorem ic_deep : ∀ (t : T) (u : Int), (icT u t).deep = t.deep
 | .mk n l, u => by simp only [icT, T.deep, ics_deep l]
theorem ics_deep : ∀ (l : List T) (us : List Int), T.deeps (icTs l us) = T.deeps l
 | [], _ => by simp only [icTs]
 | t :: l, us => by simp only [icTs, T.deeps, ic_deep t, ics_deep l]
end
structure EtF (f : List Nd) : Prop where
 ok : chk f = 0
 len : f.length ≤ 60
 dp : dpL f ≤ 25
 fr : frF f ≤ 20
 k4 : ¬ (nth f (f.length - 1)).K = 4
 k7 : ¬ (nth f (f.length - 1)).K = 7
 k20 : ¬ (nth f (f.length - 1)).K = 20
section
variable {a f s : List Nd}
theorem EtF.fact (h : EtF f) : (treeOf f).wf = true ∧ (treeOf f).flat = f ∧ (treeOf f).deep ≤ 25 ∧ vbT 67 (treeOf f) ∧ lamT (treeOf f) ≤ 29 := by
 obtain ⟨w, e, _, _⟩ := treeOf_ok h.ok
 have hd : (treeOf f).deep ≤ 25 := h.dp
 have hm : moT (-1) 0 (treeOf f) ≤ 19 := by
  have := h.fr
  unfold frF at this
  rw [if_pos h.ok] at this
  have q : moL f (-1) 0 = moT (-1) 0 (treeOf f) := rfl
  omega
 have hl := lam_len _ w
 rw [e] at hl
 have := h.len
 exact ⟨w, e, hd, vb_mono (by omega) _ (vb_mo _ 0 w (Int.le_refl _) hm), by omega⟩
theorem EtF.up (h : EtF f) : sfE f 1 0 = 0 ∧ sfA f 1 0 = (icT 0 (treeOf f)).flat := by
 obtain ⟨w, e, hd, hv, hl⟩ := h.fact
 obtain ⟨h1, h2⟩ := sfE_ok (b := 1) (f := 0) h.ok
 have c1 : clamp 1 = 1 := by decide
 have c0 : max 0 (clamp 0) = 0 := by decide
 rw [c1, c0] at h1 h2
 have h3 : trE (shV 1 0) 0 (treeOf f) = 0 := sh_e0 (B := 67) (by decide) _ 0 w (Int.le_refl _) hv
 have h4 : trEL (shV 1 0) f 0 = 0 := h3
 refine ⟨h1.trans h4, ?_⟩
 rw [h2]
 unfold trL
 rw [if_pos h4, sh_ic _ 0 w (Int.le_refl _) h3]
theorem EtF.ulen (h : EtF f) : (sfA f 1 0).length = f.length := by
 rw [h.up.2, ic_flat, h.fact.2.1]
def etL (a f : List Nd) : List Nd := a ++ (sfA f 1 0 ++ [cN 0] ++ [cN 5]) ++ [cN 4]
def etP (s f : List Nd) : List Nd := s ++ (f ++ [cN 8]) ++ (f ++ [cN 9]) ++ [cN 7]
theorem EtF.lam (h : EtF f) (ha : chk a = 0) (hla : a.length ≤ 60) (hda : dpL a ≤ 50) : chk (etL a f) = 0 ∧ treeOf (etL a f) = .mk (cN 4) [treeOf a, apT (treeOf f)] := by
 obtain ⟨w, e, hd, hv, hl⟩ := h.fact
 obtain ⟨wa, ea, _, _⟩ := treeOf_ok ha
 have hda' : (treeOf a).deep ≤ 50 := hda
 have wp : (apT (treeOf f)).wf = true := ap_wf w ((ic_vb _ 0 hv).2 (by decide))
 have w4 : (T.mk (cN 4) [treeOf a, apT (treeOf f)]).wf = true := by
  have q := cN_right (k := 4) (by decide)
  have q1 : right (cN 4) = true := q.1
  have q2 : many (cN 4) = 2 := q.2
  simp only [T.wf, T.wfs, wa, wp, q1, q2, List.length_cons, List.length_nil, BEq.rfl, Bool.and_self]
 have hf : (T.mk (cN 4) [treeOf a, apT (treeOf f)]).flat = etL a f := by
  rw [T.flat_mk, T.flats_cons, T.flats_one, ap_flat, ea, ← h.up.2]
  simp [etL]
 have hlen : (etL a f).length ≤ 4000 := by
  have h1 := h.len
  have h2 := ic_flat (treeOf f) 0
  rw [e] at h2
  simp only [etL, List.length_append, List.length_singleton, h.up.2, h2]
  omega
 have hdp : (T.mk (cN 4) [treeOf a, apT (treeOf f)]).deep ≤ 60 := by
  simp only [T.deep, T.deeps, apT, ic_deep]
  omega
 refine ⟨chk_ok.2 ⟨_, w4, hf, hlen, hdp⟩, ?_⟩
 rw [← hf]
 exact treeOf_flat w4
theorem EtF.pair (h : EtF f) (hs : chk s = 0) (hls : s.length ≤ 60) (hds : dpL s ≤ 50) : chk (etP s f) = 0 ∧ treeOf (etP s f) = .mk (cN 7) [treeOf s, .mk (cN 8) [treeOf f], .mk (cN 9) [treeOf f]] := by
 obtain ⟨w, e, hd, hv, hl⟩ := h.fact
 obtain ⟨wa, ea, _, _⟩ := treeOf_ok hs
 have hds' : (treeOf s).deep ≤ 50 := hds
 have w7 : (T.mk (cN 7) [treeOf s, .mk (cN 8) [treeOf f], .mk (cN 9) [treeOf f]]).wf = true := by
  have q := cN_right (k := 7) (by decide)
  have q1 : right (cN 7) = true := q.1
  have q2 : many (cN 7) = 3 := q.2
  have x8 : (T.mk (cN 8) [treeOf f]).wf = true := one_wf (k := 8) (.inl rfl) w
  have x9 : (T.mk (cN 9) [treeOf f]).wf = true := one_wf (k := 9) (.inr rfl) w
  rw [T.wf_mk, q1, q2]
  simp only [T.wfs, wa, x8, x9]
  rfl
 have hf : (T.mk (cN 7) [treeOf s, .mk (cN 8) [treeOf f], .mk (cN 9) [treeOf f]]).flat = etP s f := by
  rw [T.flat_mk, T.flats_cons, T.flats_cons, T.flats_one, T.flat_mk, T.flat_mk, T.flats_one, ea, e]
  simp [etP]
 have hlen : (etP s f).length ≤ 4000 := by
  have h1 := h.len
  simp only [etP, List.length_append, List.length_singleton]
  omega
 have hdp : (T.mk (cN 7) [treeOf s, .mk (cN 8) [treeOf f], .mk (cN 9) [treeOf f]]).deep ≤ 60 := by
  simp only [T.deep, T.deeps]
  omega
 refine ⟨chk_ok.2 ⟨_, w7, hf, hlen, hdp⟩, ?_⟩
 rw [← hf]
 exact treeOf_flat w7
theorem EtF.rt (h : EtF f) : ¬ (treeOf f).root.K = 4 ∧ ¬ (treeOf f).root.K = 7 ∧ ¬ (treeOf f).root.K = 20 := by
 rw [root_tr (meas_chk h.ok)]
 exact ⟨h.k4, h.k7, h.k20⟩
theorem EtF.one (h : EtF f) (ha : chk a = 0) (hla : a.length ≤ 60) (hda : dpL a ≤ 50) : smB (etL a f) f = true ∧ smE (etL a f) f = 0 := by
 obtain ⟨w, e, hd, hv, hl⟩ := h.fact
 obtain ⟨hc, ht⟩ := h.lam ha hla hda
 obtain ⟨r4, r7, r20⟩ := h.rt
 obtain ⟨x1, x2⟩ := sm_ok hc h.ok
 have key : cv (treeOf (etL a f)) (treeOf f) = (0, true) := by
  by_cases k29 : (treeOf f).root.K = 29
  · exact cv_tick (.inr k29)
  have wl := (treeOf_ok hc).1
  rw [ht] at wl ⊢
  have l4 : (T.mk (cN 4) [treeOf a, apT (treeOf f)]).root.K = 4 := rfl
  rw [cv_eq wl w (by rw [l4]; omega), br_no (by rw [l4]; decide), br_no r20]
  unfold cvX
  rw [if_neg (by simp), if_neg (by rw [l4]; decide), if_neg (by simp), if_neg k29]
  have hE : stepE (T.mk (cN 4) [treeOf a, apT (treeOf f)]) (treeOf f) = false := by
   unfold stepE bodE
   rw [l4, (ic_vb _ 0 hv).2 (by decide)]
   simp
  have hL : stepL (T.mk (cN 4) [treeOf a, apT (treeOf f)]) (treeOf f) = some [(apT (treeOf f), apT (treeOf f))] := by
   unfold stepL
   rw [if_pos (.inl l4)]
   have b1 : bodT (T.mk (cN 4) [treeOf a, apT (treeOf f)]) = apT (treeOf f) := by
    unfold bodT
    rw [if_pos l4]
    rfl
   have b2 : bodT (treeOf f) = apT (treeOf f) := by
    unfold bodT
    rw [if_neg r4]
   rw [b1, b2]
  obtain ⟨y1, y2⟩ := ap_lv (by decide : (0 : Int) ≤ 67) hv
  have hs := cv_self (B := 68) (ap_wf w ((ic_vb _ 0 hv).2 (by decide))) (by decide) y2 (by omega)
  unfold cvB
  rw [hE, hL, if_neg (by decide)]
  simp only [seqF, hs, if_true]
 rw [x1, x2, key]
 exact ⟨rfl, rfl⟩
theorem EtF.two (h : EtF f) (hs : chk s = 0) (hls : s.length ≤ 60) (hds : dpL s ≤ 50) : smB f (etP s f) = true ∧ smE f (etP s f) = 0 := by
 obtain ⟨w, e, hd, hv, hl⟩ := h.fact
 obtain ⟨hc, ht⟩ := h.pair hs hls hds
 obtain ⟨r4, r7, r20⟩ := h.rt
 obtain ⟨x1, x2⟩ := sm_ok h.ok hc
 have key : cv (treeOf f) (treeOf (etP s f)) = (0, true) := by
  by_cases k29 : (treeOf f).root.K = 29
  · exact cv_tick (.inl k29)
  have wl := (treeOf_ok hc).1
  rw [ht] at wl ⊢
  have l7 : (T.mk (cN 7) [treeOf s, .mk (cN 8) [treeOf f], .mk (cN 9) [treeOf f]]).root.K = 7 := rfl
  rw [cv_eq w wl (by rw [l7]; omega), br_no (t := T.mk (cN 7) _) (by rw [l7]; decide), br_no r20]
  unfold cvX
  rw [if_neg (by simp), if_neg k29, if_neg (by simp), if_neg (by rw [l7]; decide)]
  have hE : stepE (treeOf f) (T.mk (cN 7) [treeOf s, .mk (cN 8) [treeOf f], .mk (cN 9) [treeOf f]]) = false := by
   unfold stepE
   rw [l7, decide_eq_false (by omega), Bool.false_and]
  have hL : stepL (treeOf f) (T.mk (cN 7) [treeOf s, .mk (cN 8) [treeOf f], .mk (cN 9) [treeOf f]]) = some [(.mk (cN 8) [treeOf f], .mk (cN 8) [treeOf f]), (.mk (cN 9) [treeOf f], .mk (cN 9) [treeOf f])] := by
   unfold stepL
   rw [if_neg (by rw [l7]; omega), if_pos (.inr l7)]
   unfold fsT snT
   rw [if_neg r7, if_pos l7, if_neg r7, if_pos l7]
   rfl
  obtain ⟨y1, y2, y3, y4⟩ := fs_lv w hv
  obtain ⟨z1, z2⟩ := fs_wf w
  have f1 : fsT (treeOf f) = .mk (cN 8) [treeOf f] := if_neg r7
  have f2 : snT (treeOf f) = .mk (cN 9) [treeOf f] := if_neg r7
  rw [f1] at y1 y3 z1
  rw [f2] at y2 y4 z2
  have s1 := cv_self (B := 67) z1 (by decide) y3 (by omega)
  have s2 := cv_self (B := 67) z2 (by decide) y4 (by omega)
  unfold cvB
  rw [hE, hL, if_neg (by decide)]
  simp only [seqF, s1, s2, if_true]
 rw [x1, x2, key]
 exact ⟨rfl, rfl⟩
end
end Go.Proofs.YthdemmcfnpmmiaaDoor
/- Contracts of functions, one theorem each: what the call returns, and that nothing old is changed. Printed by gen.py. -/
namespace Go.Proofs.YthdemmcfnpmmiaaDoor
open Go Go.RowKit
set_option linter.unusedSimpArgs false
set_option linter.unusedVariables false
set_option maxRecDepth 100000 in
set_option maxHeartbeats 1000000 in
theorem rfrom_calls_rec (rn : Nat) : ∀ (w0 : World) (Z : Nat → Prop) (hZ : ∀ k, Z k → k < w0.heap.size) (tA : Option Addr) (tc : Nat) (t : List Nd) (ed : Int) (ht : (dRow 4 tA t.length tc (encNs t)).φ w0 Z) (hl : t.length ≤ 1000000) (hsm : sml t) (hb : measB t = true) (he0 : 0 ≤ ed) (he1 : ed < t.length) (hrn : ed.toNat = rn),
    Calls Tryd.prog 29 [.slice tA t.length tc, .int .i64 ed].toArray w0 (fun e w' => e = .returned (.int .i64 ((frL t ed.toNat : Nat) : Int)) ∧ Fr none_ w0 w') := by
 induction rn using Nat.strongRecOn
 rename_i rn ih
 intro w0 Z hZ tA tc t ed ht hl hsm hb he0 he1 hrn
 have b0 := s0 (M := none_) hZ (zc ht zn)
 have hm8 := many_le (right_at hb (show ed.toNat < t.length by omega))
 have hbm := bindL_many (right_at hb (show ed.toNat < t.length by omega))
 refine c_enter Tryd.func29 rfl Tryd.ntmps29 rfl (fun c0 d0 => ?_)
 refine wsc (fun c0 f0 => ?_)
 refine asg d0 (fun c0 h0 => ?_)
 refine wpList_nil (x_then_n (f0 _ _ ?_))
 refine wp_seq_k (fun f0 c0 => ?_)
 refine wsc (fun f0 d0 => ?_)
 refine mv h0 (fun f0 i0 => ?_)
 refine r_lss sv i0 rfl rfl rfl rfl (by decide) (fun f0 h0 => ?_)
 refine wpList_nil (x_then_n (d0 _ _ ?_))
 have d0 : ¬ ((ed) < 0) := by omega
 have f0 := h0.setb (d := 10) (b := false) rfl (decide_eq_false d0)
 refine wp_cond_false (f0.ev rfl) ?_
 refine wp_skip ?_
 refine x_then_n (c0 _ _ ?_)
 refine wsc (fun c0 d0 => ?_)
 refine mv f0 (fun c0 h0 => ?_)
 refine mv h0 (fun c0 f0 => ?_)
 refine m_index (i := ((ed)).toNat) (j := (((ed)).toNat) * 4) sv f0 rfl rfl rfl rfl Tryd.underlying22 sz32 (by omega) (by omega) (nds_elem (t := t) (k := ((ed)).toNat) (b0.row (i := 0) rfl).2 (by omega)).some_ rfl (by decide) (fun c0 h0 => ?_)
 refine m_loadEN sv h0 rfl rfl rfl (nds_elem (t := t) (k := ((ed)).toNat) (b0.row (i := 0) rfl).2 (by omega)) Tryd.underlying32 rfl sz32 (by decide) (fun c0 f0 => ?_)
 have c0 := b0.nf
 refine k_call (xs := [.tmp 15]) se f0 rfl rfl rfl (by decide) ok28 (rbinds_calls _ _ c0.il (nth t (((ed)).toNat)) (hs := (hsm _ (by omega)))) ?_
 rintro f0 b0 ⟨h0, i0, rfl, j0, k0⟩
 have b0 := c0.below j0.below
 have j0 := c0.dN b0 k0
 refine ⟨_, rfl, fun b0 k0 => ?_⟩
 refine mv k0 (fun b0 c0 => ?_)
 refine r_extract sv c0 rfl rfl rfl rfl (by decide) (fun b0 k0 => ?_)
 refine r_extract sv k0 rfl rfl rfl rfl (by decide) (fun b0 c0 => ?_)
 refine asg c0 (fun b0 k0 => ?_)
 refine asg k0 (fun b0 c0 => ?_)
 refine wpList_nil (x_then_n (d0 _ _ ?_))
 refine wp_seq_k (fun d0 b0 => ?_)
 refine wsc (fun d0 k0 => ?_)
 refine mv c0 (fun d0 f0 => ?_)
 refine r_not sv f0 rfl rfl rfl (by decide) (fun d0 c0 => ?_)
 refine wpList_nil (x_then_n (k0 _ _ ?_))
 have k0 : (right (nth t (((ed)).toNat))) = true := right_at hb (by omega)
 have d0 := c0.setb (d := 20) (b := false) rfl (by rw [k0]; rfl)
 refine wp_cond_false (d0.ev rfl) ?_
 refine wp_skip ?_
 refine x_then_n (b0 _ _ ?_)
 refine wsc (fun b0 k0 => ?_)
 refine mv d0 (fun b0 c0 => ?_)
 refine asg c0 (fun b0 d0 => ?_)
 refine wpList_nil (x_then_n (k0 _ _ ?_))
 refine wp_seq_k (fun k0 b0 => ?_)
 refine wsc (fun k0 c0 => ?_)
 refine asg d0 (fun k0 f0 => ?_)
 refine wpList_nil (x_then_n (c0 _ _ ?_))
 refine wp_block ?_
 refine wp_loop_ghost (fun gn ga gw => ∃ k : Nat, (Reg ga 35 [(1000000, .bool false), (0, .slice tA t.length tc), (5, .slice h0 ((bindL (nth t (((ed)).toNat))).length) i0), (8, .int .i64 ((k : Nat) : Int)), (7, .int .i64 ((posL t ed.toNat k : Nat) : Int))]) ∧ (St w0 Z none_ gw [] [dRow 4 tA t.length tc (encNs t), dRow 1 h0 ((bindL (nth t (((ed)).toNat))).length) i0 (encIs (bindL (nth t (((ed)).toNat))))]) ∧ (k ≤ many (nth t ed.toNat)) ∧ (many (nth t ed.toNat) - k) = gn) _ ⟨0, (f0.sub (rc rfl (rc rfl (rc rfl (rc rfl (rc (ri rfl (by rw [posL_zero hb (by omega)]; omega)) rnl)))))), j0, by omega, rfl⟩ ?_
 rintro f0 j0 i0 ⟨k, h0, c0, hk, k0⟩
 refine wp_seq_k (fun k0 i0 => ?_)
 refine wsc (fun k0 j0 => ?_)
 refine mv h0 (fun k0 f0 => ?_)
 refine mv f0 (fun k0 h0 => ?_)
 refine r_len sv h0 rfl rfl rfl rfl Tryd.underlying56 (by decide) (fun k0 f0 => ?_)
 refine r_lss sv f0 rfl rfl rfl rfl (by decide) (fun k0 h0 => ?_)
 refine wpList_nil (x_then_n (j0 _ _ ?_))
 rcases Decidable.em (((k : Nat) : Int) < (((bindL (nth t (((ed)).toNat))).length : Nat) : Int)) with j0 | j0
 ·
  obtain ⟨hps1, hps2, hps3, hps4⟩ := posL_step hb (show ed.toNat < t.length by omega) (show k < many (nth t ed.toNat) by omega)
  have k0 := h0.setb (d := 25) (b := true) rfl (decide_eq_true j0)
  refine wp_cond_true (k0.ev rfl) ?_
  refine wp_skip ?_
  refine x_then_n (i0 _ _ ?_)
  refine wp_seq_k (fun i0 f0 => ?_)
  refine wp_block ?_
  refine wsc (fun i0 d0 => ?_)
  refine mv k0 (fun i0 m0 => ?_)
  refine mv m0 (fun i0 k0 => ?_)
  refine r_sub (z := (((posL t ed.toNat k : Nat) : Int) - 1)) sv k0 rfl rfl rfl rfl (by decide) (by omega) (by omega) (by omega) (fun i0 m0 => ?_)
  have i0 := c0.nf
  refine k_call (xs := [.tmp 28, .tmp 30]) se m0 rfl rfl rfl (by decide) ok29 (ih ((((posL t ed.toNat k : Nat) : Int) - 1).toNat) (by omega) _ (imm Z w0 [] _) (fun _ h => h.1) _ _ _ (((posL t ed.toNat k : Nat) : Int) - 1) (i0.g 0) (by first | assumption | omega | (simp; done) | (simp; omega)) (by first | assumption | omega | (simp; done) | (simp; omega)) (by first | assumption | omega | (simp; done) | (simp; omega)) (by first | assumption | omega | (simp; done) | (simp; omega)) (by first | assumption | omega | (simp; done) | (simp; omega)) rfl) ?_
  rintro m0 k0 ⟨rfl, n0⟩
  have k0 := i0.below n0.below
  refine ⟨_, rfl, fun n0 i0 => ?_⟩
  refine asg i0 (fun n0 m0 => ?_)
  refine wpList_nil (x_then_n (d0 _ _ ?_))
  refine wsc (fun d0 n0 => ?_)
  refine mv m0 (fun d0 i0 => ?_)
  refine r_lss sv i0 rfl rfl rfl rfl (by decide) (fun d0 m0 => ?_)
  refine wpList_nil (x_then_n (n0 _ _ ?_))
  have n0 : ¬ (((frL t (((posL t ed.toNat k : Nat) : Int) - 1).toNat : Nat) : Int) < 0) := by omega
  have d0 := m0.setb (d := 33) (b := false) rfl (decide_eq_false n0)
  refine wp_cond_false (d0.ev rfl) ?_
  refine wp_skip ?_
  refine x_block_n ?_
  refine x_then_n (f0 _ _ ?_)
  refine c_region ?_
  refine mv d0 (fun f0 n0 => ?_)
  refine r_add (z := ((k + 1 : Nat) : Int)) sv n0 rfl rfl rfl rfl (by decide) (by omega) (by omega) (by omega) (fun f0 d0 => ?_)
  refine asg d0 (fun f0 n0 => ?_)
  refine wpList_nil ?_
  exact ⟨_, by omega, k + 1, (n0.sub (rc rfl (rc rfl (rc rfl (rc rfl (rc (ri rfl (by rw [show (((posL t ed.toNat k : Nat) : Int) - 1).toNat = posL t ed.toNat k - 1 by omega, hps3])) rnl)))))), k0, by omega, rfl⟩
 ·
  have n0 := h0.setb (d := 25) (b := false) rfl (decide_eq_false j0)
  refine wp_cond_false (n0.ev rfl) ?_
  refine wp_exit ?_
  refine x_then_e ?_
  refine x_then_e ?_
  refine x_block_eq ?_
  refine x_then_n (b0 _ _ ?_)
  refine wsc (fun b0 j0 => ?_)
  refine mv n0 (fun b0 h0 => ?_)
  refine asg h0 (fun b0 n0 => ?_)
  refine wpList_nil (x_then_n (j0 _ _ ?_))
  refine wp_ret ?_
  refine e_ret1 n0 rfl rfl rfl ?_
  refine ⟨?_, c0.fr⟩
  exact congrArg Ending.returned (ret_i (by rw [← posL_end hb (by omega), show k = many (nth t ed.toNat) by omega]))
theorem rfrom_calls (w0 : World) (Z : Nat → Prop) (hZ : ∀ k, Z k → k < w0.heap.size) (tA : Option Addr) (tc : Nat) (t : List Nd) (ed : Int) (ht : (dRow 4 tA t.length tc (encNs t)).φ w0 Z) (hl : t.length ≤ 1000000 := by first | assumption | omega | (simp; done) | (simp; omega)) (hsm : sml t := by first | assumption | omega | (simp; done) | (simp; omega)) (hb : measB t = true := by first | assumption | omega | (simp; done) | (simp; omega)) (he0 : 0 ≤ ed := by first | assumption | omega | (simp; done) | (simp; omega)) (he1 : ed < t.length := by first | assumption | omega | (simp; done) | (simp; omega)) :
    Calls Tryd.prog 29 [.slice tA t.length tc, .int .i64 ed].toArray w0 (fun e w' => e = .returned (.int .i64 ((frL t ed.toNat : Nat) : Int)) ∧ Fr none_ w0 w') := rfrom_calls_rec _ w0 Z hZ tA tc t ed ht hl hsm hb he0 he1 rfl
set_option maxRecDepth 100000 in
set_option maxHeartbeats 1000000 in
theorem rparts_calls (w0 : World) (Z : Nat → Prop) (hZ : ∀ k, Z k → k < w0.heap.size) (tA : Option Addr) (tc : Nat) (t : List Nd) (ht : (dRow 4 tA t.length tc (encNs t)).φ w0 Z) (hl : t.length ≤ 1000000 := by first | assumption | omega | (simp; done) | (simp; omega)) (hsm : sml t := by first | assumption | omega | (simp; done) | (simp; omega)) (hb : measB t = true := by first | assumption | omega | (simp; done) | (simp; omega)) :
    Calls Tryd.prog 21 [.slice tA t.length tc].toArray w0 (fun e w' => ∃ (rA0 : Option Addr) (rc0 : Nat) (rL0 : List Sl), e = .returned (.slice rA0 rL0.length rc0) ∧ Fr none_ w0 w' ∧ (dRow 1 rA0 rL0.length rc0 (encSs rL0)).φ w' (nxt Z w0 w') ∧ (dAll rL0).φ w' (nxt Z w0 w') ∧ lsts rL0 = ptL t) := by
 have b0 := s0 (M := none_) hZ (zc ht zn)
 have hp0 := meas_pos hb
 have hm8 := many_le (right_at hb (show t.length - 1 < t.length by omega))
 have hbm := bindL_many (right_at hb (show t.length - 1 < t.length by omega))
 refine c_enter Tryd.func21 rfl Tryd.ntmps21 rfl (fun c0 d0 => ?_)
 refine wsc (fun c0 f0 => ?_)
 refine asg d0 (fun c0 h0 => ?_)
 refine wpList_nil (x_then_n (f0 _ _ ?_))
 refine wsc (fun f0 c0 => ?_)
 refine mv h0 (fun f0 d0 => ?_)
 refine r_len sv d0 rfl rfl rfl rfl Tryd.underlying22 (by decide) (fun f0 h0 => ?_)
 refine r_sub (z := (((t.length : Nat) : Int) - 1)) sv h0 rfl rfl rfl rfl (by decide) (by omega) (by omega) (by omega) (fun f0 d0 => ?_)
 refine asg d0 (fun f0 h0 => ?_)
 refine wpList_nil (x_then_n (c0 _ _ ?_))
 refine wsc (fun c0 f0 => ?_)
 refine mv h0 (fun c0 d0 => ?_)
 refine mv d0 (fun c0 h0 => ?_)
 refine m_index (i := (t.length) - (1)) (j := ((t.length) - (1)) * 4) sv h0 rfl rfl rfl rfl Tryd.underlying22 sz32 (by omega) (by omega) (nds_elem (t := t) (k := (t.length) - (1)) (b0.row (i := 0) rfl).2 (by omega)).some_ rfl (by decide) (fun c0 d0 => ?_)
 refine m_loadEN sv d0 rfl rfl rfl (nds_elem (t := t) (k := (t.length) - (1)) (b0.row (i := 0) rfl).2 (by omega)) Tryd.underlying32 rfl sz32 (by decide) (fun c0 h0 => ?_)
 have c0 := b0.nf
 refine k_call (xs := [.tmp 17]) se h0 rfl rfl rfl (by decide) ok28 (rbinds_calls _ _ c0.il (nth t ((t.length) - (1))) (hs := (hsm _ (by omega)))) ?_
 rintro h0 b0 ⟨d0, i0, rfl, j0, k0⟩
 have b0 := c0.below j0.below
 have j0 := c0.dN b0 k0
 refine ⟨_, rfl, fun b0 k0 => ?_⟩
 refine mv k0 (fun b0 c0 => ?_)
 refine r_extract sv c0 rfl rfl rfl rfl (by decide) (fun b0 k0 => ?_)
 refine r_extract sv k0 rfl rfl rfl rfl (by decide) (fun b0 c0 => ?_)
 refine asg c0 (fun b0 k0 => ?_)
 refine asg k0 (fun b0 c0 => ?_)
 refine wpList_nil (x_then_n (f0 _ _ ?_))
 refine wsc (fun f0 b0 => ?_)
 have f0 := j0.data (dAll []) all_nil
 refine mbs [] [] sv c0 f0 Tryd.underlying39 zi22 (fun j0 k0 h0 m0 n0 => ?_)
 refine asg m0 (fun k0 j0 => ?_)
 refine wpList_nil (x_then_n (b0 _ _ ?_))
 refine wp_seq_k (fun b0 k0 => ?_)
 refine wsc (fun b0 m0 => ?_)
 refine asg j0 (fun b0 f0 => ?_)
 refine wpList_nil (x_then_n (m0 _ _ ?_))
 refine wp_block ?_
 refine wp_loop_ghost (fun gn ga gw => ∃ k : Nat, ∃ Ls : List Sl, ∃ Ao : Option Addr, ∃ co : Nat, (Reg ga 42 [(1000000, .bool false), (0, .slice tA t.length tc), (2, .slice none 0 0), (4, .slice d0 ((bindL (nth t ((t.length) - (1)))).length) i0), (7, .int .i64 ((k : Nat) : Int)), (3, .int .i64 ((posL t (t.length - 1) k : Nat) : Int)), (6, .slice Ao ((Ls).length) co)]) ∧ (St w0 Z none_ gw [.row Ao ((Ls).length) co 22 1 (encSs Ls)] [dRow 4 tA t.length tc (encNs t), dRow 1 d0 ((bindL (nth t ((t.length) - (1)))).length) i0 (encIs (bindL (nth t ((t.length) - (1))))), dAll Ls]) ∧ (k ≤ many (nth t (t.length - 1))) ∧ (lsts Ls = ptD t k) ∧ (many (nth t (t.length - 1)) - k) = gn) _ ⟨0, [], (some ⟨h0, 0, none⟩), 0, (f0.sub (rc rfl (rc rfl (rc rfl (rc rfl (rc rfl (rc (ri rfl (by rw [posL_zero hb (by omega)]; omega)) (rc rfl rnl)))))))), n0, by omega, (ptD_zero t).symm, rfl⟩ ?_
 rintro f0 n0 h0 ⟨k, Ls, Ao, co, i0, d0, hk, hL, m0⟩
 have hLn : Ls.length = k := by rw [← lsts_len, hL, ptD_length hb hk]
 refine wp_seq_k (fun m0 h0 => ?_)
 refine wsc (fun m0 n0 => ?_)
 refine mv i0 (fun m0 f0 => ?_)
 refine mv f0 (fun m0 i0 => ?_)
 refine r_len sv i0 rfl rfl rfl rfl Tryd.underlying56 (by decide) (fun m0 f0 => ?_)
 refine r_lss sv f0 rfl rfl rfl rfl (by decide) (fun m0 i0 => ?_)
 refine wpList_nil (x_then_n (n0 _ _ ?_))
 rcases Decidable.em (((k : Nat) : Int) < (((bindL (nth t ((t.length) - (1)))).length : Nat) : Int)) with n0 | n0
 ·
  obtain ⟨hps1, hps2, hps3, hps4⟩ := posL_step hb (show t.length - 1 < t.length by omega) (show k < many (nth t (t.length - 1)) by omega)
  have hps5 := hps3
  rw [show posL t (t.length - 1) k - 1 = (((posL t (t.length - 1) k : Nat) : Int) - 1).toNat by omega] at hps5
  have m0 := i0.setb (d := 25) (b := true) rfl (decide_eq_true n0)
  refine wp_cond_true (m0.ev rfl) ?_
  refine wp_skip ?_
  refine x_then_n (h0 _ _ ?_)
  refine wp_seq_k (fun h0 f0 => ?_)
  refine wp_block ?_
  refine wsc (fun h0 b0 => ?_)
  refine mv m0 (fun h0 j0 => ?_)
  refine mv j0 (fun h0 m0 => ?_)
  refine r_sub (z := (((posL t (t.length - 1) k : Nat) : Int) - 1)) sv m0 rfl rfl rfl rfl (by decide) (by omega) (by omega) (by omega) (fun h0 j0 => ?_)
  have h0 := d0.nf
  refine k_call (xs := [.tmp 28, .tmp 30]) se j0 rfl rfl rfl (by decide) ok29 (rfrom_calls _ _ h0.il _ _ _ (((posL t (t.length - 1) k : Nat) : Int) - 1) (h0.g 0)) ?_
  rintro j0 m0 ⟨rfl, c0⟩
  have m0 := h0.below c0.below
  refine ⟨_, rfl, fun c0 h0 => ?_⟩
  refine asg h0 (fun c0 j0 => ?_)
  refine wpList_nil (x_then_n (b0 _ _ ?_))
  refine wsc (fun b0 c0 => ?_)
  refine mv j0 (fun b0 h0 => ?_)
  refine mv h0 (fun b0 j0 => ?_)
  refine mv j0 (fun b0 h0 => ?_)
  refine m_sliceD (f := encN) (lo := some (.tmp 33)) (hi := some (.tmp 34)) (vlo := (some (.int .i64 ((frL t (((posL t (t.length - 1) k : Nat) : Int) - 1).toNat : Nat) : Int)))) (vhi := (some (.int .i64 ((posL t (t.length - 1) k : Nat) : Int)))) (kd := .i64) (kd' := .i64) sv h0 rfl rfl rfl rfl rfl (frL t (((posL t (t.length - 1) k : Nat) : Int) - 1).toNat) ((posL t (t.length - 1) k) - (frL t (((posL t (t.length - 1) k : Nat) : Int) - 1).toNat)) (.inl (by rfl)) (.inl (by congr 2; omega)) (((t).drop (frL t (((posL t (t.length - 1) k : Nat) : Int) - 1).toNat)).take ((posL t (t.length - 1) k) - (frL t (((posL t (t.length - 1) k : Nat) : Int) - 1).toNat))) rfl encN_len (m0.row (i := 0) rfl) Tryd.underlying22 sz32 (by omega) (by decide) (fun b0 j0 o0 p0 q0 => ?_)
  have b0 : (((t).drop (frL t (((posL t (t.length - 1) k : Nat) : Int) - 1).toNat)).take ((posL t (t.length - 1) k) - (frL t (((posL t (t.length - 1) k : Nat) : Int) - 1).toNat))).length = (posL t (t.length - 1) k) - (frL t (((posL t (t.length - 1) k : Nat) : Int) - 1).toNat) := by (simp only [List.length_drop, List.length_take]; omega)
  have b0 := m0.data (dRow 4 j0 ((((t).drop (frL t (((posL t (t.length - 1) k : Nat) : Int) - 1).toNat)).take ((posL t (t.length - 1) k) - (frL t (((posL t (t.length - 1) k : Nat) : Int) - 1).toNat))).length) o0 (encNs (((t).drop (frL t (((posL t (t.length - 1) k : Nat) : Int) - 1).toNat)).take ((posL t (t.length - 1) k) - (frL t (((posL t (t.length - 1) k : Nat) : Int) - 1).toNat))))) p0
  have p0 := b0.data (dAll [((j0, o0, ((t).drop (frL t (((posL t (t.length - 1) k : Nat) : Int) - 1).toNat)).take ((posL t (t.length - 1) k) - (frL t (((posL t (t.length - 1) k : Nat) : Int) - 1).toNat))) : Sl)]) (all_cons (b0.get (i := 3) rfl) all_nil)
  refine mbs [(0, .tmp 35)] [.slice j0 ((((t).drop (frL t (((posL t (t.length - 1) k : Nat) : Int) - 1).toNat)).take ((posL t (t.length - 1) k) - (frL t (((posL t (t.length - 1) k : Nat) : Int) - 1).toNat))).length) o0] sv q0 p0 Tryd.underlying39 zi22 (fun b0 m0 h0 t0 u0 => ?_)
  refine asg t0 (fun h0 m0 => ?_)
  refine wpList_nil (x_then_n (c0 _ _ ?_))
  refine wsc (fun c0 h0 => ?_)
  refine mv m0 (fun c0 t0 => ?_)
  refine mv t0 (fun c0 m0 => ?_)
  refine m_appendF (f := encS) (i := 1) ([((j0, o0, ((t).drop (frL t (((posL t (t.length - 1) k : Nat) : Int) - 1).toNat)).take ((posL t (t.length - 1) k) - (frL t (((posL t (t.length - 1) k : Nat) : Int) - 1).toNat))) : Sl)]) (Ls) sv m0 u0 rfl rfl rfl rfl rfl encS_len (encS_one _) Tryd.underlying39 zi22 rfl rfl (own_lnews (f := encS) (u0.res (i := 0) rfl)) rfl (by (simp only [List.length_cons, List.length_nil]; omega)) (by decide) (fun c0 t0 b0 p0 q0 v0 x0 => ?_)
  have q0 : (([((j0, o0, ((t).drop (frL t (((posL t (t.length - 1) k : Nat) : Int) - 1).toNat)).take ((posL t (t.length - 1) k) - (frL t (((posL t (t.length - 1) k : Nat) : Int) - 1).toNat))) : Sl)]) ++ Ls : List Sl).length = (Ls).length + 1 := by (simp only [List.length_append, List.length_take, List.length_cons, List.length_nil]; omega)
  have q0 := x0.erase 0
  have x0 := q0.data (dAll (([((j0, o0, ((t).drop (frL t (((posL t (t.length - 1) k : Nat) : Int) - 1).toNat)).take ((posL t (t.length - 1) k) - (frL t (((posL t (t.length - 1) k : Nat) : Int) - 1).toNat))) : Sl)]) ++ Ls)) (all_append (q0.get (i := 4) rfl) (q0.get (i := 2) rfl))
  refine asg v0 (fun q0 t0 => ?_)
  refine wpList_nil (x_then_n (h0 _ _ (c_region ?_)))
  refine mv t0 (fun h0 q0 => ?_)
  refine asg q0 (fun h0 t0 => ?_)
  refine wpList_nil ?_
  refine x_block_n ?_
  refine x_then_n (f0 _ _ ?_)
  refine c_region ?_
  refine mv t0 (fun f0 h0 => ?_)
  refine r_add (z := ((k + 1 : Nat) : Int)) sv h0 rfl rfl rfl rfl (by decide) (by omega) (by omega) (by omega) (fun f0 t0 => ?_)
  refine asg t0 (fun f0 h0 => ?_)
  refine wpList_nil ?_
  have f0 := x0.forget 4
  have x0 := f0.forget 3
  have f0 := x0.forget 2
  exact ⟨_, by omega, k + 1, ([((j0, o0, ((t).drop (frL t (((posL t (t.length - 1) k : Nat) : Int) - 1).toNat)).take ((posL t (t.length - 1) k) - (frL t (((posL t (t.length - 1) k : Nat) : Int) - 1).toNat))) : Sl)]) ++ Ls, b0, p0, (h0.sub (rc rfl (rc rfl (rc rfl (rc rfl (rc rfl (rc (ri rfl (by rw [show (((posL t (t.length - 1) k : Nat) : Int) - 1).toNat = posL t (t.length - 1) k - 1 by omega, hps3])) (rc rfl rnl)))))))), f0, by omega, parts_step hb hL (by omega) (by rw [show (((posL t (t.length - 1) k : Nat) : Int) - 1).toNat = posL t (t.length - 1) k - 1 by omega, hps3]) rfl, rfl⟩
 ·
  have f0 := i0.setb (d := 25) (b := false) rfl (decide_eq_false n0)
  refine wp_cond_false (f0.ev rfl) ?_
  refine wp_exit ?_
  refine x_then_e ?_
  refine x_then_e ?_
  refine x_block_eq ?_
  refine x_then_n (k0 _ _ ?_)
  refine wsc (fun k0 n0 => ?_)
  refine mv f0 (fun k0 i0 => ?_)
  refine asg i0 (fun k0 f0 => ?_)
  refine wpList_nil (x_then_n (n0 _ _ ?_))
  refine wp_ret ?_
  refine e_ret1 f0 rfl rfl rfl ?_
  have f0 := own_cap (d0.res (i := 0) rfl)
  obtain ⟨n0, k0⟩ := d0.row_data (i := 0) rfl (fun _ h => h)
  have d0 := n0.data (dRow 1 Ao ((Ls).length) co (encSs Ls)) ⟨f0, k0⟩
  refine ⟨Ao, co, Ls, ?_, d0.fr, d0.rx 3, d0.rx 2, (by rw [hL, ← ptD_all hb, show k = many (nth t (t.length - 1)) by omega])⟩
  exact congrArg Ending.returned (ret_s (by rfl))
end Go.Proofs.YthdemmcfnpmmiaaDoor
/- Contracts of functions, one theorem each: what the call returns, and that nothing old is changed. Printed by gen.py. -/
namespace Go.Proofs.YthdemmcfnpmmiaaDoor
open Go Go.RowKit
set_option linter.unusedSimpArgs false
set_option linter.unusedVariables false
set_option maxRecDepth 100000 in
set_option maxHeartbeats 1000000 in
theorem rof_calls (w0 : World) (Z : Nat → Prop) (hZ : ∀ k, Z k → k < w0.heap.size) (n : Nd) (pA : Option Addr) (pc : Nat) (p : List Sl) (hp : (dRow 1 pA p.length pc (encSs p)).φ w0 Z) (hps : (dAll p).φ w0 Z) (hl : p.length ≤ 10 := by first | assumption | omega | (simp; done) | (simp; omega)) (hb : (lsts p).flatten.length ≤ 50000000 := by first | assumption | omega | (simp; done) | (simp; omega)) :
    Calls Tryd.prog 16 [.agg #[.int .i64 (n.K), .int .i64 (n.N), .int .i64 (n.M), .string n.S], .slice pA p.length pc].toArray w0 (fun e w' => ∃ (rA0 : Option Addr) (rc0 : Nat), e = .returned (.slice rA0 ((lsts p).flatten ++ [n]).length rc0) ∧ Fr none_ w0 w' ∧ (dRow 4 rA0 (((lsts p).flatten ++ [n]).length) rc0 (encNs ((lsts p).flatten ++ [n]))).φ w' (nxt Z w0 w')) := by
 have b0 := s0 (M := none_) hZ (zc hp (zc hps zn))
 refine c_enter Tryd.func16 rfl Tryd.ntmps16 rfl (fun c0 d0 => ?_)
 refine wsc (fun c0 f0 => ?_)
 refine m_box (cs := [.int .i64 (n.K), .int .i64 (n.N), .int .i64 (n.M), .string n.S]) sv d0 b0 rfl rfl rfl rfl (by decide) (fun c0 h0 i0 j0 k0 => ?_)
 refine asg j0 (fun h0 c0 => ?_)
 refine wpList_nil (x_then_n (f0 _ _ ?_))
 refine wsc (fun f0 h0 => ?_)
 refine mbs [] [] sv c0 k0 Tryd.underlying22 zi32 (fun f0 j0 d0 b0 m0 => ?_)
 refine asg b0 (fun j0 f0 => ?_)
 refine wpList_nil (x_then_n (h0 _ _ ?_))
 refine wp_seq_k (fun h0 j0 => ?_)
 refine wsc (fun h0 b0 => ?_)
 refine asg f0 (fun h0 c0 => ?_)
 refine wpList_nil (x_then_n (b0 _ _ ?_))
 refine wp_block ?_
 refine wp_loop_ghost (fun gn ga gw => ∃ k : Nat, ∃ Ao : Option Addr, ∃ co : Nat, (Reg ga 24 [(1000000, .bool false), (1, .slice pA p.length pc), (2, .pointer (some ⟨i0, 0, none⟩)), (4, .slice none 0 0), (6, .int .i64 ((k : Nat) : Int)), (5, .slice Ao (((lsts (p.take k)).flatten).length) co)]) ∧ (St w0 Z none_ gw [.box i0 32 [.int .i64 (n.K), .int .i64 (n.N), .int .i64 (n.M), .string n.S], .row Ao (((lsts (p.take k)).flatten).length) co 32 4 (encNs ((lsts (p.take k)).flatten))] [dRow 1 pA p.length pc (encSs p), dAll p]) ∧ (k ≤ p.length) ∧ (p.length - k) = gn) _ ⟨0, (some ⟨d0, 0, none⟩), 0, (c0.sub (rc rfl (rc rfl (rc rfl (rc rfl (rc rfl (rc rfl rnl))))))), m0, by omega, rfl⟩ ?_
 rintro c0 m0 d0 ⟨k, Ao, co, i0, b0, hk, h0⟩
 have hfl := flat_total p k
 refine wp_seq_k (fun h0 d0 => ?_)
 refine wsc (fun h0 m0 => ?_)
 refine mv i0 (fun h0 c0 => ?_)
 refine mv c0 (fun h0 i0 => ?_)
 refine r_len sv i0 rfl rfl rfl rfl Tryd.underlying39 (by decide) (fun h0 c0 => ?_)
 refine r_lss sv c0 rfl rfl rfl rfl (by decide) (fun h0 i0 => ?_)
 refine wpList_nil (x_then_n (m0 _ _ ?_))
 rcases Decidable.em (((k : Nat) : Int) < ((p.length : Nat) : Int)) with m0 | m0
 ·
  have hfl2 := flat_total p (k + 1)
  rw [flat_step (by omega), List.length_append] at hfl2
  have h0 := i0.setb (d := 11) (b := true) rfl (decide_eq_true m0)
  refine wp_cond_true (h0.ev rfl) ?_
  refine wp_skip ?_
  refine x_then_n (d0 _ _ ?_)
  refine wp_seq_k (fun d0 c0 => ?_)
  refine wp_block ?_
  refine c_region ?_
  refine mv h0 (fun d0 f0 => ?_)
  refine mv f0 (fun d0 h0 => ?_)
  refine mv h0 (fun d0 f0 => ?_)
  refine m_index (i := k) (j := k * 1) sv f0 rfl rfl rfl rfl Tryd.underlying39 sz22 (by omega) (by omega) (ss_elem (t := p) (k := k) (b0.row (i := 0) rfl).2 (by omega)).some_ rfl (by decide) (fun d0 h0 => ?_)
  refine m_loadE sv h0 rfl rfl rfl 0 (k * 1) (ss_elem (t := p) (k := k) (b0.row (i := 0) rfl).2 (by omega)) rfl rfl Tryd.underlying22 rfl (by decide) (fun d0 f0 => ?_)
  have d0 := b0.data (dRow 4 ((nthS p k).1) ((nthS p k).2.2.length) ((nthS p k).2.1) (encNs ((nthS p k).2.2))) (all_at (t := p) (k := k) (b0.get (i := 1) rfl) (by omega))
  refine m_appendF (f := encN) (i := 1) ((lsts (p.take k)).flatten) ((nthS p k).2.2) sv f0 d0 rfl rfl rfl rfl rfl encN_len (encN_one _) Tryd.underlying22 zi32 rfl rfl (d0.row (i := 2) rfl).2.news rfl (by omega) (by decide) (fun h0 k0 n0 o0 p0 q0 t0 => ?_)
  have p0 : (((lsts (p.take k)).flatten) ++ ((nthS p k).2.2)).length = ((lsts (p.take k)).flatten).length + (nthS p k).2.2.length := by (simp only [List.length_append, List.length_take, List.length_cons, List.length_nil]; done)
  refine asg q0 (fun p0 k0 => ?_)
  refine wpList_nil ?_
  refine x_block_n ?_
  refine x_then_n (c0 _ _ ?_)
  refine c_region ?_
  refine mv k0 (fun c0 p0 => ?_)
  refine r_add (z := ((k + 1 : Nat) : Int)) sv p0 rfl rfl rfl rfl (by decide) (by omega) (by omega) (by omega) (fun c0 k0 => ?_)
  refine asg k0 (fun c0 p0 => ?_)
  refine wpList_nil ?_
  have c0 : ((lsts (p.take k)).flatten) ++ ((nthS p k).2.2) = (lsts (p.take (k + 1))).flatten := (flat_step (by omega)).symm
  have k0 := p0
  have p0 := t0
  rw [c0] at k0 p0
  have c0 := p0.forget 2
  exact ⟨_, by omega, k + 1, n0, o0, (k0.sub (rc rfl (rc rfl (rc rfl (rc rfl (rc rfl (rc rfl rnl))))))), c0, by omega, rfl⟩
 ·
  have c0 := i0.setb (d := 11) (b := false) rfl (decide_eq_false m0)
  refine wp_cond_false (c0.ev rfl) ?_
  refine wp_exit ?_
  refine x_then_e ?_
  refine x_then_e ?_
  refine x_block_eq ?_
  refine x_then_n (j0 _ _ ?_)
  refine wsc (fun j0 m0 => ?_)
  refine mv c0 (fun j0 i0 => ?_)
  refine m_loadN (i := 0) (vs := [.int .i64 (n.K), .int .i64 (n.N), .int .i64 (n.M), .string n.S]) sv i0 b0 rfl rfl rfl rfl rfl Tryd.underlying32 rfl sz32 (by decide) (fun j0 c0 => ?_)
  refine mbs [(0, .tmp 21)] [.int .i64 (n.K), .int .i64 (n.N), .int .i64 (n.M), .string n.S] sv c0 b0 Tryd.underlying22 zi32 (fun j0 i0 k0 o0 n0 => ?_)
  refine m_appendF (f := encN) (i := 1) ((lsts (p.take k)).flatten) ([n]) sv o0 n0 rfl rfl rfl rfl rfl encN_len (encN_one _) Tryd.underlying22 zi32 rfl rfl (own_lnews (f := encN) (n0.res (i := 2) rfl)) rfl (by (simp only [List.length_cons, List.length_nil]; omega)) (by decide) (fun k0 i0 j0 c0 b0 p0 t0 => ?_)
  have b0 : (((lsts (p.take k)).flatten) ++ ([n]) : List Nd).length = ((lsts (p.take k)).flatten).length + 1 := by (simp only [List.length_append, List.length_take, List.length_cons, List.length_nil]; done)
  have b0 := t0.erase 2
  refine asg p0 (fun t0 i0 => ?_)
  refine wpList_nil (x_then_n (m0 _ _ ?_))
  refine wp_ret ?_
  refine e_ret1 i0 rfl rfl rfl ?_
  have i0 : (lsts p).flatten ++ [n] = ((lsts (p.take k)).flatten) ++ ([n]) := by rw [List.take_of_length_le (by omega)]
  rw [i0]
  have i0 := own_cap (b0.res (i := 1) rfl)
  obtain ⟨m0, t0⟩ := b0.row_data (i := 1) rfl (fun _ h => h)
  have b0 := m0.data (dRow 4 j0 ((((lsts (p.take k)).flatten) ++ ([n]) : List Nd).length) c0 (encNs (((lsts (p.take k)).flatten) ++ ([n])))) ⟨i0, t0⟩
  refine ⟨j0, c0, ?_, b0.fr, b0.rx 2⟩
  exact congrArg Ending.returned rfl
end Go.Proofs.YthdemmcfnpmmiaaDoor
/- Contracts of functions, one theorem each: what the call returns, and that nothing old is changed. Printed by gen.py. -/
namespace Go.Proofs.YthdemmcfnpmmiaaDoor
open Go Go.RowKit
set_option linter.unusedSimpArgs false
set_option linter.unusedVariables false
set_option maxRecDepth 100000 in
set_option maxHeartbeats 1000000 in
theorem rclamp_calls (w0 : World) (Z : Nat → Prop) (hZ : ∀ k, Z k → k < w0.heap.size) (n : Int)  :
    Calls Tryd.prog 24 [.int .i64 n].toArray w0 (fun e w' => e = .returned (.int .i64 (clamp n)) ∧ Fr none_ w0 w') := by
 have b0 := s0 (M := none_) hZ zn
 refine c_enter Tryd.func24 rfl Tryd.ntmps24 rfl (fun c0 d0 => ?_)
 refine wsc (fun c0 f0 => ?_)
 refine asg d0 (fun c0 h0 => ?_)
 refine wpList_nil (x_then_n (f0 _ _ ?_))
 refine wsc (fun f0 c0 => ?_)
 refine mv h0 (fun f0 d0 => ?_)
 refine r_min sv d0 rfl rfl rfl rfl rfl (by decide) (fun f0 h0 => ?_)
 refine r_max sv h0 rfl rfl rfl rfl rfl (by decide) (fun f0 d0 => ?_)
 refine asg d0 (fun f0 h0 => ?_)
 refine wpList_nil (x_then_n (c0 _ _ ?_))
 refine wp_ret ?_
 refine e_ret1 h0 rfl rfl rfl ?_
 refine ⟨?_, b0.fr⟩
 exact congrArg Ending.returned (ret_i (by unfold clamp; omega))
set_option maxRecDepth 100000 in
set_option maxHeartbeats 1000000 in
theorem rshift_calls_rec (rn : Nat) : ∀ (w0 : World) (Z : Nat → Prop) (hZ : ∀ k, Z k → k < w0.heap.size) (tA : Option Addr) (tc : Nat) (t : List Nd) (b : Int) (fr : Int) (u : Int) (ht : (dRow 4 tA t.length tc (encNs t)).φ w0 Z) (hl : t.length ≤ 1000000) (hsm : sml t) (hb : measB t = true) (hu0 : 0 ≤ u) (hub : u + 2 * t.length ≤ 10000000) (hb1 : -1000000 ≤ b) (hb2 : b ≤ 1000000) (hrn : t.length = rn),
    Calls Tryd.prog 23 [.slice tA t.length tc, .int .i64 b, .int .i64 fr, .int .i64 u].toArray w0 (fun e w' => ∃ (rA0 : Option Addr) (rc0 : Nat), e = .returned (.tuple #[.slice rA0 (trL (shV b fr) t u).length rc0, .int .i64 (trEL (shV b fr) t u)]) ∧ Fr none_ w0 w' ∧ (dRow 4 rA0 ((trL (shV b fr) t u).length) rc0 (encNs (trL (shV b fr) t u))).φ w' (nxt Z w0 w')) := by
 induction rn using Nat.strongRecOn
 rename_i rn ih
 intro w0 Z hZ tA tc t b fr u ht hl hsm hb hu0 hub hb1 hb2 hrn
 have b0 := s0 (M := none_) hZ (zc ht zn)
 have hp0 := meas_pos hb
 have hrt := right_at hb (show t.length - 1 < t.length by omega)
 have hbl := bindL_right hrt
 have hbm := bindL_many hrt
 have hpm := ptL_length hb
 refine c_enter Tryd.func23 rfl Tryd.ntmps23 rfl (fun c0 d0 => ?_)
 refine wsc (fun c0 f0 => ?_)
 refine asg d0 (fun c0 h0 => ?_)
 refine asg h0 (fun c0 d0 => ?_)
 refine wpList_nil (x_then_n (f0 _ _ ?_))
 refine wsc (fun f0 c0 => ?_)
 refine mv d0 (fun f0 h0 => ?_)
 have f0 := b0.nf
 refine k_call (xs := [.tmp 19]) se h0 rfl rfl rfl (by decide) ok14 (rroot_calls _ _ f0.il _ _ _ (f0.g 0)) ?_
 rintro h0 b0 ⟨rfl, d0⟩
 have b0 := f0.below d0.below
 refine ⟨_, rfl, fun d0 f0 => ?_⟩
 refine m_alloc (cs := [.int .i64 0, .int .i64 0, .int .i64 0, .string (⟨#[]⟩ : ByteArray)]) sv f0 b0 rfl rfl ze32 rfl (by decide) (fun d0 h0 i0 j0 k0 => ?_)
 refine m_store (i := 0) (cs' := [.int .i64 (((nth t (t.length - 1)).K)), .int .i64 (((nth t (t.length - 1)).N)), .int .i64 (((nth t (t.length - 1)).M)), .string ((nth t (t.length - 1)).S)]) se j0 k0 rfl rfl rfl rfl rfl sz32 rfl rfl rfl (fun h0 d0 f0 b0 => ?_)
 refine wpList_nil (x_then_n (c0 _ _ ?_))
 refine wp_seq_k (fun c0 d0 => ?_)
 refine wsc (fun c0 h0 => ?_)
 refine m_field (j' := 0) sv f0 rfl rfl rfl Tryd.underlying32 rfl sz3 rfl rfl (by decide) (fun c0 k0 => ?_)
 refine m_load (i := 0) sv k0 b0 rfl rfl rfl rfl rfl Tryd.underlying3 rfl (by decide) (fun c0 f0 => ?_)
 refine r_eql sv f0 rfl rfl rfl rfl (by decide) (fun c0 k0 => ?_)
 refine mv k0 (fun c0 f0 => ?_)
 refine l_join (fun ga gw => Reg ga 86 [(0, .slice tA t.length tc), (1, .int .i64 (b)), (2, .int .i64 (fr)), (3, .int .i64 (u)), (8, .slice none 0 0), (9, .int .i64 0), (10, .pointer (some ⟨i0, 0, none⟩)), (31, .bool ((decide ((((nth t (t.length - 1)).K)) = 0)) && (decide ((fr) ≤ (((nth t (t.length - 1)).N) - u))))), (1000000, .bool false)] ∧ St w0 Z none_ gw [.box i0 32 [.int .i64 (((nth t (t.length - 1)).K)), .int .i64 (((nth t (t.length - 1)).N)), .int .i64 (((nth t (t.length - 1)).M)), .string ((nth t (t.length - 1)).S)]] [dRow 4 tA t.length tc (encNs t)]) 7 ?_ ?_
 ·
  rcases Decidable.em ((((nth t (t.length - 1)).K)) = 0) with c0 | c0
  ·
   obtain ⟨k0, j0⟩ := var_at hb c0
   have m0 := f0.setb (d := 24) (b := true) rfl (decide_eq_true c0)
   refine m_field (j' := 1) (st_listV_w (wt m0)) m0 rfl rfl rfl Tryd.underlying32 rfl sz3 rfl rfl (by decide) (fun n0 o0 => ?_)
   refine m_load (i := 0) (st_listV_w (wt o0)) o0 b0 rfl rfl rfl rfl rfl Tryd.underlying3 rfl (by decide) (fun n0 m0 => ?_)
   refine r_move (st_listV_w (wt m0)) m0 rfl rfl rfl (by decide) (fun n0 o0 => ?_)
   refine r_sub (z := (((nth t (t.length - 1)).N) - u)) (st_listV_w (wt o0)) o0 rfl rfl rfl rfl (by decide) (by omega) (by omega) (by omega) (fun n0 m0 => ?_)
   refine r_move (st_listV_w (wt m0)) m0 rfl rfl rfl (by decide) (fun n0 o0 => ?_)
   refine r_geq (st_listV_w (wt o0)) o0 rfl rfl rfl rfl (by decide) (fun n0 m0 => ?_)
   refine r_pick_t sv m0 rfl rfl rfl rfl (by decide) (fun n0 o0 => ?_)
   refine wpList_nil ?_
   exact x_then_n ⟨(o0.sub (rc rfl (rc rfl (rc rfl (rc rfl (rc rfl (rc rfl (rc rfl (rc (rb rfl (by first | rfl | (simp only [decide_eq_true c0, if_pos c0, bl]; done) | (simp [c0]; done) | (simp [c0]; omega))) (rc rfl rnl)))))))))), b0⟩
  ·
   have o0 := f0.setb (d := 24) (b := false) rfl (decide_eq_false c0)
   refine sps o0 (wff o0) (fun f0 n0 => ?_)
   refine sps n0 (wff n0) (fun f0 o0 => ?_)
   refine sps o0 (wff o0) (fun f0 n0 => ?_)
   refine sps n0 (wff n0) (fun f0 o0 => ?_)
   refine sps o0 (wff o0) (fun f0 n0 => ?_)
   refine sps n0 (wff n0) (fun f0 o0 => ?_)
   refine r_pick_f sv o0 rfl rfl rfl rfl (by decide) (fun f0 n0 => ?_)
   refine wpList_nil ?_
   exact x_then_n ⟨(n0.sub (rc rfl (rc rfl (rc rfl (rc rfl (rc rfl (rc rfl (rc rfl (rc (rb rfl (by first | rfl | (simp only [decide_eq_false c0, if_neg c0, bl]; done) | (simp [c0]; done) | (simp [c0]; omega))) (rc rfl rnl)))))))))), b0⟩
 rintro n0 c0 ⟨b0, f0⟩
 refine wpList_nil (x_then_n (h0 _ _ ?_))
 rcases Bool.eq_false_or_eq_true (((decide ((((nth t (t.length - 1)).K)) = 0)) && (decide ((fr) ≤ (((nth t (t.length - 1)).N) - u))))) with h0 | h0
 ·
  have c0 := and_tl h0
  have n0 := of_decide_eq_true c0
  obtain ⟨k0, j0⟩ := var_at hb n0
  have n0 := and_tr h0
  have j0 := of_decide_eq_true n0
  have j0 := b0.setb (d := 31) (b := true) rfl h0
  refine wp_cond_true (j0.ev rfl) ?_
  refine wsc (fun n0 k0 => ?_)
  refine m_field (j' := 1) sv j0 rfl rfl rfl Tryd.underlying32 rfl sz3 rfl rfl (by decide) (fun n0 c0 => ?_)
  refine m_load (i := 0) sv c0 f0 rfl rfl rfl rfl rfl Tryd.underlying3 rfl (by decide) (fun n0 j0 => ?_)
  refine mv j0 (fun n0 c0 => ?_)
  refine r_add (z := (((nth t (t.length - 1)).N) + b)) sv c0 rfl rfl rfl rfl (by decide) (by omega) (by omega) (by omega) (fun n0 j0 => ?_)
  refine asg j0 (fun n0 c0 => ?_)
  refine wpList_nil (x_then_n (k0 _ _ ?_))
  refine wp_seq_k (fun k0 n0 => ?_)
  refine wsc (fun k0 j0 => ?_)
  refine mv c0 (fun k0 o0 => ?_)
  refine mv o0 (fun k0 c0 => ?_)
  refine r_sub (z := (((nth t (t.length - 1)).N) + b - u)) sv c0 rfl rfl rfl rfl (by decide) (by omega) (by omega) (by omega) (fun k0 o0 => ?_)
  refine mv o0 (fun k0 c0 => ?_)
  refine r_lss sv c0 rfl rfl rfl rfl (by decide) (fun k0 o0 => ?_)
  refine wpList_nil (x_then_n (j0 _ _ ?_))
  rcases Decidable.em ((((nth t (t.length - 1)).N) + b - u) < (fr)) with j0 | j0
  ·
   have k0 := o0.setb (d := 40) (b := true) rfl (decide_eq_true j0)
   refine wp_cond_true (k0.ev rfl) ?_
   refine wsc (fun c0 m0 => ?_)
   refine asg k0 (fun c0 p0 => ?_)
   refine asg p0 (fun c0 k0 => ?_)
   refine wpList_nil (x_then_n (m0 _ _ ?_))
   refine wp_ret ?_
   refine x_then_r ?_
   refine x_then_r ?_
   refine e_ret2 k0 rfl rfl rfl rfl ?_
   have k0 : trL (shV b fr) t u = [] := by first | exact (sh_low hb (by omega) (by omega) (by omega)).2 | exact (sh_high hb (by omega) (by omega) (by omega) (by omega)).2 | exact hs2
   rw [k0]
   refine ⟨none, 0, ?_, f0.fr, ⟨Nat.le_refl _, RowI.nil _ _ _ _⟩⟩
   exact ret_t2 rfl (ret_i (by first | omega | (rw [(sh_low hb (by omega) (by omega) (by omega)).1]) | (rw [(sh_high hb (by omega) (by omega) (by omega) (by omega)).1]) | (rw [(sh_good hb (by omega) (by omega) (by omega) (by omega)).1]) | (rw [hs1, hpe, hbl]; done) | (rw [k0]; done)))
  ·
   have m0 := o0.setb (d := 40) (b := false) rfl (decide_eq_false j0)
   refine wp_cond_false (m0.ev rfl) ?_
   refine wp_skip ?_
   refine x_then_n (n0 _ _ ?_)
   refine wp_seq_k (fun n0 j0 => ?_)
   refine wsc (fun n0 o0 => ?_)
   refine mv m0 (fun n0 c0 => ?_)
   refine r_gtr sv c0 rfl rfl rfl rfl (by decide) (fun n0 m0 => ?_)
   refine wpList_nil (x_then_n (o0 _ _ ?_))
   rcases Decidable.em (99 < (((nth t (t.length - 1)).N) + b)) with o0 | o0
   ·
    have n0 := m0.setb (d := 42) (b := true) rfl (decide_eq_true o0)
    refine wp_cond_true (n0.ev rfl) ?_
    refine wsc (fun c0 p0 => ?_)
    refine asg n0 (fun c0 q0 => ?_)
    refine asg q0 (fun c0 n0 => ?_)
    refine wpList_nil (x_then_n (p0 _ _ ?_))
    refine wp_ret ?_
    refine x_then_r ?_
    refine x_then_r ?_
    refine e_ret2 n0 rfl rfl rfl rfl ?_
    have n0 : trL (shV b fr) t u = [] := by first | exact (sh_low hb (by omega) (by omega) (by omega)).2 | exact (sh_high hb (by omega) (by omega) (by omega) (by omega)).2 | exact hs2
    rw [n0]
    refine ⟨none, 0, ?_, f0.fr, ⟨Nat.le_refl _, RowI.nil _ _ _ _⟩⟩
    exact ret_t2 rfl (ret_i (by first | omega | (rw [(sh_low hb (by omega) (by omega) (by omega)).1]) | (rw [(sh_high hb (by omega) (by omega) (by omega) (by omega)).1]) | (rw [(sh_good hb (by omega) (by omega) (by omega) (by omega)).1]) | (rw [hs1, hpe, hbl]; done) | (rw [k0]; done)))
   ·
    have n0 := m0.setb (d := 42) (b := false) rfl (decide_eq_false o0)
    refine wp_cond_false (n0.ev rfl) ?_
    refine wp_skip ?_
    refine x_then_n (j0 _ _ ?_)
    refine wsc (fun j0 o0 => ?_)
    refine mv n0 (fun j0 m0 => ?_)
    refine m_build (ps := [(0, .const (.int .i64 0)), (1, .tmp 43)]) (v := .agg #[.int .i64 0, .int .i64 (((nth t (t.length - 1)).N) + b), .int .i64 0, .string (⟨#[]⟩ : ByteArray)]) sv m0 rfl rfl rfl (fun _ => by kernel_rfl) (by decide) (fun j0 n0 => ?_)
    refine mbs [(0, .tmp 44)] [.int .i64 0, .int .i64 (((nth t (t.length - 1)).N) + b), .int .i64 0, .string (⟨#[]⟩ : ByteArray)] sv n0 f0 Tryd.underlying22 zi32 (fun j0 m0 p0 c0 q0 => ?_)
    refine asg c0 (fun m0 j0 => ?_)
    refine asg j0 (fun m0 c0 => ?_)
    refine wpList_nil (x_then_n (o0 _ _ ?_))
    refine wp_ret ?_
    refine x_then_r ?_
    refine e_ret2 c0 rfl rfl rfl rfl ?_
    have c0 : trL (shV b fr) t u = [(⟨0, (((nth t (t.length - 1)).N) + b), 0, (⟨#[]⟩ : ByteArray)⟩ : Nd)] := (sh_good hb (by omega) (by omega) (by omega) (by omega)).2
    rw [c0]
    have c0 := own_cap (q0.res (i := 1) rfl)
    obtain ⟨o0, m0⟩ := q0.row_data (i := 1) rfl (fun _ h => h)
    have q0 := o0.data (dRow 4 (some ⟨p0, 0, none⟩) 1 1 (encNs ([(⟨0, (((nth t (t.length - 1)).N) + b), 0, (⟨#[]⟩ : ByteArray)⟩ : Nd)]))) ⟨c0, m0⟩
    refine ⟨(some ⟨p0, 0, none⟩), 1, ?_, q0.fr, q0.rx 1⟩
    exact ret_t2 rfl (ret_i (by first | omega | (rw [(sh_low hb (by omega) (by omega) (by omega)).1]) | (rw [(sh_high hb (by omega) (by omega) (by omega) (by omega)).1]) | (rw [(sh_good hb (by omega) (by omega) (by omega) (by omega)).1]) | (rw [hs1, hpe, hbl]; done) | (rw [k0]; done)))
 ·
  have q0 := h0
  try simp only [Bool.or_eq_true, Bool.and_eq_true, Bool.not_eq_true', Bool.not_eq_false', decide_eq_true_eq, decide_eq_false_iff_not, Bool.or_eq_false_iff, Bool.and_eq_false_iff] at q0
  have q0 := b0.setb (d := 31) (b := false) rfl h0
  refine wp_cond_false (q0.ev rfl) ?_
  refine wp_skip ?_
  refine x_then_n (d0 _ _ ?_)
  refine wsc (fun d0 h0 => ?_)
  refine m_loadN (i := 0) (vs := [.int .i64 (((nth t (t.length - 1)).K)), .int .i64 (((nth t (t.length - 1)).N)), .int .i64 (((nth t (t.length - 1)).M)), .string ((nth t (t.length - 1)).S)]) sv q0 f0 rfl rfl rfl rfl rfl Tryd.underlying32 rfl sz32 (by decide) (fun d0 b0 => ?_)
  have d0 := f0.nf
  refine k_call (xs := [.tmp 47]) se b0 rfl rfl rfl (by decide) ok28 (rbinds_calls _ _ d0.il (nth t (t.length - 1)) (hs := (hsm _ (by omega)))) ?_
  rintro b0 f0 ⟨q0, p0, rfl, m0, o0⟩
  have f0 := d0.below m0.below
  have m0 := d0.dN f0 o0
  refine ⟨_, rfl, fun f0 o0 => ?_⟩
  refine mv o0 (fun f0 d0 => ?_)
  refine r_extract sv d0 rfl rfl rfl rfl (by decide) (fun f0 o0 => ?_)
  refine r_extract sv o0 rfl rfl rfl rfl (by decide) (fun f0 d0 => ?_)
  refine asg d0 (fun f0 o0 => ?_)
  refine asg o0 (fun f0 d0 => ?_)
  refine wpList_nil (x_then_n (h0 _ _ ?_))
  refine wsc (fun h0 f0 => ?_)
  refine mv d0 (fun h0 o0 => ?_)
  have h0 := m0.nf
  refine k_call (xs := [.tmp 51]) se o0 rfl rfl rfl (by decide) ok21 (rparts_calls _ _ h0.il _ _ _ (h0.g 0)) ?_
  rintro o0 m0 ⟨d0, b0, c0, rfl, j0, n0, t0, u0⟩
  have m0 := h0.below j0.below
  have j0 := h0.dN m0 n0
  have m0 := h0.dN j0 t0
  refine ⟨_, rfl, fun j0 t0 => ?_⟩
  refine asg t0 (fun j0 h0 => ?_)
  refine wpList_nil (x_then_n (f0 _ _ ?_))
  refine wsc (fun f0 j0 => ?_)
  have f0 := m0.data (dAll []) all_nil
  refine mbs [] [] sv h0 f0 Tryd.underlying39 zi22 (fun m0 t0 n0 o0 v0 => ?_)
  refine asg o0 (fun t0 m0 => ?_)
  refine wpList_nil (x_then_n (j0 _ _ ?_))
  refine wp_seq_k (fun j0 t0 => ?_)
  refine wsc (fun j0 o0 => ?_)
  refine asg m0 (fun j0 f0 => ?_)
  refine wpList_nil (x_then_n (o0 _ _ ?_))
  refine wp_block ?_
  refine wp_loop_ghost (fun gn ga gw => ∃ j : Nat, ∃ Ls : List Sl, ∃ Ao : Option Addr, ∃ co : Nat, (Reg ga 86 [(1, .int .i64 (b)), (2, .int .i64 (fr)), (3, .int .i64 (u)), (10, .pointer (some ⟨i0, 0, none⟩)), (1000000, .bool false), (12, .slice q0 ((bindL (nth t (t.length - 1))).length) p0), (14, .slice d0 c0.length b0), (16, .int .i64 ((j : Nat) : Int)), (15, .slice Ao ((Ls).length) co)]) ∧ (St w0 Z none_ gw [.box i0 32 [.int .i64 (((nth t (t.length - 1)).K)), .int .i64 (((nth t (t.length - 1)).N)), .int .i64 (((nth t (t.length - 1)).M)), .string ((nth t (t.length - 1)).S)], .row Ao ((Ls).length) co 22 1 (encSs Ls)] [dRow 4 tA t.length tc (encNs t), dRow 1 q0 ((bindL (nth t (t.length - 1))).length) p0 (encIs (bindL (nth t (t.length - 1)))), dRow 1 d0 c0.length b0 (encSs c0), dAll c0, dAll Ls]) ∧ (j ≤ c0.length) ∧ (lsts Ls = trTP (shV b fr) t u j) ∧ (trEP (shV b fr) t u j = 0) ∧ (c0.length - j) = gn) _ ⟨0, [], (some ⟨n0, 0, none⟩), 0, (f0.sub (rc rfl (rc rfl (rc rfl (rc rfl (rc rfl (rc rfl (rc rfl (rc rfl (rc rfl rnl)))))))))), v0, by omega, by rw [(tr_zero _ _ _).2]; rfl, (tr_zero _ _ _).1, rfl⟩ ?_
  rintro f0 v0 n0 ⟨j, Ls, Ao, co, b0, d0, hj, hL, hE, p0⟩
  have hrl : c0.length = (ptL t).length := by rw [← lsts_len, u0]
  have hp8 := ptL_le hb
  have hbj : 0 ≤ nthI (bindL (nth t (t.length - 1))) j ∧ nthI (bindL (nth t (t.length - 1))) j ≤ 2 := by rw [hbl]; exact binds_nth j
  have hLn : Ls.length = j := by rw [← lsts_len, hL]; exact trTP_len hb (by omega)
  refine wp_seq_k (fun p0 n0 => ?_)
  refine wsc (fun p0 v0 => ?_)
  refine mv b0 (fun p0 f0 => ?_)
  refine mv f0 (fun p0 b0 => ?_)
  refine r_len sv b0 rfl rfl rfl rfl Tryd.underlying39 (by decide) (fun p0 f0 => ?_)
  refine r_lss sv f0 rfl rfl rfl rfl (by decide) (fun p0 b0 => ?_)
  refine wpList_nil (x_then_n (v0 _ _ ?_))
  rcases Decidable.em (((j : Nat) : Int) < ((c0.length : Nat) : Int)) with v0 | v0
  ·
   obtain ⟨hpe, hpk, hpb, hpl, hps, hp0'⟩ := part_at hb hsm u0 (show j < c0.length by omega)
   have u0 := b0.setb (d := 57) (b := true) rfl (decide_eq_true v0)
   refine wp_cond_true (u0.ev rfl) ?_
   refine wp_skip ?_
   refine x_then_n (n0 _ _ ?_)
   refine wp_seq_k (fun n0 p0 => ?_)
   refine wp_block ?_
   refine wp_seq_k (fun n0 f0 => ?_)
   obtain ⟨n0, q0, o0⟩ := d0.agree
   refine d_reg3 (n := 18) o0 5 pn (pan_then (pan_block (pan_then (pan_then (pan_block (pan_then pan_body)))))) (fun n0 j0 m0 h0 x0 y0 => ?_)
   refine dtM 0 j0 u0 y0 (fun h0 n0 => ?_)
   refine dtM 1 j0 n0 y0 (fun h0 u0 => ?_)
   refine dt 2 rfl j0 u0 (want_n rfl) (fun x hx => m_index (i := j) (j := j * 1) (sy u0) u0 rfl rfl rfl rfl Tryd.underlying39 sz22 (by omega) (by omega) (ss_elem (t := c0) (k := j) (sdat (q0 2 _ rfl) hx.ag).2 (by omega)).some_ rfl (by decide) gt) y0 (fun h0 n0 => ?_)
   refine dt 3 rfl j0 n0 (want_n rfl) (fun x hx => m_loadE (sy n0) n0 rfl rfl rfl 0 (j * 1) (ss_elem (t := c0) (k := j) (sdat (q0 2 _ rfl) hx.ag).2 (by omega)) rfl rfl Tryd.underlying22 rfl (by decide) gt) y0 (fun h0 u0 => ?_)
   have h0 := x0.data (dRow 4 ((nthS c0 j).1) ((nthS c0 j).2.2.length) ((nthS c0 j).2.1) (encNs ((nthS c0 j).2.2))) (all_at (t := c0) (k := j) (x0.get (i := 3) rfl) (by omega))
   refine dtM 4 j0 u0 y0 (fun x0 n0 => ?_)
   refine dtM 5 j0 n0 y0 (fun x0 u0 => ?_)
   refine dtM 6 j0 u0 y0 (fun x0 n0 => ?_)
   refine dtM 7 j0 n0 y0 (fun x0 u0 => ?_)
   refine dtM 8 j0 u0 y0 (fun x0 n0 => ?_)
   refine dt 9 rfl j0 n0 (want_n rfl) (fun x hx => m_index (i := j) (j := j * 1) (sy n0) n0 rfl rfl rfl rfl Tryd.underlying56 sz3 (by omega) (by omega) (ints_elem (t := bindL (nth t (t.length - 1))) (k := j) (sdat (q0 1 _ rfl) hx.ag).2 (by omega)).some_ rfl (by decide) gt) y0 (fun x0 u0 => ?_)
   refine dt 10 rfl j0 u0 (want_n rfl) (fun x hx => m_loadE (sy u0) u0 rfl rfl rfl 0 (j * 1) (ints_elem (t := bindL (nth t (t.length - 1))) (k := j) (sdat (q0 1 _ rfl) hx.ag).2 (by omega)) rfl rfl Tryd.underlying3 rfl (by decide) gt) y0 (fun x0 n0 => ?_)
   refine dt 11 rfl j0 n0 (want_n rfl) (fun x hx => r_add (z := (u + (nthI (bindL (nth t (t.length - 1))) j))) (sy n0) n0 rfl rfl rfl rfl (by decide) (by omega) (by omega) (by omega) gt) y0 (fun x0 u0 => ?_)
   refine d1 12 ?_
   have x0 := h0.nf
   refine k_call (xs := [.tmp 64, .tmp 65, .tmp 66, .tmp 72]) (st_op rfl (want_n rfl)) u0 rfl rfl rfl (by decide) ok23 (ih (((nthS c0 j).2.2).length) (by omega) _ (imm Z w0 [.box i0 32 [.int .i64 (((nth t (t.length - 1)).K)), .int .i64 (((nth t (t.length - 1)).N)), .int .i64 (((nth t (t.length - 1)).M)), .string ((nth t (t.length - 1)).S)], .row Ao ((Ls).length) co 22 1 (encSs Ls)] _) (fun _ h => h.1) _ _ ((nthS c0 j).2.2) (b) (fr) (u + (nthI (bindL (nth t (t.length - 1))) j)) (x0.g 6) (by first | assumption | omega | (simp; done) | (simp; omega)) (by first | assumption | omega | (simp; done) | (simp; omega)) (by first | assumption | omega | (simp; done) | (simp; omega)) (by first | assumption | omega | (simp; done) | (simp; omega)) (by first | assumption | omega | (simp; done) | (simp; omega)) (by first | assumption | omega | (simp; done) | (simp; omega)) (by first | assumption | omega | (simp; done) | (simp; omega)) rfl) ?_
   rintro u0 i0 ⟨h0, n0, rfl, y0, q0⟩
   have i0 := x0.below y0.below
   have y0 := x0.dN i0 q0
   refine ⟨_, rfl, fun i0 q0 => ?_⟩
   have i0 := sWI y0 5 pn
   refine ⟨i0, ?_⟩
   refine dtM 13 j0 q0 i0 (fun x0 u0 => ?_)
   refine dt 14 rfl j0 u0 (want_n rfl) (fun x hx => r_extract (sy u0) u0 rfl rfl rfl rfl (by decide) gt) i0 (fun x0 q0 => ?_)
   refine dt 15 rfl j0 q0 (want_n rfl) (fun x hx => r_extract (sy q0) q0 rfl rfl rfl rfl (by decide) gt) i0 (fun x0 u0 => ?_)
   refine dtA 16 j0 u0 i0 (fun x0 q0 => ?_)
   refine dtA 17 j0 q0 i0 (fun x0 u0 => ?_)
   refine wpAnyH_done (by kernel_rfl) (m0 _ _ ?_) _
   refine x_then_n (f0 _ _ ?_)
   refine wp_seq_k (fun f0 m0 => ?_)
   refine wsc (fun f0 x0 => ?_)
   refine mv u0 (fun f0 q0 => ?_)
   refine r_neq sv q0 rfl rfl rfl rfl (by decide) (fun f0 u0 => ?_)
   refine wpList_nil (x_then_n (x0 _ _ ?_))
   rcases Decidable.em (((trEL (shV (b) (fr)) ((nthS c0 j).2.2) (u + (nthI (bindL (nth t (t.length - 1))) j)))) = 0) with x0 | x0
   ·
    obtain ⟨hs1, hs2⟩ := tr_step (V := shV b fr) (u := u) hb hpk hE (by rw [← hpe, ← hbl]; exact x0)
    have f0 := u0.setb (d := 77) (b := false) rfl (by rw [(decide_eq_true x0)]; rfl)
    refine wp_cond_false (f0.ev rfl) ?_
    refine wp_skip ?_
    refine x_then_n (m0 _ _ ?_)
    refine c_region ?_
    refine mv f0 (fun m0 q0 => ?_)
    refine mv q0 (fun m0 f0 => ?_)
    have m0 := y0.data (dAll [((h0, n0, trL (shV (b) (fr)) ((nthS c0 j).2.2) (u + (nthI (bindL (nth t (t.length - 1))) j))) : Sl)]) (all_cons (y0.get (i := 7) rfl) all_nil)
    refine mbs [(0, .tmp 80)] [.slice h0 ((trL (shV (b) (fr)) ((nthS c0 j).2.2) (u + (nthI (bindL (nth t (t.length - 1))) j))).length) n0] sv f0 m0 Tryd.underlying39 zi22 (fun q0 i0 j0 o0 z0 => ?_)
    refine m_appendF (f := encS) (i := 1) (Ls) ([((h0, n0, trL (shV (b) (fr)) ((nthS c0 j).2.2) (u + (nthI (bindL (nth t (t.length - 1))) j))) : Sl)]) sv o0 z0 rfl rfl rfl rfl rfl encS_len (encS_one _) Tryd.underlying39 zi22 rfl rfl (own_lnews (f := encS) (z0.res (i := 2) rfl)) rfl (by first | omega | (simp only [List.length_cons, List.length_nil]; omega)) (by decide) (fun j0 i0 q0 m0 f0 b1 c1 => ?_)
    have f0 : (Ls ++ ([((h0, n0, trL (shV (b) (fr)) ((nthS c0 j).2.2) (u + (nthI (bindL (nth t (t.length - 1))) j))) : Sl)]) : List Sl).length = (Ls).length + 1 := by first | (simp only [List.length_append, List.length_take, List.length_cons, List.length_nil]; done) | (simp only [List.length_append, List.length_take, List.length_cons, List.length_nil]; omega)
    have f0 := c1.erase 2
    have c1 := f0.data (dAll (Ls ++ ([((h0, n0, trL (shV (b) (fr)) ((nthS c0 j).2.2) (u + (nthI (bindL (nth t (t.length - 1))) j))) : Sl)]))) (all_append (f0.get (i := 4) rfl) (f0.get (i := 8) rfl))
    refine asg b1 (fun f0 i0 => ?_)
    refine wpList_nil ?_
    refine x_block_n ?_
    refine x_then_n (p0 _ _ ?_)
    refine c_region ?_
    refine mv i0 (fun p0 f0 => ?_)
    refine r_add (z := ((j + 1 : Nat) : Int)) sv f0 rfl rfl rfl rfl (by decide) (by omega) (by omega) (by omega) (fun p0 i0 => ?_)
    refine asg i0 (fun p0 f0 => ?_)
    refine wpList_nil ?_
    have p0 := c1.forget 8
    have c1 := p0.forget 7
    have p0 := c1.forget 6
    have c1 := p0.forget 5
    have p0 := c1.forget 4
    exact ⟨_, by omega, j + 1, Ls ++ ([((h0, n0, trL (shV (b) (fr)) ((nthS c0 j).2.2) (u + (nthI (bindL (nth t (t.length - 1))) j))) : Sl)]), q0, m0, (f0.sub (rc rfl (rc rfl (rc rfl (rc rfl (rc rfl (rc rfl (rc rfl (rc rfl (rc rfl rnl)))))))))), p0, by omega, (by rw [lsts_app, lsts_one, hL, hs2, hpe, hbl]), hs1, rfl⟩
   ·
    obtain ⟨hs1, hs2⟩ := tr_bad (V := shV b fr) (u := u) hb hpk hE (by rw [← hpe, ← hbl]; exact x0)
    have p0 := u0.setb (d := 77) (b := true) rfl (by rw [(decide_eq_false x0)]; rfl)
    refine wp_cond_true (p0.ev rfl) ?_
    refine wsc (fun x0 u0 => ?_)
    refine mv p0 (fun x0 f0 => ?_)
    refine asg f0 (fun x0 p0 => ?_)
    refine asg p0 (fun x0 f0 => ?_)
    refine wpList_nil (x_then_n (u0 _ _ ?_))
    refine wp_ret ?_
    refine x_then_r ?_
    refine x_block_r ?_
    refine x_then_r ?_
    refine x_then_r ?_
    refine x_block_r ?_
    refine x_then_r ?_
    refine e_ret2 f0 rfl rfl rfl rfl ?_
    have f0 : trL (shV b fr) t u = [] := by first | exact (sh_low hb (by omega) (by omega) (by omega)).2 | exact (sh_high hb (by omega) (by omega) (by omega) (by omega)).2 | exact hs2
    rw [f0]
    refine ⟨none, 0, ?_, y0.fr, ⟨Nat.le_refl _, RowI.nil _ _ _ _⟩⟩
    exact ret_t2 rfl (ret_i (by first | omega | (rw [(sh_low hb (by omega) (by omega) (by omega)).1]) | (rw [(sh_high hb (by omega) (by omega) (by omega) (by omega)).1]) | (rw [(sh_good hb (by omega) (by omega) (by omega) (by omega)).1]) | (rw [hs1, hpe, hbl]; done) | (rw [k0]; done)))
  ·
   have hj2 : j = (ptL t).length := by omega
   rw [hj2] at hE hL
   have hvv : (nth t (t.length - 1)).K = 0 → (shV b fr) (nth t (t.length - 1)) u = (0, .mk (nth t (t.length - 1)) []) := by intro hk; unfold shV; rw [if_neg (by omega)]
   obtain ⟨k0, y0⟩ := tr_end hb hvv hE
   have hdn := tr_nm (V := shV b fr) (b := 1) (by omega) (fun n u _ => shV_len _ _ n u) hb hvv hE
   have f0 := b0.setb (d := 57) (b := false) rfl (decide_eq_false v0)
   refine wp_cond_false (f0.ev rfl) ?_
   refine wp_exit ?_
   refine x_then_e ?_
   refine x_then_e ?_
   refine x_block_eq ?_
   refine x_then_n (t0 _ _ ?_)
   refine wsc (fun t0 v0 => ?_)
   refine m_loadN (i := 0) (vs := [.int .i64 (((nth t (t.length - 1)).K)), .int .i64 (((nth t (t.length - 1)).N)), .int .i64 (((nth t (t.length - 1)).M)), .string ((nth t (t.length - 1)).S)]) sv f0 d0 rfl rfl rfl rfl rfl Tryd.underlying32 rfl sz32 (by decide) (fun t0 b0 => ?_)
   refine mv b0 (fun t0 f0 => ?_)
   have t0 := d0.nf
   have d0 := own_cap (t0.res (i := 1) rfl)
   obtain ⟨b0, u0⟩ := t0.row_data (i := 1) rfl (fun _ h => h)
   have t0 := b0.data (dRow 1 Ao ((Ls).length) co (encSs Ls)) ⟨d0, u0⟩
   refine k_call (xs := [.tmp 83, .tmp 84]) se f0 rfl rfl rfl (by decide) ok16 (rof_calls _ _ t0.il (nth t (t.length - 1)) _ _ _ (t0.g 5) (t0.g 4) (hl := (by omega)) (hb := (by rw [hL]; omega))) ?_
   rintro f0 u0 ⟨b0, d0, rfl, x0, p0⟩
   have u0 := t0.below x0.below
   have x0 := t0.dN u0 p0
   refine ⟨_, rfl, fun u0 p0 => ?_⟩
   refine asg p0 (fun u0 t0 => ?_)
   refine asg t0 (fun u0 p0 => ?_)
   refine wpList_nil (x_then_n (v0 _ _ ?_))
   refine wp_ret ?_
   refine e_ret2 p0 rfl rfl rfl rfl ?_
   have p0 : trL (shV b fr) t u = (lsts Ls).flatten ++ [(nth t (t.length - 1))] := by rw [y0, hL]
   rw [p0]
   refine ⟨b0, d0, ?_, x0.fr, x0.rx 6⟩
   exact ret_t2 rfl (ret_i (by first | omega | (rw [(sh_low hb (by omega) (by omega) (by omega)).1]) | (rw [(sh_high hb (by omega) (by omega) (by omega) (by omega)).1]) | (rw [(sh_good hb (by omega) (by omega) (by omega) (by omega)).1]) | (rw [hs1, hpe, hbl]; done) | (rw [k0]; done)))
theorem rshift_calls (w0 : World) (Z : Nat → Prop) (hZ : ∀ k, Z k → k < w0.heap.size) (tA : Option Addr) (tc : Nat) (t : List Nd) (b : Int) (fr : Int) (u : Int) (ht : (dRow 4 tA t.length tc (encNs t)).φ w0 Z) (hl : t.length ≤ 1000000 := by first | assumption | omega | (simp; done) | (simp; omega)) (hsm : sml t := by first | assumption | omega | (simp; done) | (simp; omega)) (hb : measB t = true := by first | assumption | omega | (simp; done) | (simp; omega)) (hu0 : 0 ≤ u := by first | assumption | omega | (simp; done) | (simp; omega)) (hub : u + 2 * t.length ≤ 10000000 := by first | assumption | omega | (simp; done) | (simp; omega)) (hb1 : -1000000 ≤ b := by first | assumption | omega | (simp; done) | (simp; omega)) (hb2 : b ≤ 1000000 := by first | assumption | omega | (simp; done) | (simp; omega)) :
    Calls Tryd.prog 23 [.slice tA t.length tc, .int .i64 b, .int .i64 fr, .int .i64 u].toArray w0 (fun e w' => ∃ (rA0 : Option Addr) (rc0 : Nat), e = .returned (.tuple #[.slice rA0 (trL (shV b fr) t u).length rc0, .int .i64 (trEL (shV b fr) t u)]) ∧ Fr none_ w0 w' ∧ (dRow 4 rA0 ((trL (shV b fr) t u).length) rc0 (encNs (trL (shV b fr) t u))).φ w' (nxt Z w0 w')) := rshift_calls_rec _ w0 Z hZ tA tc t b fr u ht hl hsm hb hu0 hub hb1 hb2 rfl
set_option maxRecDepth 100000 in
set_option maxHeartbeats 1000000 in
theorem rShift_calls (w0 : World) (Z : Nat → Prop) (hZ : ∀ k, Z k → k < w0.heap.size) (tA : Option Addr) (tc : Nat) (t : List Nd) (b : Int) (fr : Int) (ht : (dRow 4 tA t.length tc (encNs t)).φ w0 Z) (hl : t.length ≤ 1000000 := by first | assumption | omega | (simp; done) | (simp; omega)) (hsm : sml t := by first | assumption | omega | (simp; done) | (simp; omega)) :
    Calls Tryd.prog 15 [.slice tA t.length tc, .int .i64 b, .int .i64 fr].toArray w0 (fun e w' => ∃ (rA0 : Option Addr) (rc0 : Nat), e = .returned (.tuple #[.slice rA0 (sfA t b fr).length rc0, .int .i64 (sfE t b fr)]) ∧ Fr none_ w0 w' ∧ (dRow 4 rA0 ((sfA t b fr).length) rc0 (encNs (sfA t b fr))).φ w' (nxt Z w0 w')) := by
 have b0 := s0 (M := none_) hZ (zc ht zn)
 refine c_enter Tryd.func15 rfl Tryd.ntmps15 rfl (fun c0 d0 => ?_)
 refine wsc (fun c0 f0 => ?_)
 refine asg d0 (fun c0 h0 => ?_)
 refine asg h0 (fun c0 d0 => ?_)
 refine wpList_nil (x_then_n (f0 _ _ ?_))
 refine wsc (fun f0 c0 => ?_)
 refine mv d0 (fun f0 h0 => ?_)
 have f0 := b0.nf
 refine k_call (xs := [.tmp 9]) se h0 rfl rfl rfl (by decide) ok10 (rcheck_calls _ _ f0.il _ _ _ (f0.g 0)) ?_
 rintro h0 b0 ⟨rfl, d0⟩
 have b0 := f0.below d0.below
 refine ⟨_, rfl, fun d0 f0 => ?_⟩
 refine asg f0 (fun d0 h0 => ?_)
 refine wpList_nil (x_then_n (c0 _ _ ?_))
 refine wp_seq_k (fun c0 d0 => ?_)
 refine wsc (fun c0 f0 => ?_)
 refine mv h0 (fun c0 i0 => ?_)
 refine r_neq sv i0 rfl rfl rfl rfl (by decide) (fun c0 h0 => ?_)
 refine wpList_nil (x_then_n (f0 _ _ ?_))
 rcases Decidable.em (((chk t)) = 0) with f0 | f0
 ·
  have c0 := h0.setb (d := 12) (b := false) rfl (by rw [(decide_eq_true f0)]; rfl)
  refine wp_cond_false (c0.ev rfl) ?_
  refine wp_skip ?_
  refine x_then_n (d0 _ _ ?_)
  refine wsc (fun d0 i0 => ?_)
  refine mv c0 (fun d0 j0 => ?_)
  refine mv j0 (fun d0 c0 => ?_)
  have d0 := b0.nf
  refine k_call (xs := [.tmp 15]) se c0 rfl rfl rfl (by decide) ok24 (rclamp_calls _ _ d0.il (b)) ?_
  rintro c0 j0 ⟨rfl, k0⟩
  have j0 := d0.below k0.below
  refine ⟨_, rfl, fun k0 d0 => ?_⟩
  refine mv d0 (fun k0 c0 => ?_)
  have k0 := j0.nf
  refine k_call (xs := [.tmp 17]) se c0 rfl rfl rfl (by decide) ok24 (rclamp_calls _ _ k0.il (fr)) ?_
  rintro c0 j0 ⟨rfl, d0⟩
  have j0 := k0.below d0.below
  refine ⟨_, rfl, fun d0 k0 => ?_⟩
  refine r_max sv k0 rfl rfl rfl rfl rfl (by decide) (fun d0 c0 => ?_)
  have d0 := j0.nf
  refine k_call (xs := [.tmp 14, .tmp 16, .tmp 19, .const (.int .i64 0)]) se c0 rfl rfl rfl (by decide) ok23 (rshift_calls _ _ d0.il _ _ _ ((clamp (b))) ((max 0 ((clamp (fr))))) 0 (d0.g 0) (hl := hl) (hsm := hsm) (hb := (meas_chk (by omega))) (hu0 := (by omega)) (hub := (by omega)) (hb1 := (by unfold clamp; omega)) (hb2 := (by unfold clamp; omega))) ?_
  rintro c0 j0 ⟨k0, m0, rfl, n0, o0⟩
  have j0 := d0.below n0.below
  have n0 := d0.dN j0 o0
  refine ⟨_, rfl, fun j0 o0 => ?_⟩
  refine r_extract sv o0 rfl rfl rfl rfl (by decide) (fun j0 d0 => ?_)
  refine r_extract sv d0 rfl rfl rfl rfl (by decide) (fun j0 o0 => ?_)
  refine asg o0 (fun j0 d0 => ?_)
  refine asg d0 (fun j0 o0 => ?_)
  refine wpList_nil (x_then_n (i0 _ _ ?_))
  refine wp_ret ?_
  refine e_ret2 o0 rfl rfl rfl rfl ?_
  have o0 : sfA t b fr = trL (shV ((clamp (b))) ((max 0 ((clamp (fr)))))) t 0 := (sfE_ok (by omega)).2
  rw [o0]
  refine ⟨k0, m0, ?_, n0.fr, n0.rx 1⟩
  exact ret_t2 rfl (ret_i (by first | (rw [(sfE_no (by omega)).1]; done) | (rw [(sfE_ok (by omega)).1]; done)))
 ·
  have n0 := h0.setb (d := 12) (b := true) rfl (by rw [(decide_eq_false f0)]; rfl)
  refine wp_cond_true (n0.ev rfl) ?_
  refine wsc (fun f0 h0 => ?_)
  refine mv n0 (fun f0 m0 => ?_)
  refine asg m0 (fun f0 n0 => ?_)
  refine asg n0 (fun f0 m0 => ?_)
  refine wpList_nil (x_then_n (h0 _ _ ?_))
  refine wp_ret ?_
  refine x_then_r ?_
  refine e_ret2 m0 rfl rfl rfl rfl ?_
  have m0 : sfA t b fr = [] := (sfE_no (by omega)).2
  rw [m0]
  refine ⟨none, 0, ?_, b0.fr, ⟨Nat.le_refl _, RowI.nil _ _ _ _⟩⟩
  exact ret_t2 rfl (ret_i (by first | (rw [(sfE_no (by omega)).1]; done) | (rw [(sfE_ok (by omega)).1]; done)))
end Go.Proofs.YthdemmcfnpmmiaaDoor
/- Contracts of functions, one theorem each: what the call returns, and that nothing old is changed. Printed by gen.py. -/
namespace Go.Proofs.YthdemmcfnpmmiaaDoor
open Go Go.RowKit
set_option linter.unusedSimpArgs false
set_option linter.unusedVariables false
set_option maxRecDepth 100000 in
set_option maxHeartbeats 1000000 in
theorem rdeep_calls_rec (rn : Nat) : ∀ (w0 : World) (Z : Nat → Prop) (hZ : ∀ k, Z k → k < w0.heap.size) (tA : Option Addr) (tc : Nat) (t : List Nd) (ht : (dRow 4 tA t.length tc (encNs t)).φ w0 Z) (hl : t.length ≤ 1000000) (hsm : sml t) (hb : measB t = true) (hrn : t.length = rn),
    Calls Tryd.prog 12 [.slice tA t.length tc].toArray w0 (fun e w' => e = .returned (.int .i64 ((dpL t : Nat) : Int)) ∧ Fr none_ w0 w') := by
 induction rn using Nat.strongRecOn
 rename_i rn ih
 intro w0 Z hZ tA tc t ht hl hsm hb hrn
 have b0 := s0 (M := none_) hZ (zc ht zn)
 have hp0 := meas_pos hb
 have hdp := fun j => dpP_le hb j
 refine c_enter Tryd.func12 rfl Tryd.ntmps12 rfl (fun c0 d0 => ?_)
 refine wsc (fun c0 f0 => ?_)
 refine asg d0 (fun c0 h0 => ?_)
 refine wpList_nil (x_then_n (f0 _ _ ?_))
 refine wsc (fun f0 c0 => ?_)
 refine mv h0 (fun f0 d0 => ?_)
 have f0 := b0.nf
 refine k_call (xs := [.tmp 6]) se d0 rfl rfl rfl (by decide) ok21 (rparts_calls _ _ f0.il _ _ _ (f0.g 0)) ?_
 rintro d0 b0 ⟨h0, i0, j0, rfl, k0, m0, n0, o0⟩
 have b0 := f0.below k0.below
 have k0 := f0.dN b0 m0
 have b0 := f0.dN k0 n0
 refine ⟨_, rfl, fun k0 n0 => ?_⟩
 refine asg n0 (fun k0 f0 => ?_)
 refine wpList_nil (x_then_n (c0 _ _ ?_))
 refine wsc (fun c0 k0 => ?_)
 refine asg f0 (fun c0 n0 => ?_)
 refine wpList_nil (x_then_n (k0 _ _ ?_))
 refine wp_seq_k (fun k0 c0 => ?_)
 refine wsc (fun k0 f0 => ?_)
 refine asg n0 (fun k0 m0 => ?_)
 refine wpList_nil (x_then_n (f0 _ _ ?_))
 refine wp_block ?_
 refine wp_loop_ghost (fun gn ga gw => ∃ j : Nat, (Reg ga 23 [(1000000, .bool false), (2, .int .i64 0), (3, .slice h0 j0.length i0), (5, .int .i64 ((j : Nat) : Int)), (4, .int .i64 ((dpP t j : Nat) : Int))]) ∧ (St w0 Z none_ gw [] [dRow 4 tA t.length tc (encNs t), dRow 1 h0 j0.length i0 (encSs j0), dAll j0]) ∧ (j ≤ j0.length) ∧ (j0.length - j) = gn) _ ⟨0, (m0.sub (rc rfl (rc rfl (rc rfl (rc rfl (rc (ri rfl (by rw [dpP_zero]; rfl)) rnl)))))), b0, by omega, rfl⟩ ?_
 rintro m0 b0 i0 ⟨j, h0, f0, hj, k0⟩
 have hrl : j0.length = (ptL t).length := by rw [← lsts_len, o0]
 have hp8 := ptL_le hb
 have hdj := hdp j
 refine wp_seq_k (fun k0 i0 => ?_)
 refine wsc (fun k0 b0 => ?_)
 refine mv h0 (fun k0 m0 => ?_)
 refine mv m0 (fun k0 h0 => ?_)
 refine r_len sv h0 rfl rfl rfl rfl Tryd.underlying39 (by decide) (fun k0 m0 => ?_)
 refine r_lss sv m0 rfl rfl rfl rfl (by decide) (fun k0 h0 => ?_)
 refine wpList_nil (x_then_n (b0 _ _ ?_))
 rcases Decidable.em (((j : Nat) : Int) < ((j0.length : Nat) : Int)) with b0 | b0
 ·
  obtain ⟨hpe, hpk, hpb, hpl, hps, hp0'⟩ := part_at hb hsm o0 (show j < j0.length by omega)
  have o0 := h0.setb (d := 11) (b := true) rfl (decide_eq_true b0)
  refine wp_cond_true (o0.ev rfl) ?_
  refine wp_skip ?_
  refine x_then_n (i0 _ _ ?_)
  refine wp_seq_k (fun i0 k0 => ?_)
  refine wp_block ?_
  refine c_region ?_
  refine mv o0 (fun i0 m0 => ?_)
  refine mv m0 (fun i0 o0 => ?_)
  refine mv o0 (fun i0 m0 => ?_)
  refine m_index (i := j) (j := j * 1) sv m0 rfl rfl rfl rfl Tryd.underlying39 sz22 (by omega) (by omega) (ss_elem (t := j0) (k := j) (f0.row (i := 1) rfl).2 (by omega)).some_ rfl (by decide) (fun i0 o0 => ?_)
  refine m_loadE sv o0 rfl rfl rfl 0 (j * 1) (ss_elem (t := j0) (k := j) (f0.row (i := 1) rfl).2 (by omega)) rfl rfl Tryd.underlying22 rfl (by decide) (fun i0 m0 => ?_)
  have i0 := f0.data (dRow 4 ((nthS j0 j).1) ((nthS j0 j).2.2.length) ((nthS j0 j).2.1) (encNs ((nthS j0 j).2.2))) (all_at (t := j0) (k := j) (f0.get (i := 2) rfl) (by omega))
  have o0 := i0.nf
  refine k_call (xs := [.tmp 18]) se m0 rfl rfl rfl (by decide) ok12 (ih (((nthS j0 j).2.2).length) (by omega) _ (imm Z w0 [] _) (fun _ h => h.1) _ _ ((nthS j0 j).2.2) (o0.g 3) (by first | assumption | omega | (simp; done) | (simp; omega)) (by first | assumption | omega | (simp; done) | (simp; omega)) (by first | assumption | omega | (simp; done) | (simp; omega)) rfl) ?_
  rintro m0 j0 ⟨rfl, i0⟩
  have j0 := o0.below i0.below
  refine ⟨_, rfl, fun i0 o0 => ?_⟩
  refine r_max sv o0 rfl rfl rfl rfl rfl (by decide) (fun i0 m0 => ?_)
  refine asg m0 (fun i0 o0 => ?_)
  refine wpList_nil ?_
  refine x_block_n ?_
  refine x_then_n (k0 _ _ ?_)
  refine c_region ?_
  refine mv o0 (fun k0 i0 => ?_)
  refine r_add (z := ((j + 1 : Nat) : Int)) sv i0 rfl rfl rfl rfl (by decide) (by omega) (by omega) (by omega) (fun k0 o0 => ?_)
  refine asg o0 (fun k0 i0 => ?_)
  refine wpList_nil ?_
  have k0 := j0.forget 3
  exact ⟨_, by omega, j + 1, (i0.sub (rc rfl (rc rfl (rc rfl (rc rfl (rc (ri rfl (by rw [dpP_step hb hpk, hpe]; try omega)) rnl)))))), k0, by omega, rfl⟩
 ·
  have k0 := h0.setb (d := 11) (b := false) rfl (decide_eq_false b0)
  refine wp_cond_false (k0.ev rfl) ?_
  refine wp_exit ?_
  refine x_then_e ?_
  refine x_then_e ?_
  refine x_block_eq ?_
  refine x_then_n (c0 _ _ ?_)
  refine wsc (fun c0 b0 => ?_)
  refine mv k0 (fun c0 h0 => ?_)
  refine r_add (z := ((dpP t j + 1 : Nat) : Int)) sv h0 rfl rfl rfl rfl (by decide) (by omega) (by omega) (by omega) (fun c0 k0 => ?_)
  refine asg k0 (fun c0 h0 => ?_)
  refine wpList_nil (x_then_n (b0 _ _ ?_))
  refine wp_ret ?_
  refine e_ret1 h0 rfl rfl rfl ?_
  refine ⟨?_, f0.fr⟩
  exact congrArg Ending.returned (ret_i (by (rw [dpL_all hb, show (ptL t).length = j by omega]; try omega)))
theorem rdeep_calls (w0 : World) (Z : Nat → Prop) (hZ : ∀ k, Z k → k < w0.heap.size) (tA : Option Addr) (tc : Nat) (t : List Nd) (ht : (dRow 4 tA t.length tc (encNs t)).φ w0 Z) (hl : t.length ≤ 1000000 := by first | assumption | omega | (simp; done) | (simp; omega)) (hsm : sml t := by first | assumption | omega | (simp; done) | (simp; omega)) (hb : measB t = true := by first | assumption | omega | (simp; done) | (simp; omega)) :
    Calls Tryd.prog 12 [.slice tA t.length tc].toArray w0 (fun e w' => e = .returned (.int .i64 ((dpL t : Nat) : Int)) ∧ Fr none_ w0 w') := rdeep_calls_rec _ w0 Z hZ tA tc t ht hl hsm hb rfl
end Go.Proofs.YthdemmcfnpmmiaaDoor
/- Contracts of functions, one theorem each: what the call returns, and that nothing old is changed. Printed by gen.py. -/
namespace Go.Proofs.YthdemmcfnpmmiaaDoor
open Go Go.RowKit
set_option linter.unusedSimpArgs false
set_option linter.unusedVariables false
set_option maxRecDepth 100000 in
set_option maxHeartbeats 1000000 in
theorem rcount_calls_rec (rn : Nat) : ∀ (w0 : World) (Z : Nat → Prop) (hZ : ∀ k, Z k → k < w0.heap.size) (tA : Option Addr) (tc : Nat) (t : List Nd) (k : Int) (u : Int) (ht : (dRow 4 tA t.length tc (encNs t)).φ w0 Z) (hl : t.length ≤ 1000000) (hsm : sml t) (hb : measB t = true) (hu0 : 0 ≤ u) (hub : u + 2 * t.length ≤ 10000000) (hrn : t.length = rn),
    Calls Tryd.prog 22 [.slice tA t.length tc, .int .i64 k, .int .i64 u].toArray w0 (fun e w' => e = .returned (.tuple #[.int .i64 ((usL t k u : Nat) : Int), .int .i64 (moL t k u)]) ∧ Fr none_ w0 w') := by
 induction rn using Nat.strongRecOn
 rename_i rn ih
 intro w0 Z hZ tA tc t k u ht hl hsm hb hu0 hub hrn
 have b0 := s0 (M := none_) hZ (zc ht zn)
 have hp0 := meas_pos hb
 have hrt := right_at hb (show t.length - 1 < t.length by omega)
 have hbl := bindL_right hrt
 have hbm := bindL_many hrt
 have hpm := ptL_length hb
 refine c_enter Tryd.func22 rfl Tryd.ntmps22 rfl (fun c0 d0 => ?_)
 refine wsc (fun c0 f0 => ?_)
 refine asg d0 (fun c0 h0 => ?_)
 refine asg h0 (fun c0 d0 => ?_)
 refine wpList_nil (x_then_n (f0 _ _ ?_))
 refine wsc (fun f0 c0 => ?_)
 refine mv d0 (fun f0 h0 => ?_)
 have f0 := b0.nf
 refine k_call (xs := [.tmp 18]) se h0 rfl rfl rfl (by decide) ok14 (rroot_calls _ _ f0.il _ _ _ (f0.g 0)) ?_
 rintro h0 b0 ⟨rfl, d0⟩
 have b0 := f0.below d0.below
 refine ⟨_, rfl, fun d0 f0 => ?_⟩
 refine m_alloc (cs := [.int .i64 0, .int .i64 0, .int .i64 0, .string (⟨#[]⟩ : ByteArray)]) sv f0 b0 rfl rfl ze32 rfl (by decide) (fun d0 h0 i0 j0 k0 => ?_)
 refine m_store (i := 0) (cs' := [.int .i64 (((nth t (t.length - 1)).K)), .int .i64 (((nth t (t.length - 1)).N)), .int .i64 (((nth t (t.length - 1)).M)), .string ((nth t (t.length - 1)).S)]) se j0 k0 rfl rfl rfl rfl rfl sz32 rfl rfl rfl (fun h0 d0 f0 b0 => ?_)
 refine wpList_nil (x_then_n (c0 _ _ ?_))
 refine wp_seq_k (fun c0 d0 => ?_)
 refine wsc (fun c0 h0 => ?_)
 refine m_field (j' := 0) sv f0 rfl rfl rfl Tryd.underlying32 rfl sz3 rfl rfl (by decide) (fun c0 k0 => ?_)
 refine m_load (i := 0) sv k0 b0 rfl rfl rfl rfl rfl Tryd.underlying3 rfl (by decide) (fun c0 f0 => ?_)
 refine r_eql sv f0 rfl rfl rfl rfl (by decide) (fun c0 k0 => ?_)
 refine wpList_nil (x_then_n (h0 _ _ ?_))
 rcases Decidable.em ((((nth t (t.length - 1)).K)) = 0) with h0 | h0
 ·
  obtain ⟨c0, f0⟩ := var_at hb (by omega)
  have f0 := k0.setb (d := 22) (b := true) rfl (decide_eq_true h0)
  refine wp_cond_true (f0.ev rfl) ?_
  refine wsc (fun c0 j0 => ?_)
  refine m_field (j' := 1) sv f0 rfl rfl rfl Tryd.underlying32 rfl sz3 rfl rfl (by decide) (fun c0 m0 => ?_)
  refine m_load (i := 0) sv m0 b0 rfl rfl rfl rfl rfl Tryd.underlying3 rfl (by decide) (fun c0 f0 => ?_)
  refine mv f0 (fun c0 m0 => ?_)
  refine r_sub (z := (((nth t (t.length - 1)).N) - u)) sv m0 rfl rfl rfl rfl (by decide) (by omega) (by omega) (by omega) (fun c0 f0 => ?_)
  refine asg f0 (fun c0 m0 => ?_)
  refine wpList_nil (x_then_n (j0 _ _ ?_))
  refine wp_seq_k (fun j0 c0 => ?_)
  refine wsc (fun j0 f0 => ?_)
  refine mv m0 (fun j0 n0 => ?_)
  refine r_geq sv n0 rfl rfl rfl rfl (by decide) (fun j0 m0 => ?_)
  refine mv m0 (fun j0 n0 => ?_)
  refine l_join (fun ga gw => Reg ga 75 [(0, .slice tA t.length tc), (1, .int .i64 (k)), (2, .int .i64 (u)), (6, .int .i64 0), (7, .int .i64 0), (8, .pointer (some ⟨i0, 0, none⟩)), (9, .int .i64 (((nth t (t.length - 1)).N) - u)), (37, .bool ((decide (0 ≤ (((nth t (t.length - 1)).N) - u))) && ((decide ((k) < 0)) || (decide ((((nth t (t.length - 1)).N) - u) = (k)))))), (1000000, .bool false)] ∧ St w0 Z none_ gw [.box i0 32 [.int .i64 (((nth t (t.length - 1)).K)), .int .i64 (((nth t (t.length - 1)).N)), .int .i64 (((nth t (t.length - 1)).M)), .string ((nth t (t.length - 1)).S)]] [dRow 4 tA t.length tc (encNs t)]) 8 ?_ ?_
  ·
   rcases Decidable.em (0 ≤ (((nth t (t.length - 1)).N) - u)) with j0 | j0
   ·
    have m0 := n0.setb (d := 29) (b := true) rfl (decide_eq_true j0)
    refine r_move (st_listV_w (wt m0)) m0 rfl rfl rfl (by decide) (fun o0 p0 => ?_)
    refine r_lss (st_listV_w (wt p0)) p0 rfl rfl rfl rfl (by decide) (fun o0 m0 => ?_)
    refine r_move (st_listV_w (wt m0)) m0 rfl rfl rfl (by decide) (fun o0 p0 => ?_)
    rcases Decidable.em ((k) < 0) with o0 | o0
    ·
     have m0 := p0.setb (d := 32) (b := true) rfl (decide_eq_true o0)
     refine sps m0 (wff m0) (fun q0 t0 => ?_)
     refine sps t0 (wff t0) (fun q0 m0 => ?_)
     refine sps m0 (wff m0) (fun q0 t0 => ?_)
     refine r_pick_t (st_listV_w (wt t0)) t0 rfl rfl rfl rfl (by decide) (fun q0 m0 => ?_)
     refine r_pick_t sv m0 rfl rfl rfl rfl (by decide) (fun q0 t0 => ?_)
     refine wpList_nil ?_
     exact x_then_n ⟨(t0.sub (rc rfl (rc rfl (rc rfl (rc rfl (rc rfl (rc rfl (rc rfl (rc (rb rfl (by (simp only [decide_eq_true j0, if_pos j0, decide_eq_true o0, if_pos o0, bl]; done))) (rc rfl rnl)))))))))), b0⟩
    ·
     have t0 := p0.setb (d := 32) (b := false) rfl (decide_eq_false o0)
     refine r_move (st_listV_w (wt t0)) t0 rfl rfl rfl (by decide) (fun p0 q0 => ?_)
     refine r_move (st_listV_w (wt q0)) q0 rfl rfl rfl (by decide) (fun p0 t0 => ?_)
     refine r_eql (st_listV_w (wt t0)) t0 rfl rfl rfl rfl (by decide) (fun p0 q0 => ?_)
     refine r_pick_f (st_listV_w (wt q0)) q0 rfl rfl rfl rfl (by decide) (fun p0 t0 => ?_)
     refine r_pick_t sv t0 rfl rfl rfl rfl (by decide) (fun p0 q0 => ?_)
     refine wpList_nil ?_
     exact x_then_n ⟨(q0.sub (rc rfl (rc rfl (rc rfl (rc rfl (rc rfl (rc rfl (rc rfl (rc (rb rfl (by (simp only [decide_eq_true j0, if_pos j0, decide_eq_false o0, if_neg o0, bl]; done))) (rc rfl rnl)))))))))), b0⟩
   ·
    have q0 := n0.setb (d := 29) (b := false) rfl (decide_eq_false j0)
    refine sps q0 (wff q0) (fun n0 o0 => ?_)
    refine sps o0 (wff o0) (fun n0 q0 => ?_)
    refine sps q0 (wff q0) (fun n0 o0 => ?_)
    refine sps o0 (wu o0) (fun n0 q0 => ?_)
    refine sps q0 (wu q0) (fun n0 o0 => ?_)
    refine sps o0 (wu o0) (fun n0 q0 => ?_)
    refine sps q0 (wff q0) (fun n0 o0 => ?_)
    refine r_pick_f sv o0 rfl rfl rfl rfl (by decide) (fun n0 q0 => ?_)
    refine wpList_nil ?_
    exact x_then_n ⟨(q0.sub (rc rfl (rc rfl (rc rfl (rc rfl (rc rfl (rc rfl (rc rfl (rc (rb rfl (by (simp only [decide_eq_false j0, if_neg j0, bl]; done))) (rc rfl rnl)))))))))), b0⟩
  rintro q0 j0 ⟨n0, o0⟩
  refine wpList_nil (x_then_n (f0 _ _ ?_))
  rcases Bool.eq_false_or_eq_true (((decide (0 ≤ (((nth t (t.length - 1)).N) - u))) && ((decide ((k) < 0)) || (decide ((((nth t (t.length - 1)).N) - u) = (k)))))) with f0 | f0
  ·
   have j0 := and_tl f0
   have q0 := of_decide_eq_true j0
   have q0 := and_tr f0
   have j0 := q0
   try simp only [Bool.or_eq_true, Bool.and_eq_true, Bool.not_eq_true', Bool.not_eq_false', decide_eq_true_eq, decide_eq_false_iff_not, Bool.or_eq_false_iff, Bool.and_eq_false_iff] at j0
   have j0 := n0.setb (d := 37) (b := true) rfl f0
   refine wp_cond_true (j0.ev rfl) ?_
   refine wsc (fun q0 p0 => ?_)
   refine mv j0 (fun q0 t0 => ?_)
   refine asg t0 (fun q0 j0 => ?_)
   refine asg j0 (fun q0 t0 => ?_)
   refine wpList_nil (x_then_n (p0 _ _ ?_))
   refine wp_ret ?_
   refine x_then_r ?_
   refine x_then_r ?_
   refine e_ret2 t0 rfl rfl rfl rfl ?_
   refine ⟨?_, o0.fr⟩
   exact ret_t2 (ret_i (by (rw [(us_var hb (by omega)).1]; split <;> omega))) (ret_i (by (rw [(us_var hb (by omega)).2]; split <;> omega)))
  ·
   have t0 := f0
   try simp only [Bool.or_eq_true, Bool.and_eq_true, Bool.not_eq_true', Bool.not_eq_false', decide_eq_true_eq, decide_eq_false_iff_not, Bool.or_eq_false_iff, Bool.and_eq_false_iff] at t0
   have t0 := n0.setb (d := 37) (b := false) rfl f0
   refine wp_cond_false (t0.ev rfl) ?_
   refine wp_skip ?_
   refine x_then_n (c0 _ _ ?_)
   refine wsc (fun c0 f0 => ?_)
   refine asg t0 (fun c0 n0 => ?_)
   refine asg n0 (fun c0 t0 => ?_)
   refine wpList_nil (x_then_n (f0 _ _ ?_))
   refine wp_ret ?_
   refine x_then_r ?_
   refine e_ret2 t0 rfl rfl rfl rfl ?_
   refine ⟨?_, o0.fr⟩
   exact ret_t2 (ret_i (by (rw [(us_var hb (by omega)).1]; split <;> omega))) (ret_i (by (rw [(us_var hb (by omega)).2]; split <;> omega)))
 ·
  have o0 := k0.setb (d := 22) (b := false) rfl (decide_eq_false h0)
  refine wp_cond_false (o0.ev rfl) ?_
  refine wp_skip ?_
  refine x_then_n (d0 _ _ ?_)
  refine wsc (fun d0 h0 => ?_)
  refine m_loadN (i := 0) (vs := [.int .i64 (((nth t (t.length - 1)).K)), .int .i64 (((nth t (t.length - 1)).N)), .int .i64 (((nth t (t.length - 1)).M)), .string ((nth t (t.length - 1)).S)]) sv o0 b0 rfl rfl rfl rfl rfl Tryd.underlying32 rfl sz32 (by decide) (fun d0 k0 => ?_)
  have d0 := b0.nf
  refine k_call (xs := [.tmp 40]) se k0 rfl rfl rfl (by decide) ok28 (rbinds_calls _ _ d0.il (nth t (t.length - 1)) (hs := (hsm _ (by omega)))) ?_
  rintro k0 b0 ⟨o0, t0, rfl, f0, c0⟩
  have b0 := d0.below f0.below
  have f0 := d0.dN b0 c0
  refine ⟨_, rfl, fun b0 c0 => ?_⟩
  refine mv c0 (fun b0 d0 => ?_)
  refine r_extract sv d0 rfl rfl rfl rfl (by decide) (fun b0 c0 => ?_)
  refine r_extract sv c0 rfl rfl rfl rfl (by decide) (fun b0 d0 => ?_)
  refine asg d0 (fun b0 c0 => ?_)
  refine asg c0 (fun b0 d0 => ?_)
  refine wpList_nil (x_then_n (h0 _ _ ?_))
  refine wsc (fun h0 b0 => ?_)
  refine mv d0 (fun h0 c0 => ?_)
  have h0 := f0.nf
  refine k_call (xs := [.tmp 44]) se c0 rfl rfl rfl (by decide) ok21 (rparts_calls _ _ h0.il _ _ _ (h0.g 0)) ?_
  rintro c0 f0 ⟨d0, k0, n0, rfl, p0, q0, j0, m0⟩
  have f0 := h0.below p0.below
  have p0 := h0.dN f0 q0
  have f0 := h0.dN p0 j0
  refine ⟨_, rfl, fun p0 j0 => ?_⟩
  refine asg j0 (fun p0 h0 => ?_)
  refine wpList_nil (x_then_n (b0 _ _ ?_))
  refine wsc (fun b0 p0 => ?_)
  refine asg h0 (fun b0 j0 => ?_)
  refine wpList_nil (x_then_n (p0 _ _ ?_))
  refine wsc (fun p0 b0 => ?_)
  refine asg j0 (fun p0 h0 => ?_)
  refine wpList_nil (x_then_n (b0 _ _ ?_))
  refine wp_seq_k (fun b0 p0 => ?_)
  refine wsc (fun b0 j0 => ?_)
  refine asg h0 (fun b0 q0 => ?_)
  refine wpList_nil (x_then_n (j0 _ _ ?_))
  refine wp_block ?_
  refine wp_loop_ghost (fun gn ga gw => ∃ j : Nat, (Reg ga 75 [(1000000, .bool false), (1, .int .i64 (k)), (2, .int .i64 (u)), (6, .int .i64 0), (7, .int .i64 0), (10, .slice o0 ((bindL (nth t (t.length - 1))).length) t0), (12, .slice d0 n0.length k0), (15, .int .i64 ((j : Nat) : Int)), (13, .int .i64 ((usP t k u j : Nat) : Int)), (14, .int .i64 ((moP t k u j)))]) ∧ (St w0 Z none_ gw [.box i0 32 [.int .i64 (((nth t (t.length - 1)).K)), .int .i64 (((nth t (t.length - 1)).N)), .int .i64 (((nth t (t.length - 1)).M)), .string ((nth t (t.length - 1)).S)]] [dRow 4 tA t.length tc (encNs t), dRow 1 o0 ((bindL (nth t (t.length - 1))).length) t0 (encIs (bindL (nth t (t.length - 1)))), dRow 1 d0 n0.length k0 (encSs n0), dAll n0]) ∧ (j ≤ n0.length) ∧ (n0.length - j) = gn) _ ⟨0, (q0.sub (rc rfl (rc rfl (rc rfl (rc rfl (rc rfl (rc rfl (rc rfl (rc rfl (rc (ri rfl (by simp [usP, usTs])) (rc (ri rfl (by simp [moP, moTs])) rnl))))))))))), f0, by omega, rfl⟩ ?_
  rintro q0 f0 k0 ⟨j, d0, t0, hj, o0⟩
  have hrl : n0.length = (ptL t).length := by rw [← lsts_len, m0]
  have hp8 := ptL_le hb
  have hbj : 0 ≤ nthI (bindL (nth t (t.length - 1))) j ∧ nthI (bindL (nth t (t.length - 1))) j ≤ 2 := by rw [hbl]; exact binds_nth j
  have hup := usP_le hb k u j
  refine wp_seq_k (fun o0 k0 => ?_)
  refine wsc (fun o0 f0 => ?_)
  refine mv d0 (fun o0 q0 => ?_)
  refine mv q0 (fun o0 d0 => ?_)
  refine r_len sv d0 rfl rfl rfl rfl Tryd.underlying39 (by decide) (fun o0 q0 => ?_)
  refine r_lss sv q0 rfl rfl rfl rfl (by decide) (fun o0 d0 => ?_)
  refine wpList_nil (x_then_n (f0 _ _ ?_))
  rcases Decidable.em (((j : Nat) : Int) < ((n0.length : Nat) : Int)) with f0 | f0
  ·
   obtain ⟨hpe, hpk, hpb, hpl, hps, hp0'⟩ := part_at hb hsm m0 (show j < n0.length by omega)
   obtain ⟨hu1, hu2⟩ := us_step (k := k) (u := u) hb hpk
   have hul := usL_le hpb k (u + nthI (bindL (nth t (t.length - 1))) j)
   have m0 := d0.setb (d := 49) (b := true) rfl (decide_eq_true f0)
   refine wp_cond_true (m0.ev rfl) ?_
   refine wp_skip ?_
   refine x_then_n (k0 _ _ ?_)
   refine wp_seq_k (fun k0 o0 => ?_)
   refine wp_block ?_
   refine wp_seq_k (fun k0 q0 => ?_)
   obtain ⟨k0, j0, b0⟩ := t0.agree
   refine d_reg3 (n := 17) b0 4 pn (pan_then (pan_block (pan_then (pan_then (pan_block (pan_then pan_body)))))) (fun k0 h0 c0 u0 v0 x0 => ?_)
   refine dtM 0 h0 m0 x0 (fun u0 k0 => ?_)
   refine dtM 1 h0 k0 x0 (fun u0 m0 => ?_)
   refine dt 2 rfl h0 m0 (want_n rfl) (fun x hx => m_index (i := j) (j := j * 1) (sy m0) m0 rfl rfl rfl rfl Tryd.underlying39 sz22 (by omega) (by omega) (ss_elem (t := n0) (k := j) (sdat (j0 2 _ rfl) hx.ag).2 (by omega)).some_ rfl (by decide) gt) x0 (fun u0 k0 => ?_)
   refine dt 3 rfl h0 k0 (want_n rfl) (fun x hx => m_loadE (sy k0) k0 rfl rfl rfl 0 (j * 1) (ss_elem (t := n0) (k := j) (sdat (j0 2 _ rfl) hx.ag).2 (by omega)) rfl rfl Tryd.underlying22 rfl (by decide) gt) x0 (fun u0 m0 => ?_)
   have u0 := v0.data (dRow 4 ((nthS n0 j).1) ((nthS n0 j).2.2.length) ((nthS n0 j).2.1) (encNs ((nthS n0 j).2.2))) (all_at (t := n0) (k := j) (v0.get (i := 3) rfl) (by omega))
   refine dtM 4 h0 m0 x0 (fun v0 k0 => ?_)
   refine dtM 5 h0 k0 x0 (fun v0 m0 => ?_)
   refine dtM 6 h0 m0 x0 (fun v0 k0 => ?_)
   refine dtM 7 h0 k0 x0 (fun v0 m0 => ?_)
   refine dt 8 rfl h0 m0 (want_n rfl) (fun x hx => m_index (i := j) (j := j * 1) (sy m0) m0 rfl rfl rfl rfl Tryd.underlying56 sz3 (by omega) (by omega) (ints_elem (t := bindL (nth t (t.length - 1))) (k := j) (sdat (j0 1 _ rfl) hx.ag).2 (by omega)).some_ rfl (by decide) gt) x0 (fun v0 k0 => ?_)
   refine dt 9 rfl h0 k0 (want_n rfl) (fun x hx => m_loadE (sy k0) k0 rfl rfl rfl 0 (j * 1) (ints_elem (t := bindL (nth t (t.length - 1))) (k := j) (sdat (j0 1 _ rfl) hx.ag).2 (by omega)) rfl rfl Tryd.underlying3 rfl (by decide) gt) x0 (fun v0 m0 => ?_)
   refine dt 10 rfl h0 m0 (want_n rfl) (fun x hx => r_add (z := (u + (nthI (bindL (nth t (t.length - 1))) j))) (sy m0) m0 rfl rfl rfl rfl (by decide) (by omega) (by omega) (by omega) gt) x0 (fun v0 k0 => ?_)
   refine d1 11 ?_
   have v0 := u0.nf
   refine k_call (xs := [.tmp 56, .tmp 57, .tmp 63]) (st_op rfl (want_n rfl)) k0 rfl rfl rfl (by decide) ok22 (ih (((nthS n0 j).2.2).length) (by omega) _ (imm Z w0 [.box i0 32 [.int .i64 (((nth t (t.length - 1)).K)), .int .i64 (((nth t (t.length - 1)).N)), .int .i64 (((nth t (t.length - 1)).M)), .string ((nth t (t.length - 1)).S)]] _) (fun _ h => h.1) _ _ ((nthS n0 j).2.2) (k) (u + (nthI (bindL (nth t (t.length - 1))) j)) (v0.g 5) (by first | assumption | omega | (simp; done) | (simp; omega)) (by first | assumption | omega | (simp; done) | (simp; omega)) (by first | assumption | omega | (simp; done) | (simp; omega)) (by first | assumption | omega | (simp; done) | (simp; omega)) (by first | assumption | omega | (simp; done) | (simp; omega)) rfl) ?_
   rintro k0 i0 ⟨rfl, u0⟩
   have i0 := v0.below u0.below
   refine ⟨_, rfl, fun u0 v0 => ?_⟩
   have u0 := sWI i0 4 pn
   refine ⟨u0, ?_⟩
   refine dtM 12 h0 v0 u0 (fun k0 m0 => ?_)
   refine dt 13 rfl h0 m0 (want_n rfl) (fun x hx => r_extract (sy m0) m0 rfl rfl rfl rfl (by decide) gt) u0 (fun k0 v0 => ?_)
   refine dt 14 rfl h0 v0 (want_n rfl) (fun x hx => r_extract (sy v0) v0 rfl rfl rfl rfl (by decide) gt) u0 (fun k0 m0 => ?_)
   refine dtA 15 h0 m0 u0 (fun k0 v0 => ?_)
   refine dtA 16 h0 v0 u0 (fun k0 m0 => ?_)
   refine wpAnyH_done (by kernel_rfl) (c0 _ _ ?_) _
   refine x_then_n (q0 _ _ ?_)
   refine wsc (fun q0 c0 => ?_)
   refine mv m0 (fun q0 k0 => ?_)
   refine mv k0 (fun q0 m0 => ?_)
   refine r_add (z := ((usP t k u j + usL ((nthS n0 j).2.2) (k) (u + (nthI (bindL (nth t (t.length - 1))) j)) : Nat) : Int)) sv m0 rfl rfl rfl rfl (by decide) (by omega) (by omega) (by omega) (fun q0 k0 => ?_)
   refine asg k0 (fun q0 m0 => ?_)
   refine wpList_nil (x_then_n (c0 _ _ (c_region ?_)))
   refine mv m0 (fun c0 q0 => ?_)
   refine mv q0 (fun c0 m0 => ?_)
   refine r_max sv m0 rfl rfl rfl rfl rfl (by decide) (fun c0 q0 => ?_)
   refine asg q0 (fun c0 m0 => ?_)
   refine wpList_nil ?_
   refine x_block_n ?_
   refine x_then_n (o0 _ _ ?_)
   refine c_region ?_
   refine mv m0 (fun o0 c0 => ?_)
   refine r_add (z := ((j + 1 : Nat) : Int)) sv c0 rfl rfl rfl rfl (by decide) (by omega) (by omega) (by omega) (fun o0 m0 => ?_)
   refine asg m0 (fun o0 c0 => ?_)
   refine wpList_nil ?_
   have o0 := i0.forget 5
   have i0 := o0.forget 4
   exact ⟨_, by omega, j + 1, (c0.sub (rc rfl (rc rfl (rc rfl (rc rfl (rc rfl (rc rfl (rc rfl (rc rfl (rc (ri rfl (by rw [hu1, hpe, hbl]; try omega)) (rc (ri rfl (by rw [hu2, hpe, hbl])) rnl))))))))))), i0, by omega, rfl⟩
  ·
   have i0 := d0.setb (d := 49) (b := false) rfl (decide_eq_false f0)
   refine wp_cond_false (i0.ev rfl) ?_
   refine wp_exit ?_
   refine x_then_e ?_
   refine x_then_e ?_
   refine x_block_eq ?_
   refine x_then_n (p0 _ _ ?_)
   refine wsc (fun p0 f0 => ?_)
   refine mv i0 (fun p0 d0 => ?_)
   refine mv d0 (fun p0 i0 => ?_)
   refine asg i0 (fun p0 d0 => ?_)
   refine asg d0 (fun p0 i0 => ?_)
   refine wpList_nil (x_then_n (f0 _ _ ?_))
   refine wp_ret ?_
   refine e_ret2 i0 rfl rfl rfl rfl ?_
   refine ⟨?_, t0.fr⟩
   exact ret_t2 (ret_i (by (rw [(us_root hb (by omega)).1]; congr 2; omega))) (ret_i (by (rw [(us_root hb (by omega)).2]; congr 1; omega)))
theorem rcount_calls (w0 : World) (Z : Nat → Prop) (hZ : ∀ k, Z k → k < w0.heap.size) (tA : Option Addr) (tc : Nat) (t : List Nd) (k : Int) (u : Int) (ht : (dRow 4 tA t.length tc (encNs t)).φ w0 Z) (hl : t.length ≤ 1000000 := by first | assumption | omega | (simp; done) | (simp; omega)) (hsm : sml t := by first | assumption | omega | (simp; done) | (simp; omega)) (hb : measB t = true := by first | assumption | omega | (simp; done) | (simp; omega)) (hu0 : 0 ≤ u := by first | assumption | omega | (simp; done) | (simp; omega)) (hub : u + 2 * t.length ≤ 10000000 := by first | assumption | omega | (simp; done) | (simp; omega)) :
    Calls Tryd.prog 22 [.slice tA t.length tc, .int .i64 k, .int .i64 u].toArray w0 (fun e w' => e = .returned (.tuple #[.int .i64 ((usL t k u : Nat) : Int), .int .i64 (moL t k u)]) ∧ Fr none_ w0 w') := rcount_calls_rec _ w0 Z hZ tA tc t k u ht hl hsm hb hu0 hub rfl
end Go.Proofs.YthdemmcfnpmmiaaDoor
/- Contracts of functions, one theorem each: what the call returns, and that nothing old is changed. Printed by gen.py. -/
namespace Go.Proofs.YthdemmcfnpmmiaaDoor
open Go Go.RowKit
set_option linter.unusedSimpArgs false
set_option linter.unusedVariables false
set_option maxRecDepth 100000 in
set_option maxHeartbeats 1000000 in
theorem rfree_calls (w0 : World) (Z : Nat → Prop) (hZ : ∀ k, Z k → k < w0.heap.size) (tA : Option Addr) (tc : Nat) (t : List Nd) (ht : (dRow 4 tA t.length tc (encNs t)).φ w0 Z) (hl : t.length ≤ 1000000 := by first | assumption | omega | (simp; done) | (simp; omega)) (hsm : sml t := by first | assumption | omega | (simp; done) | (simp; omega)) :
    Calls Tryd.prog 13 [.slice tA t.length tc].toArray w0 (fun e w' => e = .returned (.tuple #[.int .i64 (frF t), .int .i64 (chk t)]) ∧ Fr none_ w0 w') := by
 have b0 := s0 (M := none_) hZ (zc ht zn)
 refine c_enter Tryd.func13 rfl Tryd.ntmps13 rfl (fun c0 d0 => ?_)
 refine wsc (fun c0 f0 => ?_)
 refine asg d0 (fun c0 h0 => ?_)
 refine asg h0 (fun c0 d0 => ?_)
 refine wpList_nil (x_then_n (f0 _ _ ?_))
 refine wsc (fun f0 c0 => ?_)
 refine mv d0 (fun f0 h0 => ?_)
 have f0 := b0.nf
 refine k_call (xs := [.tmp 7]) se h0 rfl rfl rfl (by decide) ok10 (rcheck_calls _ _ f0.il _ _ _ (f0.g 0)) ?_
 rintro h0 b0 ⟨rfl, d0⟩
 have b0 := f0.below d0.below
 refine ⟨_, rfl, fun d0 f0 => ?_⟩
 refine asg f0 (fun d0 h0 => ?_)
 refine wpList_nil (x_then_n (c0 _ _ ?_))
 refine wp_seq_k (fun c0 d0 => ?_)
 refine wsc (fun c0 f0 => ?_)
 refine mv h0 (fun c0 i0 => ?_)
 refine r_neq sv i0 rfl rfl rfl rfl (by decide) (fun c0 h0 => ?_)
 refine wpList_nil (x_then_n (f0 _ _ ?_))
 rcases Decidable.em (((chk t)) = 0) with f0 | f0
 ·
  have hmo := moL_bd (meas_chk f0) (-1)
  have c0 := h0.setb (d := 10) (b := false) rfl (by rw [(decide_eq_true f0)]; rfl)
  refine wp_cond_false (c0.ev rfl) ?_
  refine wp_skip ?_
  refine x_then_n (d0 _ _ ?_)
  refine wsc (fun d0 i0 => ?_)
  refine mv c0 (fun d0 j0 => ?_)
  have d0 := b0.nf
  refine k_call (xs := [.tmp 13, .const (.int .i64 (-1)), .const (.int .i64 0)]) se j0 rfl rfl rfl (by decide) ok22 (rcount_calls _ _ d0.il _ _ _ (-1) 0 (d0.g 0) (hl := hl) (hsm := hsm) (hb := (meas_chk (by omega))) (hu0 := (by omega)) (hub := (by omega))) ?_
  rintro j0 c0 ⟨rfl, k0⟩
  have c0 := d0.below k0.below
  refine ⟨_, rfl, fun k0 d0 => ?_⟩
  refine mv d0 (fun k0 j0 => ?_)
  refine r_extract sv j0 rfl rfl rfl rfl (by decide) (fun k0 d0 => ?_)
  refine r_extract sv d0 rfl rfl rfl rfl (by decide) (fun k0 j0 => ?_)
  refine asg j0 (fun k0 d0 => ?_)
  refine asg d0 (fun k0 j0 => ?_)
  refine wpList_nil (x_then_n (i0 _ _ ?_))
  refine wsc (fun i0 k0 => ?_)
  refine mv j0 (fun i0 d0 => ?_)
  refine r_add (z := ((moL t (-1) 0) + 1)) sv d0 rfl rfl rfl rfl (by decide) (by omega) (by omega) (by omega) (fun i0 j0 => ?_)
  refine asg j0 (fun i0 d0 => ?_)
  refine asg d0 (fun i0 j0 => ?_)
  refine wpList_nil (x_then_n (k0 _ _ ?_))
  refine wp_ret ?_
  refine e_ret2 j0 rfl rfl rfl rfl ?_
  refine ⟨?_, c0.fr⟩
  exact ret_t2 (ret_i (by first | (unfold frF; rw [if_neg (by omega)]; done) | (unfold frF; rw [if_pos (by omega)]))) (ret_i (by omega))
 ·
  have c0 := h0.setb (d := 10) (b := true) rfl (by rw [(decide_eq_false f0)]; rfl)
  refine wp_cond_true (c0.ev rfl) ?_
  refine wsc (fun f0 h0 => ?_)
  refine mv c0 (fun f0 j0 => ?_)
  refine asg j0 (fun f0 c0 => ?_)
  refine asg c0 (fun f0 j0 => ?_)
  refine wpList_nil (x_then_n (h0 _ _ ?_))
  refine wp_ret ?_
  refine x_then_r ?_
  refine e_ret2 j0 rfl rfl rfl rfl ?_
  refine ⟨?_, b0.fr⟩
  exact ret_t2 (ret_i (by first | (unfold frF; rw [if_neg (by omega)]; done) | (unfold frF; rw [if_pos (by omega)]))) (ret_i (by omega))
end Go.Proofs.YthdemmcfnpmmiaaDoor
/- Contracts of functions, one theorem each: what the call returns, and that nothing old is changed. Printed by gen.py. -/
namespace Go.Proofs.YthdemmcfnpmmiaaDoor
open Go Go.RowKit
set_option linter.unusedSimpArgs false
set_option linter.unusedVariables false
set_option maxRecDepth 100000 in
set_option maxHeartbeats 1000000 in
theorem convertEta_calls (w0 : World) (Z : Nat → Prop) (hZ : ∀ k, Z k → k < w0.heap.size) (aA : Option Addr) (ac : Nat) (a : List Nd) (fA : Option Addr) (fc : Nat) (f : List Nd) (sA : Option Addr) (sc : Nat) (s : List Nd) (hShp : Shapes w0 Z) (ha : (dRow 4 aA a.length ac (encNs a)).φ w0 Z) (hf : (dRow 4 fA f.length fc (encNs f)).φ w0 Z) (hs : (dRow 4 sA s.length sc (encNs s)).φ w0 Z) :
    Calls Tryd.prog 4 [.slice aA a.length ac, .slice fA f.length fc, .slice sA s.length sc].toArray w0 (fun e w' => e = .returned (.bool (true)) ∧ Fr none_ w0 w') := by
 have b0 := s0 (M := none_) hZ (zc (d := dShapes) hShp (zc ha (zc hf (zc hs zn))))
 refine c_enter Tryd.func4 rfl Tryd.ntmps4 rfl (fun c0 d0 => ?_)
 refine wsc (fun c0 f0 => ?_)
 refine asg d0 (fun c0 i0 => ?_)
 refine wpList_nil (x_then_n (f0 _ _ ?_))
 refine wp_seq_k (fun f0 c0 => ?_)
 refine wsc (fun f0 d0 => ?_)
 refine mv i0 (fun f0 j0 => ?_)
 have f0 := b0.nf
 refine k_call (xs := [.tmp 19]) se j0 rfl rfl rfl (by decide) ok6 (heavy16_calls _ _ f0.il _ _ _ (f0.g 1)) ?_
 rintro j0 b0 ⟨rfl, i0⟩
 have b0 := f0.below i0.below
 refine ⟨_, rfl, fun i0 f0 => ?_⟩
 refine mv f0 (fun i0 j0 => ?_)
 refine l_join (fun ga gw => Reg ga 153 [(0, .slice aA a.length ac), (1, .slice fA f.length fc), (2, .slice sA s.length sc), (6, .bool false), (24, .bool ((heavyB 60 a) || (heavyB 60 f))), (1000000, .bool false)] ∧ St w0 Z none_ gw [] [dShapes, dRow 4 aA a.length ac (encNs a), dRow 4 fA f.length fc (encNs f), dRow 4 sA s.length sc (encNs s)]) 3 ?_ ?_
 ·
  rcases Bool.eq_false_or_eq_true (heavyB 60 a) with i0 | i0
  ·
   have f0 := j0.setb (d := 21) (b := true) rfl i0
   refine sps f0 (wff f0) (fun k0 m0 => ?_)
   refine sps m0 (wff m0) (fun k0 f0 => ?_)
   refine r_pick_t sv f0 rfl rfl rfl rfl (by decide) (fun k0 m0 => ?_)
   refine wpList_nil ?_
   exact x_then_n ⟨(m0.sub (rc rfl (rc rfl (rc rfl (rc rfl (rc (rb rfl (by first | rfl | (simp only [i0, bl]; done) | (simp [i0]; done) | (simp [i0]; omega))) (rc rfl rnl))))))), b0⟩
  ·
   obtain ⟨hla, hsa⟩ := heavy_false i0
   obtain ⟨hla, hsa⟩ := heavy_false i0
   have m0 := j0.setb (d := 21) (b := false) rfl i0
   refine r_move (st_listV_w (wt m0)) m0 rfl rfl rfl (by decide) (fun j0 k0 => ?_)
   have j0 := b0.nf
   refine k_call (xs := [.tmp 22]) (st_list_w (wt k0)) k0 rfl rfl rfl (by decide) ok6 (heavy16_calls _ _ j0.il _ _ _ (j0.g 2)) ?_
   rintro k0 b0 ⟨rfl, m0⟩
   have b0 := j0.below m0.below
   refine ⟨_, rfl, fun m0 j0 => ?_⟩
   refine r_pick_f sv j0 rfl rfl rfl rfl (by decide) (fun m0 k0 => ?_)
   refine wpList_nil ?_
   exact x_then_n ⟨(k0.sub (rc rfl (rc rfl (rc rfl (rc rfl (rc (rb rfl (by first | rfl | (simp only [i0, bl]; done) | (simp [i0]; done) | (simp [i0]; omega))) (rc rfl rnl))))))), b0⟩
 rintro k0 b0 ⟨i0, m0⟩
 refine mv i0 (fun b0 k0 => ?_)
 refine l_join (fun ga gw => Reg ga 153 [(0, .slice aA a.length ac), (1, .slice fA f.length fc), (2, .slice sA s.length sc), (6, .bool false), (28, .bool (((heavyB 60 a) || (heavyB 60 f)) || (heavyB 60 s))), (1000000, .bool false)] ∧ St w0 Z none_ gw [] [dShapes, dRow 4 aA a.length ac (encNs a), dRow 4 fA f.length fc (encNs f), dRow 4 sA s.length sc (encNs s)]) 3 ?_ ?_
 ·
  rcases Bool.eq_false_or_eq_true (((heavyB 60 a) || (heavyB 60 f))) with b0 | b0
  ·
   have i0 := b0
   try simp only [Bool.or_eq_true, Bool.and_eq_true, Bool.not_eq_true', Bool.not_eq_false', decide_eq_true_eq, decide_eq_false_iff_not, Bool.or_eq_false_iff, Bool.and_eq_false_iff] at i0
   have i0 := k0.setb (d := 25) (b := true) rfl b0
   refine sps i0 (wff i0) (fun j0 f0 => ?_)
   refine sps f0 (wff f0) (fun j0 i0 => ?_)
   refine r_pick_t sv i0 rfl rfl rfl rfl (by decide) (fun j0 f0 => ?_)
   refine wpList_nil ?_
   exact x_then_n ⟨(f0.sub (rc rfl (rc rfl (rc rfl (rc rfl (rc (rb rfl (by first | rfl | (simp only [b0, bl]; done) | (simp [b0]; done) | (simp [b0]; omega))) (rc rfl rnl))))))), m0⟩
  ·
   have f0 := or_fl b0
   obtain ⟨hla, hsa⟩ := heavy_false f0
   have f0 := or_fr b0
   obtain ⟨hlf, hsf⟩ := heavy_false f0
   have f0 := k0.setb (d := 25) (b := false) rfl b0
   refine r_move (st_listV_w (wt f0)) f0 rfl rfl rfl (by decide) (fun k0 j0 => ?_)
   have k0 := m0.nf
   refine k_call (xs := [.tmp 26]) (st_list_w (wt j0)) j0 rfl rfl rfl (by decide) ok6 (heavy16_calls _ _ k0.il _ _ _ (k0.g 3)) ?_
   rintro j0 m0 ⟨rfl, f0⟩
   have m0 := k0.below f0.below
   refine ⟨_, rfl, fun f0 k0 => ?_⟩
   refine r_pick_f sv k0 rfl rfl rfl rfl (by decide) (fun f0 j0 => ?_)
   refine wpList_nil ?_
   exact x_then_n ⟨(j0.sub (rc rfl (rc rfl (rc rfl (rc rfl (rc (rb rfl (by first | rfl | (simp only [b0, bl]; done) | (simp [b0]; done) | (simp [b0]; omega))) (rc rfl rnl))))))), m0⟩
 rintro j0 m0 ⟨b0, f0⟩
 refine mv b0 (fun m0 j0 => ?_)
 refine l_join (fun ga gw => Reg ga 153 [(0, .slice aA a.length ac), (1, .slice fA f.length fc), (2, .slice sA s.length sc), (6, .bool false), (33, .bool ((((heavyB 60 a) || (heavyB 60 f)) || (heavyB 60 s)) || (decide (3 < ((csK f f.length : Nat) : Int))))), (1000000, .bool false)] ∧ St w0 Z none_ gw [] [dShapes, dRow 4 aA a.length ac (encNs a), dRow 4 fA f.length fc (encNs f), dRow 4 sA s.length sc (encNs s)]) 4 ?_ ?_
 ·
  rcases Bool.eq_false_or_eq_true ((((heavyB 60 a) || (heavyB 60 f)) || (heavyB 60 s))) with m0 | m0
  ·
   have b0 := m0
   try simp only [Bool.or_eq_true, Bool.and_eq_true, Bool.not_eq_true', Bool.not_eq_false', decide_eq_true_eq, decide_eq_false_iff_not, Bool.or_eq_false_iff, Bool.and_eq_false_iff] at b0
   have b0 := j0.setb (d := 29) (b := true) rfl m0
   refine sps b0 (wff b0) (fun k0 i0 => ?_)
   refine sps i0 (wff i0) (fun k0 b0 => ?_)
   refine sps b0 (wff b0) (fun k0 i0 => ?_)
   refine r_pick_t sv i0 rfl rfl rfl rfl (by decide) (fun k0 b0 => ?_)
   refine wpList_nil ?_
   exact x_then_n ⟨(b0.sub (rc rfl (rc rfl (rc rfl (rc rfl (rc (rb rfl (by first | rfl | (simp only [m0, bl]; done) | (simp [m0]; done) | (simp [m0]; omega))) (rc rfl rnl))))))), f0⟩
  ·
   have b0 := or_fl m0
   have k0 := or_fl b0
   obtain ⟨hla, hsa⟩ := heavy_false k0
   have k0 := or_fr b0
   obtain ⟨hlf, hsf⟩ := heavy_false k0
   have k0 := or_fr m0
   obtain ⟨hls, hss⟩ := heavy_false k0
   have k0 := j0.setb (d := 29) (b := false) rfl m0
   refine r_move (st_listV_w (wt k0)) k0 rfl rfl rfl (by decide) (fun j0 b0 => ?_)
   have j0 := f0.nf
   refine k_call (xs := [.tmp 30]) (st_list_w (wt b0)) b0 rfl rfl rfl (by decide) ok7 (casts16_calls _ _ j0.il _ _ _ (j0.g 2) (hl := (by omega))) ?_
   rintro b0 f0 ⟨rfl, k0⟩
   have f0 := j0.below k0.below
   refine ⟨_, rfl, fun k0 j0 => ?_⟩
   have hcs := csK_le f f.length
   refine r_gtr (st_listV_w (wt j0)) j0 rfl rfl rfl rfl (by decide) (fun k0 b0 => ?_)
   refine r_pick_f sv b0 rfl rfl rfl rfl (by decide) (fun k0 j0 => ?_)
   refine wpList_nil ?_
   exact x_then_n ⟨(j0.sub (rc rfl (rc rfl (rc rfl (rc rfl (rc (rb rfl (by first | rfl | (simp only [m0, bl]; done) | (simp [m0]; done) | (simp [m0]; omega))) (rc rfl rnl))))))), f0⟩
 rintro j0 f0 ⟨m0, k0⟩
 refine mv m0 (fun f0 j0 => ?_)
 refine l_join (fun ga gw => Reg ga 153 [(0, .slice aA a.length ac), (1, .slice fA f.length fc), (2, .slice sA s.length sc), (6, .bool false), (38, .bool (((((heavyB 60 a) || (heavyB 60 f)) || (heavyB 60 s)) || (decide (3 < ((csK f f.length : Nat) : Int)))) || (!(decide (((chk a)) = 0))))), (1000000, .bool false)] ∧ St w0 Z none_ gw [] [dShapes, dRow 4 aA a.length ac (encNs a), dRow 4 fA f.length fc (encNs f), dRow 4 sA s.length sc (encNs s)]) 4 ?_ ?_
 ·
  rcases Bool.eq_false_or_eq_true (((((heavyB 60 a) || (heavyB 60 f)) || (heavyB 60 s)) || (decide (3 < ((csK f f.length : Nat) : Int))))) with f0 | f0
  ·
   have m0 := f0
   try simp only [Bool.or_eq_true, Bool.and_eq_true, Bool.not_eq_true', Bool.not_eq_false', decide_eq_true_eq, decide_eq_false_iff_not, Bool.or_eq_false_iff, Bool.and_eq_false_iff] at m0
   have m0 := j0.setb (d := 34) (b := true) rfl f0
   refine sps m0 (wff m0) (fun b0 i0 => ?_)
   refine sps i0 (wff i0) (fun b0 m0 => ?_)
   refine sps m0 (wff m0) (fun b0 i0 => ?_)
   refine r_pick_t sv i0 rfl rfl rfl rfl (by decide) (fun b0 m0 => ?_)
   refine wpList_nil ?_
   exact x_then_n ⟨(m0.sub (rc rfl (rc rfl (rc rfl (rc rfl (rc (rb rfl (by first | rfl | (simp only [f0, bl]; done) | (simp [f0]; done) | (simp [f0]; omega))) (rc rfl rnl))))))), k0⟩
  ·
   have m0 := or_fl f0
   have b0 := or_fl m0
   have i0 := or_fl b0
   obtain ⟨hla, hsa⟩ := heavy_false i0
   have i0 := or_fr b0
   obtain ⟨hlf, hsf⟩ := heavy_false i0
   have i0 := or_fr m0
   obtain ⟨hls, hss⟩ := heavy_false i0
   have i0 := or_fr f0
   have m0 := of_decide_eq_false i0
   have m0 := j0.setb (d := 34) (b := false) rfl f0
   refine r_move (st_listV_w (wt m0)) m0 rfl rfl rfl (by decide) (fun j0 i0 => ?_)
   have j0 := k0.nf
   refine k_call (xs := [.tmp 35]) (st_list_w (wt i0)) i0 rfl rfl rfl (by decide) ok10 (rcheck_calls _ _ j0.il _ _ _ (j0.g 1) (hl := (by omega)) (hsm := (by assumption))) ?_
   rintro i0 k0 ⟨rfl, m0⟩
   have k0 := j0.below m0.below
   refine ⟨_, rfl, fun m0 j0 => ?_⟩
   refine r_neq (st_listV_w (wt j0)) j0 rfl rfl rfl rfl (by decide) (fun m0 i0 => ?_)
   refine r_pick_f sv i0 rfl rfl rfl rfl (by decide) (fun m0 j0 => ?_)
   refine wpList_nil ?_
   exact x_then_n ⟨(j0.sub (rc rfl (rc rfl (rc rfl (rc rfl (rc (rb rfl (by first | rfl | (simp only [f0, bl]; done) | (simp [f0]; done) | (simp [f0]; omega))) (rc rfl rnl))))))), k0⟩
 rintro j0 k0 ⟨f0, m0⟩
 refine mv f0 (fun k0 j0 => ?_)
 refine l_join (fun ga gw => Reg ga 153 [(0, .slice aA a.length ac), (1, .slice fA f.length fc), (2, .slice sA s.length sc), (6, .bool false), (43, .bool ((((((heavyB 60 a) || (heavyB 60 f)) || (heavyB 60 s)) || (decide (3 < ((csK f f.length : Nat) : Int)))) || (!(decide (((chk a)) = 0)))) || (!(decide (((chk f)) = 0))))), (1000000, .bool false)] ∧ St w0 Z none_ gw [] [dShapes, dRow 4 aA a.length ac (encNs a), dRow 4 fA f.length fc (encNs f), dRow 4 sA s.length sc (encNs s)]) 4 ?_ ?_
 ·
  rcases Bool.eq_false_or_eq_true ((((((heavyB 60 a) || (heavyB 60 f)) || (heavyB 60 s)) || (decide (3 < ((csK f f.length : Nat) : Int)))) || (!(decide (((chk a)) = 0))))) with k0 | k0
  ·
   have f0 := k0
   try simp only [Bool.or_eq_true, Bool.and_eq_true, Bool.not_eq_true', Bool.not_eq_false', decide_eq_true_eq, decide_eq_false_iff_not, Bool.or_eq_false_iff, Bool.and_eq_false_iff] at f0
   have f0 := j0.setb (d := 39) (b := true) rfl k0
   refine sps f0 (wff f0) (fun i0 b0 => ?_)
   refine sps b0 (wff b0) (fun i0 f0 => ?_)
   refine sps f0 (wff f0) (fun i0 b0 => ?_)
   refine r_pick_t sv b0 rfl rfl rfl rfl (by decide) (fun i0 f0 => ?_)
   refine wpList_nil ?_
   exact x_then_n ⟨(f0.sub (rc rfl (rc rfl (rc rfl (rc rfl (rc (rb rfl (by first | rfl | (simp only [k0, bl]; done) | (simp [k0]; done) | (simp [k0]; omega))) (rc rfl rnl))))))), m0⟩
  ·
   have f0 := or_fl k0
   have i0 := or_fl f0
   have b0 := or_fl i0
   have n0 := or_fl b0
   obtain ⟨hla, hsa⟩ := heavy_false n0
   have n0 := or_fr b0
   obtain ⟨hlf, hsf⟩ := heavy_false n0
   have n0 := or_fr i0
   obtain ⟨hls, hss⟩ := heavy_false n0
   have n0 := or_fr f0
   have f0 := of_decide_eq_false n0
   have f0 := or_fr k0
   have n0 := not_f f0
   have f0 := of_decide_eq_true n0
   have hca := f0
   have hma := meas_chk f0
   have hpa := chk_pos f0
   have f0 := j0.setb (d := 39) (b := false) rfl k0
   refine r_move (st_listV_w (wt f0)) f0 rfl rfl rfl (by decide) (fun j0 n0 => ?_)
   have j0 := m0.nf
   refine k_call (xs := [.tmp 40]) (st_list_w (wt n0)) n0 rfl rfl rfl (by decide) ok10 (rcheck_calls _ _ j0.il _ _ _ (j0.g 2) (hl := (by omega)) (hsm := (by assumption))) ?_
   rintro n0 m0 ⟨rfl, f0⟩
   have m0 := j0.below f0.below
   refine ⟨_, rfl, fun f0 j0 => ?_⟩
   refine r_neq (st_listV_w (wt j0)) j0 rfl rfl rfl rfl (by decide) (fun f0 n0 => ?_)
   refine r_pick_f sv n0 rfl rfl rfl rfl (by decide) (fun f0 j0 => ?_)
   refine wpList_nil ?_
   exact x_then_n ⟨(j0.sub (rc rfl (rc rfl (rc rfl (rc rfl (rc (rb rfl (by first | rfl | (simp only [k0, bl]; done) | (simp [k0]; done) | (simp [k0]; omega))) (rc rfl rnl))))))), m0⟩
 rintro j0 m0 ⟨k0, f0⟩
 refine mv k0 (fun m0 j0 => ?_)
 refine l_join (fun ga gw => Reg ga 153 [(0, .slice aA a.length ac), (1, .slice fA f.length fc), (2, .slice sA s.length sc), (6, .bool false), (48, .bool (((((((heavyB 60 a) || (heavyB 60 f)) || (heavyB 60 s)) || (decide (3 < ((csK f f.length : Nat) : Int)))) || (!(decide (((chk a)) = 0)))) || (!(decide (((chk f)) = 0)))) || (!(decide (((chk s)) = 0))))), (1000000, .bool false)] ∧ St w0 Z none_ gw [] [dShapes, dRow 4 aA a.length ac (encNs a), dRow 4 fA f.length fc (encNs f), dRow 4 sA s.length sc (encNs s)]) 4 ?_ ?_
 ·
  rcases Bool.eq_false_or_eq_true (((((((heavyB 60 a) || (heavyB 60 f)) || (heavyB 60 s)) || (decide (3 < ((csK f f.length : Nat) : Int)))) || (!(decide (((chk a)) = 0)))) || (!(decide (((chk f)) = 0))))) with m0 | m0
  ·
   have k0 := m0
   try simp only [Bool.or_eq_true, Bool.and_eq_true, Bool.not_eq_true', Bool.not_eq_false', decide_eq_true_eq, decide_eq_false_iff_not, Bool.or_eq_false_iff, Bool.and_eq_false_iff] at k0
   have k0 := j0.setb (d := 44) (b := true) rfl m0
   refine sps k0 (wff k0) (fun n0 i0 => ?_)
   refine sps i0 (wff i0) (fun n0 k0 => ?_)
   refine sps k0 (wff k0) (fun n0 i0 => ?_)
   refine r_pick_t sv i0 rfl rfl rfl rfl (by decide) (fun n0 k0 => ?_)
   refine wpList_nil ?_
   exact x_then_n ⟨(k0.sub (rc rfl (rc rfl (rc rfl (rc rfl (rc (rb rfl (by first | rfl | (simp only [m0, bl]; done) | (simp [m0]; done) | (simp [m0]; omega))) (rc rfl rnl))))))), f0⟩
  ·
   have k0 := or_fl m0
   have n0 := or_fl k0
   have i0 := or_fl n0
   have b0 := or_fl i0
   have o0 := or_fl b0
   obtain ⟨hla, hsa⟩ := heavy_false o0
   have o0 := or_fr b0
   obtain ⟨hlf, hsf⟩ := heavy_false o0
   have o0 := or_fr i0
   obtain ⟨hls, hss⟩ := heavy_false o0
   have o0 := or_fr n0
   have n0 := of_decide_eq_false o0
   have n0 := or_fr k0
   have k0 := not_f n0
   have n0 := of_decide_eq_true k0
   have hca := n0
   have hma := meas_chk n0
   have hpa := chk_pos n0
   have n0 := or_fr m0
   have k0 := not_f n0
   have n0 := of_decide_eq_true k0
   have hcf := n0
   have hmf := meas_chk n0
   have hpf := chk_pos n0
   have n0 := j0.setb (d := 44) (b := false) rfl m0
   refine r_move (st_listV_w (wt n0)) n0 rfl rfl rfl (by decide) (fun j0 k0 => ?_)
   have j0 := f0.nf
   refine k_call (xs := [.tmp 45]) (st_list_w (wt k0)) k0 rfl rfl rfl (by decide) ok10 (rcheck_calls _ _ j0.il _ _ _ (j0.g 3) (hl := (by omega)) (hsm := (by assumption))) ?_
   rintro k0 f0 ⟨rfl, n0⟩
   have f0 := j0.below n0.below
   refine ⟨_, rfl, fun n0 j0 => ?_⟩
   refine r_neq (st_listV_w (wt j0)) j0 rfl rfl rfl rfl (by decide) (fun n0 k0 => ?_)
   refine r_pick_f sv k0 rfl rfl rfl rfl (by decide) (fun n0 j0 => ?_)
   refine wpList_nil ?_
   exact x_then_n ⟨(j0.sub (rc rfl (rc rfl (rc rfl (rc rfl (rc (rb rfl (by first | rfl | (simp only [m0, bl]; done) | (simp [m0]; done) | (simp [m0]; omega))) (rc rfl rnl))))))), f0⟩
 rintro j0 f0 ⟨m0, n0⟩
 refine mv m0 (fun f0 j0 => ?_)
 refine l_join (fun ga gw => Reg ga 153 [(0, .slice aA a.length ac), (1, .slice fA f.length fc), (2, .slice sA s.length sc), (6, .bool false), (53, .bool ((((((((heavyB 60 a) || (heavyB 60 f)) || (heavyB 60 s)) || (decide (3 < ((csK f f.length : Nat) : Int)))) || (!(decide (((chk a)) = 0)))) || (!(decide (((chk f)) = 0)))) || (!(decide (((chk s)) = 0)))) || (decide (25 < ((dpL f : Nat) : Int))))), (1000000, .bool false)] ∧ St w0 Z none_ gw [] [dShapes, dRow 4 aA a.length ac (encNs a), dRow 4 fA f.length fc (encNs f), dRow 4 sA s.length sc (encNs s)]) 4 ?_ ?_
 ·
  rcases Bool.eq_false_or_eq_true ((((((((heavyB 60 a) || (heavyB 60 f)) || (heavyB 60 s)) || (decide (3 < ((csK f f.length : Nat) : Int)))) || (!(decide (((chk a)) = 0)))) || (!(decide (((chk f)) = 0)))) || (!(decide (((chk s)) = 0))))) with f0 | f0
  ·
   have m0 := f0
   try simp only [Bool.or_eq_true, Bool.and_eq_true, Bool.not_eq_true', Bool.not_eq_false', decide_eq_true_eq, decide_eq_false_iff_not, Bool.or_eq_false_iff, Bool.and_eq_false_iff] at m0
   have m0 := j0.setb (d := 49) (b := true) rfl f0
   refine sps m0 (wff m0) (fun k0 o0 => ?_)
   refine sps o0 (wff o0) (fun k0 m0 => ?_)
   refine sps m0 (wff m0) (fun k0 o0 => ?_)
   refine r_pick_t sv o0 rfl rfl rfl rfl (by decide) (fun k0 m0 => ?_)
   refine wpList_nil ?_
   exact x_then_n ⟨(m0.sub (rc rfl (rc rfl (rc rfl (rc rfl (rc (rb rfl (by first | rfl | (simp only [f0, bl]; done) | (simp [f0]; done) | (simp [f0]; omega))) (rc rfl rnl))))))), n0⟩
  ·
   have m0 := or_fl f0
   have k0 := or_fl m0
   have o0 := or_fl k0
   have i0 := or_fl o0
   have b0 := or_fl i0
   have p0 := or_fl b0
   obtain ⟨hla, hsa⟩ := heavy_false p0
   have p0 := or_fr b0
   obtain ⟨hlf, hsf⟩ := heavy_false p0
   have p0 := or_fr i0
   obtain ⟨hls, hss⟩ := heavy_false p0
   have p0 := or_fr o0
   have o0 := of_decide_eq_false p0
   have o0 := or_fr k0
   have k0 := not_f o0
   have o0 := of_decide_eq_true k0
   have hca := o0
   have hma := meas_chk o0
   have hpa := chk_pos o0
   have o0 := or_fr m0
   have m0 := not_f o0
   have o0 := of_decide_eq_true m0
   have hcf := o0
   have hmf := meas_chk o0
   have hpf := chk_pos o0
   have o0 := or_fr f0
   have m0 := not_f o0
   have o0 := of_decide_eq_true m0
   have hcs := o0
   have hms := meas_chk o0
   have hps := chk_pos o0
   have o0 := j0.setb (d := 49) (b := false) rfl f0
   refine r_move (st_listV_w (wt o0)) o0 rfl rfl rfl (by decide) (fun j0 m0 => ?_)
   have j0 := n0.nf
   refine k_call (xs := [.tmp 50]) (st_list_w (wt m0)) m0 rfl rfl rfl (by decide) ok12 (rdeep_calls _ _ j0.il _ _ _ (j0.g 2) (hl := (by omega)) (hsm := (by assumption)) (hb := (by assumption))) ?_
   rintro m0 n0 ⟨rfl, o0⟩
   have n0 := j0.below o0.below
   refine ⟨_, rfl, fun o0 j0 => ?_⟩
   refine r_gtr (st_listV_w (wt j0)) j0 rfl rfl rfl rfl (by decide) (fun o0 m0 => ?_)
   refine r_pick_f sv m0 rfl rfl rfl rfl (by decide) (fun o0 j0 => ?_)
   refine wpList_nil ?_
   exact x_then_n ⟨(j0.sub (rc rfl (rc rfl (rc rfl (rc rfl (rc (rb rfl (by first | rfl | (simp only [f0, bl]; done) | (simp [f0]; done) | (simp [f0]; omega))) (rc rfl rnl))))))), n0⟩
 rintro j0 n0 ⟨f0, o0⟩
 refine mv f0 (fun n0 j0 => ?_)
 refine l_join (fun ga gw => Reg ga 153 [(0, .slice aA a.length ac), (1, .slice fA f.length fc), (2, .slice sA s.length sc), (6, .bool false), (58, .bool (((((((((heavyB 60 a) || (heavyB 60 f)) || (heavyB 60 s)) || (decide (3 < ((csK f f.length : Nat) : Int)))) || (!(decide (((chk a)) = 0)))) || (!(decide (((chk f)) = 0)))) || (!(decide (((chk s)) = 0)))) || (decide (25 < ((dpL f : Nat) : Int)))) || (decide (50 < ((dpL a : Nat) : Int))))), (1000000, .bool false)] ∧ St w0 Z none_ gw [] [dShapes, dRow 4 aA a.length ac (encNs a), dRow 4 fA f.length fc (encNs f), dRow 4 sA s.length sc (encNs s)]) 4 ?_ ?_
 ·
  rcases Bool.eq_false_or_eq_true (((((((((heavyB 60 a) || (heavyB 60 f)) || (heavyB 60 s)) || (decide (3 < ((csK f f.length : Nat) : Int)))) || (!(decide (((chk a)) = 0)))) || (!(decide (((chk f)) = 0)))) || (!(decide (((chk s)) = 0)))) || (decide (25 < ((dpL f : Nat) : Int))))) with n0 | n0
  ·
   have f0 := n0
   try simp only [Bool.or_eq_true, Bool.and_eq_true, Bool.not_eq_true', Bool.not_eq_false', decide_eq_true_eq, decide_eq_false_iff_not, Bool.or_eq_false_iff, Bool.and_eq_false_iff] at f0
   have f0 := j0.setb (d := 54) (b := true) rfl n0
   refine sps f0 (wff f0) (fun m0 k0 => ?_)
   refine sps k0 (wff k0) (fun m0 f0 => ?_)
   refine sps f0 (wff f0) (fun m0 k0 => ?_)
   refine r_pick_t sv k0 rfl rfl rfl rfl (by decide) (fun m0 f0 => ?_)
   refine wpList_nil ?_
   exact x_then_n ⟨(f0.sub (rc rfl (rc rfl (rc rfl (rc rfl (rc (rb rfl (by first | rfl | (simp only [n0, bl]; done) | (simp [n0]; done) | (simp [n0]; omega))) (rc rfl rnl))))))), o0⟩
  ·
   have f0 := or_fl n0
   have m0 := or_fl f0
   have k0 := or_fl m0
   have p0 := or_fl k0
   have i0 := or_fl p0
   have b0 := or_fl i0
   have t0 := or_fl b0
   obtain ⟨hla, hsa⟩ := heavy_false t0
   have t0 := or_fr b0
   obtain ⟨hlf, hsf⟩ := heavy_false t0
   have t0 := or_fr i0
   obtain ⟨hls, hss⟩ := heavy_false t0
   have t0 := or_fr p0
   have p0 := of_decide_eq_false t0
   have p0 := or_fr k0
   have k0 := not_f p0
   have p0 := of_decide_eq_true k0
   have hca := p0
   have hma := meas_chk p0
   have hpa := chk_pos p0
   have p0 := or_fr m0
   have m0 := not_f p0
   have p0 := of_decide_eq_true m0
   have hcf := p0
   have hmf := meas_chk p0
   have hpf := chk_pos p0
   have p0 := or_fr f0
   have f0 := not_f p0
   have p0 := of_decide_eq_true f0
   have hcs := p0
   have hms := meas_chk p0
   have hps := chk_pos p0
   have p0 := or_fr n0
   have f0 := of_decide_eq_false p0
   have f0 := j0.setb (d := 54) (b := false) rfl n0
   refine r_move (st_listV_w (wt f0)) f0 rfl rfl rfl (by decide) (fun j0 p0 => ?_)
   have j0 := o0.nf
   refine k_call (xs := [.tmp 55]) (st_list_w (wt p0)) p0 rfl rfl rfl (by decide) ok12 (rdeep_calls _ _ j0.il _ _ _ (j0.g 1) (hl := (by omega)) (hsm := (by assumption)) (hb := (by assumption))) ?_
   rintro p0 o0 ⟨rfl, f0⟩
   have o0 := j0.below f0.below
   refine ⟨_, rfl, fun f0 j0 => ?_⟩
   refine r_gtr (st_listV_w (wt j0)) j0 rfl rfl rfl rfl (by decide) (fun f0 p0 => ?_)
   refine r_pick_f sv p0 rfl rfl rfl rfl (by decide) (fun f0 j0 => ?_)
   refine wpList_nil ?_
   exact x_then_n ⟨(j0.sub (rc rfl (rc rfl (rc rfl (rc rfl (rc (rb rfl (by first | rfl | (simp only [n0, bl]; done) | (simp [n0]; done) | (simp [n0]; omega))) (rc rfl rnl))))))), o0⟩
 rintro j0 o0 ⟨n0, f0⟩
 refine mv n0 (fun o0 j0 => ?_)
 refine l_join (fun ga gw => Reg ga 153 [(0, .slice aA a.length ac), (1, .slice fA f.length fc), (2, .slice sA s.length sc), (6, .bool false), (63, .bool ((((((((((heavyB 60 a) || (heavyB 60 f)) || (heavyB 60 s)) || (decide (3 < ((csK f f.length : Nat) : Int)))) || (!(decide (((chk a)) = 0)))) || (!(decide (((chk f)) = 0)))) || (!(decide (((chk s)) = 0)))) || (decide (25 < ((dpL f : Nat) : Int)))) || (decide (50 < ((dpL a : Nat) : Int)))) || (decide (50 < ((dpL s : Nat) : Int))))), (1000000, .bool false)] ∧ St w0 Z none_ gw [] [dShapes, dRow 4 aA a.length ac (encNs a), dRow 4 fA f.length fc (encNs f), dRow 4 sA s.length sc (encNs s)]) 4 ?_ ?_
 ·
  rcases Bool.eq_false_or_eq_true ((((((((((heavyB 60 a) || (heavyB 60 f)) || (heavyB 60 s)) || (decide (3 < ((csK f f.length : Nat) : Int)))) || (!(decide (((chk a)) = 0)))) || (!(decide (((chk f)) = 0)))) || (!(decide (((chk s)) = 0)))) || (decide (25 < ((dpL f : Nat) : Int)))) || (decide (50 < ((dpL a : Nat) : Int))))) with o0 | o0
  ·
   have n0 := o0
   try simp only [Bool.or_eq_true, Bool.and_eq_true, Bool.not_eq_true', Bool.not_eq_false', decide_eq_true_eq, decide_eq_false_iff_not, Bool.or_eq_false_iff, Bool.and_eq_false_iff] at n0
   have n0 := j0.setb (d := 59) (b := true) rfl o0
   refine sps n0 (wff n0) (fun p0 m0 => ?_)
   refine sps m0 (wff m0) (fun p0 n0 => ?_)
   refine sps n0 (wff n0) (fun p0 m0 => ?_)
   refine r_pick_t sv m0 rfl rfl rfl rfl (by decide) (fun p0 n0 => ?_)
   refine wpList_nil ?_
   exact x_then_n ⟨(n0.sub (rc rfl (rc rfl (rc rfl (rc rfl (rc (rb rfl (by first | rfl | (simp only [o0, bl]; done) | (simp [o0]; done) | (simp [o0]; omega))) (rc rfl rnl))))))), f0⟩
  ·
   have n0 := or_fl o0
   have p0 := or_fl n0
   have m0 := or_fl p0
   have k0 := or_fl m0
   have t0 := or_fl k0
   have i0 := or_fl t0
   have b0 := or_fl i0
   have u0 := or_fl b0
   obtain ⟨hla, hsa⟩ := heavy_false u0
   have u0 := or_fr b0
   obtain ⟨hlf, hsf⟩ := heavy_false u0
   have u0 := or_fr i0
   obtain ⟨hls, hss⟩ := heavy_false u0
   have u0 := or_fr t0
   have t0 := of_decide_eq_false u0
   have t0 := or_fr k0
   have k0 := not_f t0
   have t0 := of_decide_eq_true k0
   have hca := t0
   have hma := meas_chk t0
   have hpa := chk_pos t0
   have t0 := or_fr m0
   have m0 := not_f t0
   have t0 := of_decide_eq_true m0
   have hcf := t0
   have hmf := meas_chk t0
   have hpf := chk_pos t0
   have t0 := or_fr p0
   have p0 := not_f t0
   have t0 := of_decide_eq_true p0
   have hcs := t0
   have hms := meas_chk t0
   have hps := chk_pos t0
   have t0 := or_fr n0
   have n0 := of_decide_eq_false t0
   have n0 := or_fr o0
   have t0 := of_decide_eq_false n0
   have t0 := j0.setb (d := 59) (b := false) rfl o0
   refine r_move (st_listV_w (wt t0)) t0 rfl rfl rfl (by decide) (fun j0 n0 => ?_)
   have j0 := f0.nf
   refine k_call (xs := [.tmp 60]) (st_list_w (wt n0)) n0 rfl rfl rfl (by decide) ok12 (rdeep_calls _ _ j0.il _ _ _ (j0.g 3) (hl := (by omega)) (hsm := (by assumption)) (hb := (by assumption))) ?_
   rintro n0 f0 ⟨rfl, t0⟩
   have f0 := j0.below t0.below
   refine ⟨_, rfl, fun t0 j0 => ?_⟩
   refine r_gtr (st_listV_w (wt j0)) j0 rfl rfl rfl rfl (by decide) (fun t0 n0 => ?_)
   refine r_pick_f sv n0 rfl rfl rfl rfl (by decide) (fun t0 j0 => ?_)
   refine wpList_nil ?_
   exact x_then_n ⟨(j0.sub (rc rfl (rc rfl (rc rfl (rc rfl (rc (rb rfl (by first | rfl | (simp only [o0, bl]; done) | (simp [o0]; done) | (simp [o0]; omega))) (rc rfl rnl))))))), f0⟩
 rintro j0 f0 ⟨o0, t0⟩
 refine mv o0 (fun f0 j0 => ?_)
 refine l_join (fun ga gw => Reg ga 153 [(0, .slice aA a.length ac), (1, .slice fA f.length fc), (2, .slice sA s.length sc), (6, .bool false), (67, .bool (((((((((((heavyB 60 a) || (heavyB 60 f)) || (heavyB 60 s)) || (decide (3 < ((csK f f.length : Nat) : Int)))) || (!(decide (((chk a)) = 0)))) || (!(decide (((chk f)) = 0)))) || (!(decide (((chk s)) = 0)))) || (decide (25 < ((dpL f : Nat) : Int)))) || (decide (50 < ((dpL a : Nat) : Int)))) || (decide (50 < ((dpL s : Nat) : Int)))) || (!true))), (1000000, .bool false)] ∧ St w0 Z none_ gw [] [dShapes, dRow 4 aA a.length ac (encNs a), dRow 4 fA f.length fc (encNs f), dRow 4 sA s.length sc (encNs s)]) 3 ?_ ?_
 ·
  rcases Bool.eq_false_or_eq_true (((((((((((heavyB 60 a) || (heavyB 60 f)) || (heavyB 60 s)) || (decide (3 < ((csK f f.length : Nat) : Int)))) || (!(decide (((chk a)) = 0)))) || (!(decide (((chk f)) = 0)))) || (!(decide (((chk s)) = 0)))) || (decide (25 < ((dpL f : Nat) : Int)))) || (decide (50 < ((dpL a : Nat) : Int)))) || (decide (50 < ((dpL s : Nat) : Int))))) with f0 | f0
  ·
   have o0 := f0
   try simp only [Bool.or_eq_true, Bool.and_eq_true, Bool.not_eq_true', Bool.not_eq_false', decide_eq_true_eq, decide_eq_false_iff_not, Bool.or_eq_false_iff, Bool.and_eq_false_iff] at o0
   have o0 := j0.setb (d := 64) (b := true) rfl f0
   refine sps o0 (wff o0) (fun n0 p0 => ?_)
   refine sps p0 (wff p0) (fun n0 o0 => ?_)
   refine r_pick_t sv o0 rfl rfl rfl rfl (by decide) (fun n0 p0 => ?_)
   refine wpList_nil ?_
   exact x_then_n ⟨(p0.sub (rc rfl (rc rfl (rc rfl (rc rfl (rc (rb rfl (by first | rfl | (simp only [f0, bl]; done) | (simp [f0]; done) | (simp [f0]; omega))) (rc rfl rnl))))))), t0⟩
  ·
   have p0 := or_fl f0
   have n0 := or_fl p0
   have o0 := or_fl n0
   have m0 := or_fl o0
   have k0 := or_fl m0
   have u0 := or_fl k0
   have i0 := or_fl u0
   have b0 := or_fl i0
   have v0 := or_fl b0
   obtain ⟨hla, hsa⟩ := heavy_false v0
   have v0 := or_fr b0
   obtain ⟨hlf, hsf⟩ := heavy_false v0
   have v0 := or_fr i0
   obtain ⟨hls, hss⟩ := heavy_false v0
   have v0 := or_fr u0
   have u0 := of_decide_eq_false v0
   have u0 := or_fr k0
   have k0 := not_f u0
   have u0 := of_decide_eq_true k0
   have hca := u0
   have hma := meas_chk u0
   have hpa := chk_pos u0
   have u0 := or_fr m0
   have m0 := not_f u0
   have u0 := of_decide_eq_true m0
   have hcf := u0
   have hmf := meas_chk u0
   have hpf := chk_pos u0
   have u0 := or_fr o0
   have o0 := not_f u0
   have u0 := of_decide_eq_true o0
   have hcs := u0
   have hms := meas_chk u0
   have hps := chk_pos u0
   have u0 := or_fr n0
   have n0 := of_decide_eq_false u0
   have n0 := or_fr p0
   have p0 := of_decide_eq_false n0
   have p0 := or_fr f0
   have n0 := of_decide_eq_false p0
   have n0 := j0.setb (d := 64) (b := false) rfl f0
   have j0 := t0.nf
   refine k_call (xs := []) (st_list_w (wt n0)) n0 rfl rfl rfl (by decide) ok8 (shown16_calls _ _ j0.il (j0.g 0)) ?_
   rintro n0 t0 ⟨rfl, p0⟩
   have t0 := j0.below p0.below
   refine ⟨_, rfl, fun p0 j0 => ?_⟩
   refine r_not (st_listV_w (wt j0)) j0 rfl rfl rfl (by decide) (fun p0 n0 => ?_)
   refine r_pick_f sv n0 rfl rfl rfl rfl (by decide) (fun p0 j0 => ?_)
   refine wpList_nil ?_
   exact x_then_n ⟨(j0.sub (rc rfl (rc rfl (rc rfl (rc rfl (rc (rb rfl (by first | rfl | (simp only [f0, bl]; done) | (simp [f0]; done) | (simp [f0]; omega))) (rc rfl rnl))))))), t0⟩
 rintro j0 t0 ⟨f0, p0⟩
 refine wpList_nil (x_then_n (d0 _ _ ?_))
 rcases Bool.eq_false_or_eq_true ((((((((((((heavyB 60 a) || (heavyB 60 f)) || (heavyB 60 s)) || (decide (3 < ((csK f f.length : Nat) : Int)))) || (!(decide (((chk a)) = 0)))) || (!(decide (((chk f)) = 0)))) || (!(decide (((chk s)) = 0)))) || (decide (25 < ((dpL f : Nat) : Int)))) || (decide (50 < ((dpL a : Nat) : Int)))) || (decide (50 < ((dpL s : Nat) : Int)))) || (!true))) with d0 | d0
 ·
  have t0 := d0
  try simp only [Bool.or_eq_true, Bool.and_eq_true, Bool.not_eq_true', Bool.not_eq_false', decide_eq_true_eq, decide_eq_false_iff_not, Bool.or_eq_false_iff, Bool.and_eq_false_iff] at t0
  have t0 := f0.setb (d := 67) (b := true) rfl d0
  refine wp_cond_true (t0.ev rfl) ?_
  refine wsc (fun j0 n0 => ?_)
  have j0 := p0.nf
  refine k_call (xs := []) se t0 rfl rfl rfl (by decide) ok8 (shown16_calls _ _ j0.il (j0.g 0)) ?_
  rintro t0 u0 ⟨rfl, o0⟩
  have u0 := j0.below o0.below
  refine ⟨_, rfl, fun o0 j0 => ?_⟩
  refine asg j0 (fun o0 t0 => ?_)
  refine wpList_nil (x_then_n (n0 _ _ ?_))
  refine wp_ret ?_
  refine x_then_r ?_
  refine e_ret1 t0 rfl rfl rfl ?_
  refine ⟨?_, u0.fr⟩
  exact congrArg Ending.returned (ret_b (by first | rfl | omega | assumption | exact decide_eq_true (by assumption) | (have u0 := d0; (try simp at u0);  omega) | (simp [d0]; done) | (simp [] at *; done) | (simp [d0] <;> omega) | (rw [Bool.eq_iff_iff]; simp [d0] <;> omega) | (rw [Bool.eq_iff_iff]; simp [d0] at * <;> omega)))
 ·
  have t0 := or_fl d0
  have n0 := or_fl t0
  have o0 := or_fl n0
  have j0 := or_fl o0
  have m0 := or_fl j0
  have k0 := or_fl m0
  have v0 := or_fl k0
  have i0 := or_fl v0
  have b0 := or_fl i0
  have x0 := or_fl b0
  obtain ⟨hla, hsa⟩ := heavy_false x0
  have y0 := or_fr b0
  obtain ⟨hlf, hsf⟩ := heavy_false y0
  have b0 := or_fr i0
  obtain ⟨hls, hss⟩ := heavy_false b0
  have i0 := or_fr v0
  have v0 := of_decide_eq_false i0
  have i0 := or_fr k0
  have k0 := not_f i0
  have i0 := of_decide_eq_true k0
  have hca := i0
  have hma := meas_chk i0
  have hpa := chk_pos i0
  have k0 := or_fr m0
  have m0 := not_f k0
  have k0 := of_decide_eq_true m0
  have hcf := k0
  have hmf := meas_chk k0
  have hpf := chk_pos k0
  have m0 := or_fr j0
  have j0 := not_f m0
  have m0 := of_decide_eq_true j0
  have hcs := m0
  have hms := meas_chk m0
  have hps := chk_pos m0
  have j0 := or_fr o0
  have o0 := of_decide_eq_false j0
  have j0 := or_fr n0
  have n0 := of_decide_eq_false j0
  have j0 := or_fr t0
  have t0 := of_decide_eq_false j0
  have j0 := or_fr d0
  have z0 := not_f j0
  have j0 := f0.setb (d := 67) (b := false) rfl d0
  refine wp_cond_false (j0.ev rfl) ?_
  refine wp_skip ?_
  refine x_then_n (c0 _ _ ?_)
  refine wsc (fun c0 f0 => ?_)
  refine mv j0 (fun c0 b1 => ?_)
  have c0 := p0.nf
  refine k_call (xs := [.tmp 70]) se b1 rfl rfl rfl (by decide) ok13 (rfree_calls _ _ c0.il _ _ _ (c0.g 2) (hl := (by omega)) (hsm := (by assumption))) ?_
  rintro b1 p0 ⟨rfl, j0⟩
  have p0 := c0.below j0.below
  refine ⟨_, rfl, fun j0 c0 => ?_⟩
  refine mv c0 (fun j0 b1 => ?_)
  refine r_extract sv b1 rfl rfl rfl rfl (by decide) (fun j0 c0 => ?_)
  refine r_extract sv c0 rfl rfl rfl rfl (by decide) (fun j0 b1 => ?_)
  refine asg b1 (fun j0 c0 => ?_)
  refine asg c0 (fun j0 b1 => ?_)
  refine wpList_nil (x_then_n (f0 _ _ ?_))
  refine wp_seq_k (fun f0 j0 => ?_)
  refine wsc (fun f0 c0 => ?_)
  refine mv b1 (fun f0 c1 => ?_)
  refine r_neq sv c1 rfl rfl rfl rfl (by decide) (fun f0 b1 => ?_)
  refine mv b1 (fun f0 c1 => ?_)
  have f0 := c1.setb (d := 76) (b := false) rfl (by rw [(decide_eq_true k0)]; rfl)
  refine r_move (st_listV_w (wt f0)) f0 rfl rfl rfl (by decide) (fun c1 b1 => ?_)
  refine r_gtr (st_listV_w (wt b1)) b1 rfl rfl rfl rfl (by decide) (fun c1 f0 => ?_)
  refine r_pick_f sv f0 rfl rfl rfl rfl (by decide) (fun c1 b1 => ?_)
  refine mv b1 (fun c1 f0 => ?_)
  refine l_join (fun ga gw => Reg ga 153 [(0, .slice aA a.length ac), (1, .slice fA f.length fc), (2, .slice sA s.length sc), (6, .bool false), (85, .bool ((decide (20 < ((frF f)))) || (decide ((((nth f (f.length - 1)).K)) = 4)))), (1000000, .bool false)] ∧ St w0 Z none_ gw [] [dShapes, dRow 4 aA a.length ac (encNs a), dRow 4 fA f.length fc (encNs f), dRow 4 sA s.length sc (encNs s)]) 5 ?_ ?_
  ·
   rcases Decidable.em (20 < ((frF f))) with c1 | c1
   ·
    have b1 := f0.setb (d := 80) (b := true) rfl (decide_eq_true c1)
    refine sps b1 (wff b1) (fun d1 f1 => ?_)
    refine sps f1 (wff f1) (fun d1 b1 => ?_)
    refine sps b1 (wff b1) (fun d1 f1 => ?_)
    refine sps f1 (wff f1) (fun d1 b1 => ?_)
    refine r_pick_t sv b1 rfl rfl rfl rfl (by decide) (fun d1 f1 => ?_)
    refine wpList_nil ?_
    exact x_then_n ⟨(f1.sub (rc rfl (rc rfl (rc rfl (rc rfl (rc (rb rfl (by first | rfl | (simp only [decide_eq_true c1, if_pos c1, bl]; done) | (simp [c1]; done) | (simp [c1]; omega))) (rc rfl rnl))))))), p0⟩
   ·
    have f1 := f0.setb (d := 80) (b := false) rfl (decide_eq_false c1)
    refine r_move (st_listV_w (wt f1)) f1 rfl rfl rfl (by decide) (fun f0 d1 => ?_)
    have f0 := p0.nf
    refine k_call (xs := [.tmp 81]) (st_list_w (wt d1)) d1 rfl rfl rfl (by decide) ok14 (rroot_calls _ _ f0.il _ _ _ (f0.g 2) (hl := (by omega)) (h0 := (by assumption))) ?_
    rintro d1 p0 ⟨rfl, f1⟩
    have p0 := f0.below f1.below
    refine ⟨_, rfl, fun f1 f0 => ?_⟩
    refine m_fieldV (v := .int .i64 (((nth f (f.length - 1)).K))) (st_listV_w (wt f0)) f0 rfl rfl rfl (fun _ => by kernel_rfl) (by decide) (fun f1 d1 => ?_)
    refine r_eql (st_listV_w (wt d1)) d1 rfl rfl rfl rfl (by decide) (fun f1 f0 => ?_)
    refine r_pick_f sv f0 rfl rfl rfl rfl (by decide) (fun f1 d1 => ?_)
    refine wpList_nil ?_
    exact x_then_n ⟨(d1.sub (rc rfl (rc rfl (rc rfl (rc rfl (rc (rb rfl (by first | rfl | (simp only [decide_eq_false c1, if_neg c1, bl]; done) | (simp [c1]; done) | (simp [c1]; omega))) (rc rfl rnl))))))), p0⟩
  rintro d1 p0 ⟨c1, f1⟩
  refine mv c1 (fun p0 d1 => ?_)
  refine l_join (fun ga gw => Reg ga 153 [(0, .slice aA a.length ac), (1, .slice fA f.length fc), (2, .slice sA s.length sc), (6, .bool false), (91, .bool (((decide (20 < ((frF f)))) || (decide ((((nth f (f.length - 1)).K)) = 4))) || (decide ((((nth f (f.length - 1)).K)) = 7)))), (1000000, .bool false)] ∧ St w0 Z none_ gw [] [dShapes, dRow 4 aA a.length ac (encNs a), dRow 4 fA f.length fc (encNs f), dRow 4 sA s.length sc (encNs s)]) 5 ?_ ?_
  ·
   rcases Bool.eq_false_or_eq_true (((decide (20 < ((frF f)))) || (decide ((((nth f (f.length - 1)).K)) = 4)))) with p0 | p0
   ·
    have c1 := p0
    try simp only [Bool.or_eq_true, Bool.and_eq_true, Bool.not_eq_true', Bool.not_eq_false', decide_eq_true_eq, decide_eq_false_iff_not, Bool.or_eq_false_iff, Bool.and_eq_false_iff] at c1
    have c1 := d1.setb (d := 86) (b := true) rfl p0
    refine sps c1 (wff c1) (fun f0 b1 => ?_)
    refine sps b1 (wff b1) (fun f0 c1 => ?_)
    refine sps c1 (wff c1) (fun f0 b1 => ?_)
    refine sps b1 (wff b1) (fun f0 c1 => ?_)
    refine r_pick_t sv c1 rfl rfl rfl rfl (by decide) (fun f0 b1 => ?_)
    refine wpList_nil ?_
    exact x_then_n ⟨(b1.sub (rc rfl (rc rfl (rc rfl (rc rfl (rc (rb rfl (by first | rfl | (simp only [p0, bl]; done) | (simp [p0]; done) | (simp [p0]; omega))) (rc rfl rnl))))))), f1⟩
   ·
    have b1 := or_fl p0
    have f0 := of_decide_eq_false b1
    have f0 := or_fr p0
    have b1 := of_decide_eq_false f0
    have b1 := d1.setb (d := 86) (b := false) rfl p0
    refine r_move (st_listV_w (wt b1)) b1 rfl rfl rfl (by decide) (fun d1 f0 => ?_)
    have d1 := f1.nf
    refine k_call (xs := [.tmp 87]) (st_list_w (wt f0)) f0 rfl rfl rfl (by decide) ok14 (rroot_calls _ _ d1.il _ _ _ (d1.g 2) (hl := (by omega)) (h0 := (by assumption))) ?_
    rintro f0 f1 ⟨rfl, b1⟩
    have f1 := d1.below b1.below
    refine ⟨_, rfl, fun b1 d1 => ?_⟩
    refine m_fieldV (v := .int .i64 (((nth f (f.length - 1)).K))) (st_listV_w (wt d1)) d1 rfl rfl rfl (fun _ => by kernel_rfl) (by decide) (fun b1 f0 => ?_)
    refine r_eql (st_listV_w (wt f0)) f0 rfl rfl rfl rfl (by decide) (fun b1 d1 => ?_)
    refine r_pick_f sv d1 rfl rfl rfl rfl (by decide) (fun b1 f0 => ?_)
    refine wpList_nil ?_
    exact x_then_n ⟨(f0.sub (rc rfl (rc rfl (rc rfl (rc rfl (rc (rb rfl (by first | rfl | (simp only [p0, bl]; done) | (simp [p0]; done) | (simp [p0]; omega))) (rc rfl rnl))))))), f1⟩
  rintro f0 f1 ⟨p0, b1⟩
  refine mv p0 (fun f1 f0 => ?_)
  refine l_join (fun ga gw => Reg ga 153 [(0, .slice aA a.length ac), (1, .slice fA f.length fc), (2, .slice sA s.length sc), (6, .bool false), (97, .bool ((((decide (20 < ((frF f)))) || (decide ((((nth f (f.length - 1)).K)) = 4))) || (decide ((((nth f (f.length - 1)).K)) = 7))) || (decide ((((nth f (f.length - 1)).K)) = 20)))), (1000000, .bool false)] ∧ St w0 Z none_ gw [] [dShapes, dRow 4 aA a.length ac (encNs a), dRow 4 fA f.length fc (encNs f), dRow 4 sA s.length sc (encNs s)]) 5 ?_ ?_
  ·
   rcases Bool.eq_false_or_eq_true ((((decide (20 < ((frF f)))) || (decide ((((nth f (f.length - 1)).K)) = 4))) || (decide ((((nth f (f.length - 1)).K)) = 7)))) with f1 | f1
   ·
    have p0 := f1
    try simp only [Bool.or_eq_true, Bool.and_eq_true, Bool.not_eq_true', Bool.not_eq_false', decide_eq_true_eq, decide_eq_false_iff_not, Bool.or_eq_false_iff, Bool.and_eq_false_iff] at p0
    have p0 := f0.setb (d := 92) (b := true) rfl f1
    refine sps p0 (wff p0) (fun d1 c1 => ?_)
    refine sps c1 (wff c1) (fun d1 p0 => ?_)
    refine sps p0 (wff p0) (fun d1 c1 => ?_)
    refine sps c1 (wff c1) (fun d1 p0 => ?_)
    refine r_pick_t sv p0 rfl rfl rfl rfl (by decide) (fun d1 c1 => ?_)
    refine wpList_nil ?_
    exact x_then_n ⟨(c1.sub (rc rfl (rc rfl (rc rfl (rc rfl (rc (rb rfl (by first | rfl | (simp only [f1, bl]; done) | (simp [f1]; done) | (simp [f1]; omega))) (rc rfl rnl))))))), b1⟩
   ·
    have c1 := or_fl f1
    have d1 := or_fl c1
    have p0 := of_decide_eq_false d1
    have p0 := or_fr c1
    have c1 := of_decide_eq_false p0
    have c1 := or_fr f1
    have p0 := of_decide_eq_false c1
    have p0 := f0.setb (d := 92) (b := false) rfl f1
    refine r_move (st_listV_w (wt p0)) p0 rfl rfl rfl (by decide) (fun f0 c1 => ?_)
    have f0 := b1.nf
    refine k_call (xs := [.tmp 93]) (st_list_w (wt c1)) c1 rfl rfl rfl (by decide) ok14 (rroot_calls _ _ f0.il _ _ _ (f0.g 2) (hl := (by omega)) (h0 := (by assumption))) ?_
    rintro c1 b1 ⟨rfl, p0⟩
    have b1 := f0.below p0.below
    refine ⟨_, rfl, fun p0 f0 => ?_⟩
    refine m_fieldV (v := .int .i64 (((nth f (f.length - 1)).K))) (st_listV_w (wt f0)) f0 rfl rfl rfl (fun _ => by kernel_rfl) (by decide) (fun p0 c1 => ?_)
    refine r_eql (st_listV_w (wt c1)) c1 rfl rfl rfl rfl (by decide) (fun p0 f0 => ?_)
    refine r_pick_f sv f0 rfl rfl rfl rfl (by decide) (fun p0 c1 => ?_)
    refine wpList_nil ?_
    exact x_then_n ⟨(c1.sub (rc rfl (rc rfl (rc rfl (rc rfl (rc (rb rfl (by first | rfl | (simp only [f1, bl]; done) | (simp [f1]; done) | (simp [f1]; omega))) (rc rfl rnl))))))), b1⟩
  rintro c1 b1 ⟨f1, p0⟩
  refine wpList_nil (x_then_n (c0 _ _ ?_))
  rcases Bool.eq_false_or_eq_true (((((decide (20 < ((frF f)))) || (decide ((((nth f (f.length - 1)).K)) = 4))) || (decide ((((nth f (f.length - 1)).K)) = 7))) || (decide ((((nth f (f.length - 1)).K)) = 20)))) with c0 | c0
  ·
   have b1 := c0
   try simp only [Bool.or_eq_true, Bool.and_eq_true, Bool.not_eq_true', Bool.not_eq_false', decide_eq_true_eq, decide_eq_false_iff_not, Bool.or_eq_false_iff, Bool.and_eq_false_iff] at b1
   have b1 := f1.setb (d := 97) (b := true) rfl c0
   refine wp_cond_true (b1.ev rfl) ?_
   refine wsc (fun c1 f0 => ?_)
   have c1 := p0.nf
   refine k_call (xs := []) se b1 rfl rfl rfl (by decide) ok8 (shown16_calls _ _ c1.il (c1.g 0)) ?_
   rintro b1 d1 ⟨rfl, h1⟩
   have d1 := c1.below h1.below
   refine ⟨_, rfl, fun h1 c1 => ?_⟩
   refine asg c1 (fun h1 b1 => ?_)
   refine wpList_nil (x_then_n (f0 _ _ ?_))
   refine wp_ret ?_
   refine x_then_r ?_
   refine e_ret1 b1 rfl rfl rfl ?_
   refine ⟨?_, d1.fr⟩
   exact congrArg Ending.returned (ret_b (by first | rfl | omega | assumption | exact decide_eq_true (by assumption) | (have u0 := d0; (try simp at u0); have d1 := x0; (try simp at d1); have b1 := y0; (try simp at b1); have f0 := b0; (try simp at f0); have h1 := v0; (try simp at h1); have c1 := i0; (try simp at c1); have i1 := k0; (try simp at i1); have j1 := m0; (try simp at j1); have k1 := o0; (try simp at k1); have m1 := n0; (try simp at m1); have n1 := t0; (try simp at n1); have o1 := z0; (try simp at o1); have p1 := c0; (try simp at p1);  omega) | (simp [d0, x0, y0, b0, v0, i0, k0, m0, o0, n0, t0, z0, c0]; done) | (simp [] at *; done) | (simp [d0, x0, y0, b0, v0, i0, k0, m0, o0, n0, t0, z0, c0] <;> omega) | (rw [Bool.eq_iff_iff]; simp [d0, x0, y0, b0, v0, i0, k0, m0, o0, n0, t0, z0, c0] <;> omega) | (rw [Bool.eq_iff_iff]; simp [d0, x0, y0, b0, v0, i0, k0, m0, o0, n0, t0, z0, c0] at * <;> omega)))
  ·
   have s1 := or_fl c0
   have t1 := or_fl s1
   have u1 := or_fl t1
   have v1 := of_decide_eq_false u1
   have u1 := or_fr t1
   have t1 := of_decide_eq_false u1
   have u1 := or_fr s1
   have s1 := of_decide_eq_false u1
   have u1 := or_fr c0
   have x1 := of_decide_eq_false u1
   have hEt : EtF f := ⟨hcf, hlf, by omega, by omega, t1, s1, x1⟩
   have hu1 := hEt.up.1
   have hul := hEt.ulen
   have u1 := (hEt.lam hca hla (by omega)).1
   have y1 := (hEt.pair hcs hls (by omega)).1
   have hone := hEt.one hca hla (by omega)
   have htwo := hEt.two hcs hls (by omega)
   have z1 := f1.setb (d := 97) (b := false) rfl c0
   refine wp_cond_false (z1.ev rfl) ?_
   refine wp_skip ?_
   refine x_then_n (j0 _ _ ?_)
   refine wsc (fun j0 f1 => ?_)
   refine mv z1 (fun j0 b2 => ?_)
   have j0 := p0.nf
   refine k_call (xs := [.tmp 100, .const (.int .i64 1), .const (.int .i64 0)]) se b2 rfl rfl rfl (by decide) ok15 (rShift_calls _ _ j0.il _ _ _ 1 0 (j0.g 2) (hl := (by omega)) (hsm := (by assumption))) ?_
   rintro b2 p0 ⟨z1, c2, rfl, d2, f2⟩
   have p0 := j0.below d2.below
   have d2 := j0.dN p0 f2
   refine ⟨_, rfl, fun p0 f2 => ?_⟩
   refine mv f2 (fun p0 j0 => ?_)
   refine r_extract sv j0 rfl rfl rfl rfl (by decide) (fun p0 f2 => ?_)
   refine r_extract sv f2 rfl rfl rfl rfl (by decide) (fun p0 j0 => ?_)
   refine asg j0 (fun p0 f2 => ?_)
   refine asg f2 (fun p0 j0 => ?_)
   refine wpList_nil (x_then_n (f1 _ _ ?_))
   refine wp_seq_k (fun f1 p0 => ?_)
   refine wsc (fun f1 f2 => ?_)
   refine mv j0 (fun f1 b2 => ?_)
   refine r_neq sv b2 rfl rfl rfl rfl (by decide) (fun f1 j0 => ?_)
   refine wpList_nil (x_then_n (f2 _ _ ?_))
   have f2 : ((sfE f 1 0)) = 0 := hu1
   have f1 := j0.setb (d := 105) (b := false) rfl (by rw [(decide_eq_true f2)]; rfl)
   refine wp_cond_false (f1.ev rfl) ?_
   refine wp_skip ?_
   refine x_then_n (p0 _ _ ?_)
   refine wsc (fun p0 j0 => ?_)
   refine mv f1 (fun p0 b2 => ?_)
   refine m_build (ps := [(0, .const (.int .i64 0))]) (v := .agg #[.int .i64 0, .int .i64 0, .int .i64 0, .string (⟨#[]⟩ : ByteArray)]) sv b2 rfl rfl rfl (fun _ => by kernel_rfl) (by decide) (fun p0 f1 => ?_)
   refine mbs [(0, .tmp 107)] [.int .i64 0, .int .i64 0, .int .i64 0, .string (⟨#[]⟩ : ByteArray)] sv f1 d2 Tryd.underlying22 zi32 (fun p0 b2 h2 i2 j2 => ?_)
   have b2 := own_cap (j2.res (i := 0) rfl)
   obtain ⟨p0, f1⟩ := j2.row_data (i := 0) rfl (fun _ h => h)
   have j2 := p0.data (dRow 4 (some ⟨h2, 0, none⟩) 1 1 (encNs ([(⟨0, 0, 0, (⟨#[]⟩ : ByteArray)⟩ : Nd)]))) ⟨b2, f1⟩
   have f1 := j2.data (dAll [((z1, c2, sfA f 1 0) : Sl), (((some ⟨h2, 0, none⟩), 1, [(⟨0, 0, 0, (⟨#[]⟩ : ByteArray)⟩ : Nd)]) : Sl)]) (all_cons (j2.get (i := 4) rfl) (all_cons (j2.get (i := 5) rfl) all_nil))
   refine mbs [(0, .tmp 106), (1, .tmp 108)] [.slice z1 ((sfA f 1 0).length) c2, .slice (some ⟨h2, 0, none⟩) 1 1] sv i2 f1 Tryd.underlying39 zi22 (fun j2 p0 b2 d2 k2 => ?_)
   refine asg d2 (fun p0 j2 => ?_)
   refine wpList_nil (x_then_n (j0 _ _ ?_))
   refine wsc (fun j0 p0 => ?_)
   refine mv j2 (fun j0 d2 => ?_)
   refine m_build (ps := [(0, .const (.int .i64 5))]) (v := .agg #[.int .i64 5, .int .i64 0, .int .i64 0, .string (⟨#[]⟩ : ByteArray)]) sv d2 rfl rfl rfl (fun _ => by kernel_rfl) (by decide) (fun j0 j2 => ?_)
   refine mv j2 (fun j0 d2 => ?_)
   have j0 := k2.nf
   have k2 := own_cap (j0.res (i := 0) rfl)
   obtain ⟨j2, f1⟩ := j0.row_data (i := 0) rfl (fun _ h => h)
   have j0 := j2.data (dRow 1 (some ⟨b2, 0, none⟩) 2 2 (encSs ([((z1, c2, sfA f 1 0) : Sl), (((some ⟨h2, 0, none⟩), 1, [(⟨0, 0, 0, (⟨#[]⟩ : ByteArray)⟩ : Nd)]) : Sl)]))) ⟨k2, f1⟩
   refine k_call (xs := [.tmp 111, .tmp 112]) se d2 rfl rfl rfl (by decide) ok16 (rof_calls _ _ j0.il (⟨5, 0, 0, (⟨#[]⟩ : ByteArray)⟩ : Nd) _ _ ([((z1, c2, sfA f 1 0) : Sl), (((some ⟨h2, 0, none⟩), 1, [(⟨0, 0, 0, (⟨#[]⟩ : ByteArray)⟩ : Nd)]) : Sl)]) (j0.g 7) (j0.g 6) (hl := (by simp)) (hb := (by simp [lsts]; omega))) ?_
   rintro d2 f1 ⟨j2, k2, rfl, b2, i2⟩
   have f1 := j0.below b2.below
   have b2 := j0.dN f1 i2
   refine ⟨_, rfl, fun f1 i2 => ?_⟩
   have f1 := b2.data (dAll [((aA, ac, a) : Sl), ((j2, k2, (lsts ([((z1, c2, sfA f 1 0) : Sl), (((some ⟨h2, 0, none⟩), 1, [(⟨0, 0, 0, (⟨#[]⟩ : ByteArray)⟩ : Nd)]) : Sl)])).flatten ++ [(⟨5, 0, 0, (⟨#[]⟩ : ByteArray)⟩ : Nd)]) : Sl)]) (all_cons (b2.get (i := 1) rfl) (all_cons (b2.get (i := 8) rfl) all_nil))
   refine mbs [(0, .tmp 110), (1, .tmp 113)] [.slice aA a.length ac, .slice j2 (((lsts ([((z1, c2, sfA f 1 0) : Sl), (((some ⟨h2, 0, none⟩), 1, [(⟨0, 0, 0, (⟨#[]⟩ : ByteArray)⟩ : Nd)]) : Sl)])).flatten ++ [(⟨5, 0, 0, (⟨#[]⟩ : ByteArray)⟩ : Nd)]).length) k2] sv i2 f1 Tryd.underlying39 zi22 (fun b2 j0 d2 m2 n2 => ?_)
   refine asg m2 (fun j0 b2 => ?_)
   refine wpList_nil (x_then_n (p0 _ _ ?_))
   refine wsc (fun p0 j0 => ?_)
   refine mv b2 (fun p0 m2 => ?_)
   have p0 := n2.data (dAll [((fA, fc, f) : Sl)]) (all_cons (n2.get (i := 2) rfl) all_nil)
   refine mbs [(0, .tmp 115)] [.slice fA f.length fc] sv m2 p0 Tryd.underlying39 zi22 (fun n2 b2 f1 i2 o2 => ?_)
   refine asg i2 (fun b2 n2 => ?_)
   refine wpList_nil (x_then_n (j0 _ _ ?_))
   refine wsc (fun j0 b2 => ?_)
   refine mv n2 (fun j0 i2 => ?_)
   refine m_build (ps := [(0, .const (.int .i64 8))]) (v := .agg #[.int .i64 8, .int .i64 0, .int .i64 0, .string (⟨#[]⟩ : ByteArray)]) sv i2 rfl rfl rfl (fun _ => by kernel_rfl) (by decide) (fun j0 n2 => ?_)
   refine mv n2 (fun j0 i2 => ?_)
   have j0 := o2.nf
   have o2 := own_cap (j0.res (i := 1) rfl)
   obtain ⟨n2, p0⟩ := j0.row_data (i := 1) rfl (fun _ h => h)
   have j0 := n2.data (dRow 1 (some ⟨f1, 0, none⟩) 1 1 (encSs ([((fA, fc, f) : Sl)]))) ⟨o2, p0⟩
   refine k_call (xs := [.tmp 118, .tmp 119]) se i2 rfl rfl rfl (by decide) ok16 (rof_calls _ _ j0.il (⟨8, 0, 0, (⟨#[]⟩ : ByteArray)⟩ : Nd) _ _ ([((fA, fc, f) : Sl)]) (j0.g 11) (j0.g 10) (hl := (by simp)) (hb := (by simp [lsts]; omega))) ?_
   rintro i2 p0 ⟨n2, o2, rfl, f1, m2⟩
   have p0 := j0.below f1.below
   have f1 := j0.dN p0 m2
   refine ⟨_, rfl, fun p0 m2 => ?_⟩
   refine m_build (ps := [(0, .const (.int .i64 9))]) (v := .agg #[.int .i64 9, .int .i64 0, .int .i64 0, .string (⟨#[]⟩ : ByteArray)]) sv m2 rfl rfl rfl (fun _ => by kernel_rfl) (by decide) (fun p0 j0 => ?_)
   refine mv j0 (fun p0 m2 => ?_)
   have p0 := f1.nf
   refine k_call (xs := [.tmp 121, .tmp 122]) se m2 rfl rfl rfl (by decide) ok16 (rof_calls _ _ p0.il (⟨9, 0, 0, (⟨#[]⟩ : ByteArray)⟩ : Nd) _ _ ([((fA, fc, f) : Sl)]) (p0.g 11) (p0.g 10) (hl := (by simp)) (hb := (by simp [lsts]; omega))) ?_
   rintro m2 f1 ⟨j0, i2, rfl, p2, s2⟩
   have f1 := p0.below p2.below
   have p2 := p0.dN f1 s2
   refine ⟨_, rfl, fun f1 s2 => ?_⟩
   have f1 := p2.data (dAll [((sA, sc, s) : Sl), ((n2, o2, (lsts ([((fA, fc, f) : Sl)])).flatten ++ [(⟨8, 0, 0, (⟨#[]⟩ : ByteArray)⟩ : Nd)]) : Sl), ((j0, i2, (lsts ([((fA, fc, f) : Sl)])).flatten ++ [(⟨9, 0, 0, (⟨#[]⟩ : ByteArray)⟩ : Nd)]) : Sl)]) (all_cons (p2.get (i := 3) rfl) (all_cons (p2.get (i := 12) rfl) (all_cons (p2.get (i := 13) rfl) all_nil)))
   refine mbs [(0, .tmp 117), (1, .tmp 120), (2, .tmp 123)] [.slice sA s.length sc, .slice n2 (((lsts ([((fA, fc, f) : Sl)])).flatten ++ [(⟨8, 0, 0, (⟨#[]⟩ : ByteArray)⟩ : Nd)]).length) o2, .slice j0 (((lsts ([((fA, fc, f) : Sl)])).flatten ++ [(⟨9, 0, 0, (⟨#[]⟩ : ByteArray)⟩ : Nd)]).length) i2] sv s2 f1 Tryd.underlying39 zi22 (fun p2 p0 m2 t2 u2 => ?_)
   refine asg t2 (fun p0 p2 => ?_)
   refine wpList_nil (x_then_n (b2 _ _ ?_))
   refine wsc (fun b2 p0 => ?_)
   refine m_build (ps := [(0, .const (.int .i64 4))]) (v := .agg #[.int .i64 4, .int .i64 0, .int .i64 0, .string (⟨#[]⟩ : ByteArray)]) sv p2 rfl rfl rfl (fun _ => by kernel_rfl) (by decide) (fun b2 t2 => ?_)
   refine mv t2 (fun b2 p2 => ?_)
   have b2 := u2.nf
   have u2 := own_cap (b2.res (i := 0) rfl)
   obtain ⟨t2, f1⟩ := b2.row_data (i := 0) rfl (fun _ h => h)
   have b2 := t2.data (dRow 1 (some ⟨d2, 0, none⟩) 2 2 (encSs ([((aA, ac, a) : Sl), ((j2, k2, (lsts ([((z1, c2, sfA f 1 0) : Sl), (((some ⟨h2, 0, none⟩), 1, [(⟨0, 0, 0, (⟨#[]⟩ : ByteArray)⟩ : Nd)]) : Sl)])).flatten ++ [(⟨5, 0, 0, (⟨#[]⟩ : ByteArray)⟩ : Nd)]) : Sl)]))) ⟨u2, f1⟩
   refine k_call (xs := [.tmp 126, .tmp 127]) se p2 rfl rfl rfl (by decide) ok16 (rof_calls _ _ b2.il (⟨4, 0, 0, (⟨#[]⟩ : ByteArray)⟩ : Nd) _ _ ([((aA, ac, a) : Sl), ((j2, k2, (lsts ([((z1, c2, sfA f 1 0) : Sl), (((some ⟨h2, 0, none⟩), 1, [(⟨0, 0, 0, (⟨#[]⟩ : ByteArray)⟩ : Nd)]) : Sl)])).flatten ++ [(⟨5, 0, 0, (⟨#[]⟩ : ByteArray)⟩ : Nd)]) : Sl)]) (b2.g 15) (b2.g 9) (hl := (by simp)) (hb := (by simp [lsts]; omega))) ?_
   rintro p2 f1 ⟨t2, u2, rfl, d2, s2⟩
   have u2 := b2.below d2.below
   have d2 := b2.dN u2 s2
   refine ⟨_, rfl, fun u2 s2 => ?_⟩
   refine mv s2 (fun u2 b2 => ?_)
   have u2 := d2.nf
   refine k_call (xs := [.tmp 128, .tmp 129]) se b2 rfl rfl rfl (by decide) ok9 (vSame_calls _ _ u2.il _ _ ((lsts ([((aA, ac, a) : Sl), ((j2, k2, (lsts ([((z1, c2, sfA f 1 0) : Sl), (((some ⟨h2, 0, none⟩), 1, [(⟨0, 0, 0, (⟨#[]⟩ : ByteArray)⟩ : Nd)]) : Sl)])).flatten ++ [(⟨5, 0, 0, (⟨#[]⟩ : ByteArray)⟩ : Nd)]) : Sl)])).flatten ++ [(⟨4, 0, 0, (⟨#[]⟩ : ByteArray)⟩ : Nd)]) _ _ _ (u2.g 0) (u2.g 16) (u2.g 2) (hla := (by first | omega | (simp [lsts]; omega))) (hlb := (by first | omega | (simp [lsts]; omega))) (hsa := (by first | assumption | (have q := meas_sml (meas_chk u1); simpa [lsts, etL, cN] using q) | (have q := meas_sml (meas_chk y1); simpa [lsts, etP, cN] using q))) (hsb := (by first | assumption | (have q := meas_sml (meas_chk u1); simpa [lsts, etL, cN] using q) | (have q := meas_sml (meas_chk y1); simpa [lsts, etP, cN] using q)))) ?_
   rintro b2 d2 ⟨rfl, s2⟩
   have d2 := u2.below s2.below
   refine ⟨_, rfl, fun s2 u2 => ?_⟩
   refine mv u2 (fun s2 b2 => ?_)
   refine r_extract sv b2 rfl rfl rfl rfl (by decide) (fun s2 u2 => ?_)
   refine r_extract sv u2 rfl rfl rfl rfl (by decide) (fun s2 b2 => ?_)
   refine asg b2 (fun s2 u2 => ?_)
   refine asg u2 (fun s2 b2 => ?_)
   refine wpList_nil (x_then_n (p0 _ _ ?_))
   refine wsc (fun p0 s2 => ?_)
   refine mv b2 (fun p0 u2 => ?_)
   refine m_build (ps := [(0, .const (.int .i64 7))]) (v := .agg #[.int .i64 7, .int .i64 0, .int .i64 0, .string (⟨#[]⟩ : ByteArray)]) sv u2 rfl rfl rfl (fun _ => by kernel_rfl) (by decide) (fun p0 b2 => ?_)
   refine mv b2 (fun p0 u2 => ?_)
   have p0 := d2.nf
   have d2 := own_cap (p0.res (i := 0) rfl)
   obtain ⟨b2, t2⟩ := p0.row_data (i := 0) rfl (fun _ h => h)
   have p0 := b2.data (dRow 1 (some ⟨m2, 0, none⟩) 3 3 (encSs ([((sA, sc, s) : Sl), ((n2, o2, (lsts ([((fA, fc, f) : Sl)])).flatten ++ [(⟨8, 0, 0, (⟨#[]⟩ : ByteArray)⟩ : Nd)]) : Sl), ((j0, i2, (lsts ([((fA, fc, f) : Sl)])).flatten ++ [(⟨9, 0, 0, (⟨#[]⟩ : ByteArray)⟩ : Nd)]) : Sl)]))) ⟨d2, t2⟩
   refine k_call (xs := [.tmp 135, .tmp 136]) se u2 rfl rfl rfl (by decide) ok16 (rof_calls _ _ p0.il (⟨7, 0, 0, (⟨#[]⟩ : ByteArray)⟩ : Nd) _ _ ([((sA, sc, s) : Sl), ((n2, o2, (lsts ([((fA, fc, f) : Sl)])).flatten ++ [(⟨8, 0, 0, (⟨#[]⟩ : ByteArray)⟩ : Nd)]) : Sl), ((j0, i2, (lsts ([((fA, fc, f) : Sl)])).flatten ++ [(⟨9, 0, 0, (⟨#[]⟩ : ByteArray)⟩ : Nd)]) : Sl)]) (p0.g 17) (p0.g 14) (hl := (by simp)) (hb := (by simp [lsts]; omega))) ?_
   rintro u2 t2 ⟨b2, d2, rfl, m2, f1⟩
   have d2 := p0.below m2.below
   have m2 := p0.dN d2 f1
   refine ⟨_, rfl, fun d2 f1 => ?_⟩
   have d2 := m2.nf
   refine k_call (xs := [.tmp 134, .tmp 137]) se f1 rfl rfl rfl (by decide) ok9 (vSame_calls _ _ d2.il _ _ _ _ _ ((lsts ([((sA, sc, s) : Sl), ((n2, o2, (lsts ([((fA, fc, f) : Sl)])).flatten ++ [(⟨8, 0, 0, (⟨#[]⟩ : ByteArray)⟩ : Nd)]) : Sl), ((j0, i2, (lsts ([((fA, fc, f) : Sl)])).flatten ++ [(⟨9, 0, 0, (⟨#[]⟩ : ByteArray)⟩ : Nd)]) : Sl)])).flatten ++ [(⟨7, 0, 0, (⟨#[]⟩ : ByteArray)⟩ : Nd)]) (d2.g 0) (d2.g 2) (d2.g 18) (hla := (by first | omega | (simp [lsts]; omega))) (hlb := (by first | omega | (simp [lsts]; omega))) (hsa := (by first | assumption | (have q := meas_sml (meas_chk u1); simpa [lsts, etL, cN] using q) | (have q := meas_sml (meas_chk y1); simpa [lsts, etP, cN] using q))) (hsb := (by first | assumption | (have q := meas_sml (meas_chk u1); simpa [lsts, etL, cN] using q) | (have q := meas_sml (meas_chk y1); simpa [lsts, etP, cN] using q)))) ?_
   rintro f1 y1 ⟨rfl, u1⟩
   have y1 := d2.below u1.below
   refine ⟨_, rfl, fun u1 d2 => ?_⟩
   refine mv d2 (fun u1 f1 => ?_)
   refine r_extract sv f1 rfl rfl rfl rfl (by decide) (fun u1 d2 => ?_)
   refine r_extract sv d2 rfl rfl rfl rfl (by decide) (fun u1 f1 => ?_)
   refine asg f1 (fun u1 d2 => ?_)
   refine asg d2 (fun u1 f1 => ?_)
   refine wpList_nil (x_then_n (s2 _ _ ?_))
   refine wsc (fun s2 u1 => ?_)
   refine mv f1 (fun s2 d2 => ?_)
   refine mv d2 (fun s2 f1 => ?_)
   have s2 : (smB ((lsts ([((aA, ac, a) : Sl), ((j2, k2, (lsts ([((z1, c2, sfA f 1 0) : Sl), (((some ⟨h2, 0, none⟩), 1, [(⟨0, 0, 0, (⟨#[]⟩ : ByteArray)⟩ : Nd)]) : Sl)])).flatten ++ [(⟨5, 0, 0, (⟨#[]⟩ : ByteArray)⟩ : Nd)]) : Sl)])).flatten ++ [(⟨4, 0, 0, (⟨#[]⟩ : ByteArray)⟩ : Nd)]) f) = true := (by have q := hone.1; simpa [lsts, etL, cN] using q)
   have d2 := f1.setb (d := 142) (b := true) rfl s2
   refine r_move (st_listV_w (wt d2)) d2 rfl rfl rfl (by decide) (fun f1 m2 => ?_)
   refine r_eql (st_listV_w (wt m2)) m2 rfl rfl rfl rfl (by decide) (fun f1 d2 => ?_)
   refine r_pick_t sv d2 rfl rfl rfl rfl (by decide) (fun f1 m2 => ?_)
   refine mv m2 (fun f1 d2 => ?_)
   have f1 : ((smE ((lsts ([((aA, ac, a) : Sl), ((j2, k2, (lsts ([((z1, c2, sfA f 1 0) : Sl), (((some ⟨h2, 0, none⟩), 1, [(⟨0, 0, 0, (⟨#[]⟩ : ByteArray)⟩ : Nd)]) : Sl)])).flatten ++ [(⟨5, 0, 0, (⟨#[]⟩ : ByteArray)⟩ : Nd)]) : Sl)])).flatten ++ [(⟨4, 0, 0, (⟨#[]⟩ : ByteArray)⟩ : Nd)]) f)) = 0 := (by have q := hone.2; simpa [lsts, etL, cN] using q)
   have k2 := d2.setb (d := 146) (b := true) rfl (decide_eq_true f1)
   refine r_move (st_listV_w (wt k2)) k2 rfl rfl rfl (by decide) (fun d2 j2 => ?_)
   refine r_pick_t sv j2 rfl rfl rfl rfl (by decide) (fun d2 k2 => ?_)
   refine mv k2 (fun d2 j2 => ?_)
   have d2 : (smB f ((lsts ([((sA, sc, s) : Sl), ((n2, o2, (lsts ([((fA, fc, f) : Sl)])).flatten ++ [(⟨8, 0, 0, (⟨#[]⟩ : ByteArray)⟩ : Nd)]) : Sl), ((j0, i2, (lsts ([((fA, fc, f) : Sl)])).flatten ++ [(⟨9, 0, 0, (⟨#[]⟩ : ByteArray)⟩ : Nd)]) : Sl)])).flatten ++ [(⟨7, 0, 0, (⟨#[]⟩ : ByteArray)⟩ : Nd)])) = true := (by have q := htwo.1; simpa [lsts, etP, cN] using q)
   have k2 := j2.setb (d := 149) (b := true) rfl d2
   refine r_move (st_listV_w (wt k2)) k2 rfl rfl rfl (by decide) (fun j2 h2 => ?_)
   refine r_eql (st_listV_w (wt h2)) h2 rfl rfl rfl rfl (by decide) (fun j2 k2 => ?_)
   refine r_pick_t sv k2 rfl rfl rfl rfl (by decide) (fun j2 h2 => ?_)
   refine asg h2 (fun j2 k2 => ?_)
   refine wpList_nil (x_then_n (u1 _ _ ?_))
   refine wp_ret ?_
   refine e_ret1 k2 rfl rfl rfl ?_
   have k2 : ((smE f ((lsts ([((sA, sc, s) : Sl), ((n2, o2, (lsts ([((fA, fc, f) : Sl)])).flatten ++ [(⟨8, 0, 0, (⟨#[]⟩ : ByteArray)⟩ : Nd)]) : Sl), ((j0, i2, (lsts ([((fA, fc, f) : Sl)])).flatten ++ [(⟨9, 0, 0, (⟨#[]⟩ : ByteArray)⟩ : Nd)]) : Sl)])).flatten ++ [(⟨7, 0, 0, (⟨#[]⟩ : ByteArray)⟩ : Nd)]))) = 0 := (by have q := htwo.2; simpa [lsts, etP, cN] using q)
   refine ⟨?_, y1.fr⟩
   exact congrArg Ending.returned (ret_b (by first | rfl | omega | assumption | exact decide_eq_true (by assumption) | (have u0 := d0; (try simp at u0); have d1 := x0; (try simp at d1); have b1 := y0; (try simp at b1); have f0 := b0; (try simp at f0); have h1 := v0; (try simp at h1); have c1 := i0; (try simp at c1); have i1 := k0; (try simp at i1); have j1 := m0; (try simp at j1); have k1 := o0; (try simp at k1); have m1 := n0; (try simp at m1); have n1 := t0; (try simp at n1); have o1 := z0; (try simp at o1); have p1 := c0; (try simp at p1); have y1 := v1; (try simp at y1); have i2 := t1; (try simp at i2); have j0 := s1; (try simp at j0); have o2 := x1; (try simp at o2); have n2 := f2; (try simp at n2); have u1 := s2; (try simp at u1); have j2 := f1; (try simp at j2); have h2 := d2; (try simp at h2); have c2 := k2; (try simp at c2);  omega) | (simp [d0, x0, y0, b0, v0, i0, k0, m0, o0, n0, t0, z0, c0, v1, t1, s1, x1, f2, s2, f1, d2, k2]; done) | (simp [] at *; done) | (simp [d0, x0, y0, b0, v0, i0, k0, m0, o0, n0, t0, z0, c0, v1, t1, s1, x1, f2, s2, f1, d2, k2] <;> omega) | (rw [Bool.eq_iff_iff]; simp [d0, x0, y0, b0, v0, i0, k0, m0, o0, n0, t0, z0, c0, v1, t1, s1, x1, f2, s2, f1, d2, k2] <;> omega) | (rw [Bool.eq_iff_iff]; simp [d0, x0, y0, b0, v0, i0, k0, m0, o0, n0, t0, z0, c0, v1, t1, s1, x1, f2, s2, f1, d2, k2] at * <;> omega)))
end Go.Proofs.YthdemmcfnpmmiaaDoor
/- From a row's reading to cells, and back: slices of nodes, the table of shapes, arguments that nobody changed. -/
namespace Go.Proofs.YthdemmcfnpmmiaaDoor
set_option linter.unusedSimpArgs false
set_option linter.unusedVariables false
open Go Go.RowKit Go.WideShapes Go.ChangeShapes
theorem kids : Kids Tryd.prog (· < Tryd.prog.types.size) := kids_rows (by kernel_rfl) (by kernel_rfl)
theorem slicesFull : ∀ t e, t < Tryd.prog.types.size → Tryd.prog.underlying t = some (.slice e) → 0 < Tryd.prog.cellsOf e := slices_full_of Tryd.prog (by kernel_rfl)
theorem ownKnobNone : ownKnob Tryd.prog.godebug = none := by kernel_rfl
section
variable {H : Type} {enc : TypeId × Value → H} {P : Program} {w W W' : World}
theorem trodAll_carry {base : Nat} {sp : Nat → Bool} {held : Bool} : ∀ {ts : List TypeId} {vs : List Value} {ds : List (DataW H)} {ps : List MemPlace},
  DataW.TrodAll enc P W base sp held ts vs ds ps → (∀ p ∈ ps, W.sameAt W' p) → DataW.TrodAll enc P W' base sp held ts vs ds ps
 | [], [], [], _, h, _ => h
 | _ :: _, _ :: _, _ :: _, _, ⟨p, q, ⟨n, h1⟩, h2, e⟩, hs =>
  ⟨p, q, ⟨n, DataW.trod_carry n _ _ _ h1 (fun x hx => hs x (by rw [e]; exact List.mem_append_left _ hx))⟩,
   trodAll_carry h2 (fun x hx => hs x (by rw [e]; exact List.mem_append_right _ hx)), e⟩
 | [], [], _ :: _, _, h, _ => h.elim
 | [], _ :: _, _, _, h, _ => h.elim
 | _ :: _, [], _, _, h, _ => h.elim
 | _ :: _, _ :: _, [], _, h, _ => h.elim
theorem sameAt_below (hb : Below W.heap.size W W') {p : MemPlace} (hp : p.block < W.heap.size) : W.sameAt W' p := by
 cases p with
 | cell b off => exact hb.cell (p := ⟨b, off, none⟩) hp
 | map b => exact hb.block b hp
theorem post_true {f : Func} {s : ChangeSpec} {apart fresh handsOn again : Bool} {args : Array Value} {ds : List (DataW H)} {before : List MemPlace}
  (K : Kids P (· < P.types.size)) (hz : ∀ t e, t < P.types.size → P.underlying t = some (.slice e) → 0 < P.cellsOf e) (hts : ∀ t ∈ f.params.toList, t < P.types.size)
  (hvars : s.vars = []) (hW : DataW.Whole enc P f.params.toList s.vars apart W args.toList ds [] before)
  {tb : TypeId} (hrt : f.resultTypes = #[tb]) (htb : P.underlying tb = some .bool)
  (hfn : (s.fn H ds).results = [.lit (.bool true)] ∧ (s.fn H ds).args = ds ∧ (s.fn H ds).vars = []) (hb : Below W.heap.size W W') :
  s.post enc P f apart fresh handsOn again W args (.bool true) W' := by
 have hlt : ∀ p ∈ before, p.block < W.heap.size := fun p hp => hW.lt p hp
 have hold : ∀ p ∈ before, (fun b => decide (b < W.heap.size)) p.block = true := fun p hp => by simpa using hlt p hp
 have hW0 := hW
 obtain ⟨p, q, hA, hV, he, hzf, hn⟩ := hW0
 rw [hvars] at hV
 have hq : q = [] := hV
 subst hq
 rw [List.append_nil] at he
 subst he
 have hA' := trodAll_carry (W' := W') hA (fun x hx => sameAt_below hb (hlt x hx))
 have hres : ∀ (b : Nat) (sp : Nat → Bool) (hd : Bool), DataW.TrodAll enc P W' b sp hd f.resultTypes.toList ((Value.bool true).resultList f.resultTypes.size) (s.fn H ds).results [] := fun b sp hd => by
  rw [hfn.1, hrt]
  exact trodAll_mk1 (shut_bool htb true)
 refine ⟨ds, [], before, [], before, [], hW, ?_, ?_, ?_, World.keptBut_mono (fun p hp => ⟨hp, .inr (.inl hp)⟩) (hb.frame (· ∈ before)), fun _ => ⟨?_, ?_⟩⟩
 · rw [List.append_nil]; exact hres _ _ _
 ·
  rw [List.append_nil, hfn.2.1]
  exact DataW.TrodAll.respare K hz hts hA' hold
 ·
  rw [List.append_nil, hfn.2.2, hvars]
  exact rfl
 · exact ok_one hrt rfl (okWide_bool_mk htb true)
 ·
  refine ⟨[.lit (.bool true)] ++ ds, [], [] ++ before, ⟨[] ++ before, [], ?_, ?_, by simp, ?_, ?_⟩, ?_⟩
  ·
   rw [hrt]
   exact trodAll_append hA' (trodAll_mk1 (shut_bool htb true))
  ·
   rw [hvars]
   exact rfl
  ·
   intro b off hp
   have hin : MemPlace.cell b off ∈ before := by simpa using hp
   rw [hb.frozen (hlt _ hin)]
   exact hzf b off hin
  ·
   intro ha
   simpa using hn ha
  ·
   intro x hx _
   simpa using hx
end
section
variable {H : Type} {enc : TypeId × Value → H} {w : World}
theorem lt_of_cell {p : Addr} {v : Value} (h : w.cell? p = some v) : p.block < w.heap.size := by
 unfold World.cell? at h
 cases ho : w.heap[p.block]? with
 | none => simp [ho] at h
 | some o => exact (Array.getElem?_eq_some_iff.1 ho).1
set_option maxRecDepth 100000 in
theorem node_cells {base : Nat} {sp : Nat → Bool} {held : Bool} {n : Nat} {cs : List Value} {x : DataW H × List MemPlace} (h : DataW.trod enc Tryd.prog w base sp held n 32 cs = some x) : ∃ nd : Nd, cs = encN nd := by
 have hu : Tryd.prog.underlying 32 = some (.struct (Tryd.prog.fieldsOf 32)) := by kernel_rfl
 have hf : (Tryd.prog.fieldsOf 32).toList.map (fun f => (f.type, f.offset)) = [(3, 0), (3, 1), (3, 2), (9, 3)] := by kernel_rfl
 have hci : Tryd.prog.cellsOf 3 = 1 := by kernel_rfl
 have hcs : Tryd.prog.cellsOf 9 = 1 := by kernel_rfl
 have hcn : Tryd.prog.cellsOf 32 = 4 := by kernel_rfl
 obtain ⟨xs, m, _, _, hl, _, hg⟩ := DataW.trod_struct hu h
 rw [hcn] at hl
 have fld : ∀ (j : Nat) (t : TypeId) (off : Nat), ((Tryd.prog.fieldsOf 32).toList.map (fun f => (f.type, f.offset)))[j]? = some (t, off) → ∃ y, DataW.trod enc Tryd.prog w base sp held m t ((cs.drop off).take (Tryd.prog.cellsOf t)) = some y := by
  intro j t off hj
  rw [List.getElem?_map] at hj
  cases hfj : (Tryd.prog.fieldsOf 32).toList[j]? with
  | none => rw [hfj] at hj; cases hj
  | some f =>
   rw [hfj] at hj
   simp only [Option.map_some, Option.some.injEq, Prod.mk.injEq] at hj
   obtain ⟨rfl, rfl⟩ := hj
   have h1 := hg j f (by rw [← Array.getElem?_toList]; exact hfj)
   have hjl : j < (Tryd.prog.fieldsOf 32).size := by
    have := (List.getElem?_eq_some_iff.1 hfj).1
    simpa using this
   have hxl : j < xs.length := by omega
   exact ⟨xs[j], by rw [h1]; exact List.getElem?_eq_getElem hxl⟩
 rw [hf] at fld
 match cs, hl with
 | [c0, c1, c2, c3], _ =>
  obtain ⟨y0, h0⟩ := fld 0 _ _ rfl
  obtain ⟨y1, h1⟩ := fld 1 _ _ rfl
  obtain ⟨y2, h2⟩ := fld 2 _ _ rfl
  obtain ⟨y3, h3⟩ := fld 3 _ _ rfl
  rw [hci] at h0 h1 h2
  rw [hcs] at h3
  obtain ⟨a, ha, _⟩ := DataW.trod_int Tryd.underlying3 h0
  obtain ⟨b, hb, _⟩ := DataW.trod_int Tryd.underlying3 h1
  obtain ⟨c, hc, _⟩ := DataW.trod_int Tryd.underlying3 h2
  obtain ⟨s, hs, _⟩ := DataW.trod_string Tryd.underlying9 h3
  simp at ha hb hc hs
  exact ⟨⟨a, b, c, s⟩, by simp [encN, ha, hb, hc, hs]⟩
set_option maxRecDepth 100000 in
theorem open_nodes {r : Reach} {base b0 : Nat} {sp : Nat → Bool} {held : Bool} {v : Value} {d : DataW H} {ps : List MemPlace} (hval : Value.okWide Tryd.prog w r b0 22 v) (hd : DataW.Trod enc Tryd.prog w base sp held 22 v d ps) :
  ∃ (A : Option Addr) (c : Nat) (t : List Nd), v = .slice A t.length c ∧ (dRow 4 A t.length c (encNs t)).φ w (fun k => k < w.heap.size) := by
 obtain ⟨A, len, cap, rfl⟩ := okWide_slice Tryd.underlying22 hval
 obtain ⟨fuel, hf⟩ := hd
 have hcn : Tryd.prog.cellsOf 32 = 4 := by kernel_rfl
 rcases Deep.open_slice Tryd.underlying22 hf with ⟨hcs, _⟩ | ⟨a, len', cap', m, n, D, Pl, hcs, _, hl, _, hm, _, hi⟩
 ·
  simp [Value.cells] at hcs
  obtain ⟨rfl, rfl, rfl⟩ := hcs
  exact ⟨none, 0, [], rfl, Nat.le_refl _, rfl, fun h => absurd h (by simp)⟩
 ·
  simp [Value.cells] at hcs
  obtain ⟨rfl, rfl, rfl⟩ := hcs
  have hmm : len ≤ m := by rw [hm]; split <;> omega
  have hnd : ∀ i, ∃ nd : Nd, i < len → w.cells? base (a.add (i * 4)) 4 = some (encN nd) := by
   intro i
   by_cases hil : i < len
   ·
    obtain ⟨cs', hc, ht⟩ := hi i (by omega)
    obtain ⟨nd, rfl⟩ := node_cells ht
    rw [hcn] at hc
    exact ⟨nd, fun _ => hc⟩
   · exact ⟨ndz, fun h => absurd h hil⟩
  obtain ⟨f, hf'⟩ := Classical.axiomOfChoice hnd
  refine ⟨some a, cap, (List.range len).map f, by simp, ?_, ?_, fun hpos => ⟨a, rfl, ?_, ?_⟩⟩
  · simpa using hl
  · exact encNs_length _
  ·
   have hp0 : 0 < len := by simpa using hpos
   obtain ⟨_, _, hat⟩ := World.cells?_some (hf' 0 hp0)
   have h0 := hat 0 (by omega)
   rw [add_of_add] at h0
   have := lt_of_cell (w := w) (p := a.add (0 * 4 + 0)) (by rw [h0]; rfl)
   rwa [block_of_add] at this
  ·
   intro j u hu
   have hjl : j < len * 4 := by
    have h1 := (List.getElem?_eq_some_iff.1 hu).1
    rw [encNs_length] at h1
    simpa using h1
   have hi4 : j / 4 < len := by omega
   obtain ⟨_, hcl, hat⟩ := World.cells?_some (hf' (j / 4) hi4)
   have h1 := hat (j % 4) (by omega)
   rw [add_of_add, show j / 4 * 4 + j % 4 = j by omega] at h1
   rw [h1, ← hu]
   have h2 := enc_at encN_len ((List.range len).map f) (j / 4) (by simpa using hi4) ndz
   have h3 : (((List.range len).map f).getD (j / 4) ndz) = f (j / 4) := by simp [hi4]
   rw [h3] at h2
   have h4 : (encNs ((List.range len).map f))[j]? = (((((List.range len).map f).flatMap encN).drop (j / 4 * 4)).take 4)[j % 4]? := by
    rw [List.getElem?_take_of_lt (by omega), List.getElem?_drop, show j / 4 * 4 + j % 4 = j by omega]
    rfl
   rw [h4, h2]
end
end Go.Proofs.YthdemmcfnpmmiaaDoor
