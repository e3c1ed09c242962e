import Derived.Test.YthdemmcfnpmmiaaDoorWae
import Derived.Test.YthdemmcfnpmmiaaDoorCards
import Derived.Test.YthdemmcfnpmmiaaDoorTie
import Derived.ProofKit
import Derived.OpenShut
import Derived.ReadAgain
import Derived.Deep.DeepHandedRow
import Derived.Deep.Slices
import Derived.Lib.LaidTab
import Derived.Deep.DeepWitnessRowRef
/- Contracts of functions, one theorem each: what the call returns, and that nothing old is changed. Printed by gen.py. -/
namespace Go.Proofs.YthdemmcfnpmmiaaDoor
open Go Go.RowKit
set_option linter.unusedSimpArgs false
set_option linter.unusedVariables false
set_option maxRecDepth 100000 in
set_option maxHeartbeats 1000000 in
theorem heavy16_calls (w0 : World) (Z : Nat → Prop) (hZ : ∀ k, Z k → k < w0.heap.size) (tA : Option Addr) (tc : Nat) (t : List Nd) (ht : (dRow 4 tA t.length tc (encNs t)).φ w0 Z) :
    Calls Tryd.prog 6 [.slice tA t.length tc].toArray w0 (fun e w' => e = .returned (.bool (heavyB 60 t)) ∧ Fr none_ w0 w') := by
 have b0 := s0 (M := none_) hZ (zc ht zn)
 refine c_enter Tryd.func6 rfl Tryd.ntmps6 rfl (fun c0 d0 => ?_)
 refine wsc (fun c0 f0 => ?_)
 refine asg d0 (fun c0 h0 => ?_)
 refine wpList_nil (x_then_n (f0 _ _ ?_))
 refine wp_seq_k (fun f0 c0 => ?_)
 refine wsc (fun f0 d0 => ?_)
 refine mv h0 (fun f0 i0 => ?_)
 refine r_len sv i0 rfl rfl rfl rfl Tryd.underlying22 (by decide) (fun f0 h0 => ?_)
 refine r_gtr sv h0 rfl rfl rfl rfl (by decide) (fun f0 i0 => ?_)
 refine wpList_nil (x_then_n (d0 _ _ ?_))
 rcases Decidable.em (60 < ((t.length : Nat) : Int)) with d0 | d0
 ·
  have f0 := i0.setb (d := 6) (b := true) rfl (decide_eq_true d0)
  refine wp_cond_true (f0.ev rfl) ?_
  refine wsc (fun h0 j0 => ?_)
  refine asg f0 (fun h0 k0 => ?_)
  refine wpList_nil (x_then_n (j0 _ _ ?_))
  refine wp_ret ?_
  refine x_then_r ?_
  refine e_ret1 k0 rfl rfl rfl ?_
  refine ⟨?_, b0.fr⟩
  exact congrArg Ending.returned (ret_b (by first | exact (heavy_len (by omega)).symm | exact (heavy_at (k := k) (by omega) (by omega)).symm | exact (heavy_no hi (by omega) (by omega)).symm))
 ·
  have k0 := i0.setb (d := 6) (b := false) rfl (decide_eq_false d0)
  refine wp_cond_false (k0.ev rfl) ?_
  refine wp_skip ?_
  refine x_then_n (c0 _ _ ?_)
  refine wp_seq_k (fun c0 d0 => ?_)
  refine wsc (fun c0 i0 => ?_)
  refine asg k0 (fun c0 j0 => ?_)
  refine wpList_nil (x_then_n (i0 _ _ ?_))
  refine wp_block ?_
  refine wp_loop_ghost (fun gn ga gw => ∃ k : Nat, (Reg ga 20 [(1000000, .bool false), (0, .slice tA t.length tc), (3, .int .i64 ((k : Nat) : Int))]) ∧ (St w0 Z none_ gw [] [dRow 4 tA t.length tc (encNs t)]) ∧ (k ≤ t.length) ∧ (lightTo t k) ∧ (t.length - k) = gn) _ ⟨0, (j0.sub (rc rfl (rc rfl (rc rfl rnl)))), b0, by omega, (fun _ h => by omega), rfl⟩ ?_
  rintro j0 b0 i0 ⟨k, c0, k0, hk, hi, h0⟩
  refine wp_seq_k (fun h0 i0 => ?_)
  refine wsc (fun h0 b0 => ?_)
  refine mv c0 (fun h0 j0 => ?_)
  refine mv j0 (fun h0 c0 => ?_)
  refine r_len sv c0 rfl rfl rfl rfl Tryd.underlying22 (by decide) (fun h0 j0 => ?_)
  refine r_lss sv j0 rfl rfl rfl rfl (by decide) (fun h0 c0 => ?_)
  refine wpList_nil (x_then_n (b0 _ _ ?_))
  rcases Decidable.em (((k : Nat) : Int) < ((t.length : Nat) : Int)) with b0 | b0
  ·
   have h0 := c0.setb (d := 10) (b := true) rfl (decide_eq_true b0)
   refine wp_cond_true (h0.ev rfl) ?_
   refine wp_skip ?_
   refine x_then_n (i0 _ _ ?_)
   refine wp_seq_k (fun i0 j0 => ?_)
   refine wp_block ?_
   refine wsc (fun i0 f0 => ?_)
   refine mv h0 (fun i0 m0 => ?_)
   refine mv m0 (fun i0 h0 => ?_)
   refine m_index (i := k) (j := k * 4) sv h0 rfl rfl rfl rfl Tryd.underlying22 sz32 (by omega) (by omega) (nds_elem (t := t) (k := k) (k0.row (i := 0) rfl).2 (by omega)).some_ rfl (by decide) (fun i0 m0 => ?_)
   refine m_fieldE (j' := k * 4 + 3) sv m0 rfl rfl rfl (nds_elem (t := t) (k := k) (k0.row (i := 0) rfl).2 (by omega)).some_ Tryd.underlying32 rfl sz9 rfl rfl (by decide) (fun i0 h0 => ?_)
   refine m_loadE sv h0 rfl rfl rfl 3 (k * 4) (nds_elem (t := t) (k := k) (k0.row (i := 0) rfl).2 (by omega)) rfl rfl Tryd.underlying9 rfl (by decide) (fun i0 m0 => ?_)
   refine r_lenS sv m0 rfl rfl rfl rfl Tryd.underlying9 (by decide) (fun i0 h0 => ?_)
   refine r_gtr sv h0 rfl rfl rfl rfl (by decide) (fun i0 m0 => ?_)
   refine wpList_nil (x_then_n (f0 _ _ ?_))
   rcases Decidable.em (100 < ((((nth t k).S).size : Nat) : Int)) with f0 | f0
   ·
    have i0 := m0.setb (d := 19) (b := true) rfl (decide_eq_true f0)
    refine wp_cond_true (i0.ev rfl) ?_
    refine wsc (fun h0 n0 => ?_)
    refine asg i0 (fun h0 o0 => ?_)
    refine wpList_nil (x_then_n (n0 _ _ ?_))
    refine wp_ret ?_
    refine x_block_r ?_
    refine x_then_r ?_
    refine x_then_r ?_
    refine x_block_r ?_
    refine x_then_r ?_
    refine e_ret1 o0 rfl rfl rfl ?_
    refine ⟨?_, k0.fr⟩
    exact congrArg Ending.returned (ret_b (by first | exact (heavy_len (by omega)).symm | exact (heavy_at (k := k) (by omega) (by omega)).symm | exact (heavy_no hi (by omega) (by omega)).symm))
   ·
    have o0 := m0.setb (d := 19) (b := false) rfl (decide_eq_false f0)
    refine wp_cond_false (o0.ev rfl) ?_
    refine wp_skip ?_
    refine x_block_n ?_
    refine x_then_n (j0 _ _ ?_)
    refine c_region ?_
    refine mv o0 (fun j0 f0 => ?_)
    refine r_add (z := ((k + 1 : Nat) : Int)) sv f0 rfl rfl rfl rfl (by decide) (by omega) (by omega) (by omega) (fun j0 o0 => ?_)
    refine asg o0 (fun j0 f0 => ?_)
    refine wpList_nil ?_
    exact ⟨_, by omega, k + 1, (f0.sub (rc rfl (rc rfl (rc rfl rnl)))), k0, by omega, light_step hi (by omega), rfl⟩
  ·
   have f0 := c0.setb (d := 10) (b := false) rfl (decide_eq_false b0)
   refine wp_cond_false (f0.ev rfl) ?_
   refine wp_exit ?_
   refine x_then_e ?_
   refine x_then_e ?_
   refine x_block_eq ?_
   refine x_then_n (d0 _ _ ?_)
   refine wsc (fun d0 b0 => ?_)
   refine asg f0 (fun d0 c0 => ?_)
   refine wpList_nil (x_then_n (b0 _ _ ?_))
   refine wp_ret ?_
   refine e_ret1 c0 rfl rfl rfl ?_
   refine ⟨?_, k0.fr⟩
   exact congrArg Ending.returned (ret_b (by first | exact (heavy_len (by omega)).symm | exact (heavy_at (k := k) (by omega) (by omega)).symm | exact (heavy_no hi (by omega) (by omega)).symm))
set_option maxRecDepth 100000 in
set_option maxHeartbeats 1000000 in
theorem casts16_calls (w0 : World) (Z : Nat → Prop) (hZ : ∀ k, Z k → k < w0.heap.size) (tA : Option Addr) (tc : Nat) (t : List Nd) (ht : (dRow 4 tA t.length tc (encNs t)).φ w0 Z) (hl : t.length ≤ 1000000 := by first | assumption | omega | (simp; done) | (simp; omega)) :
    Calls Tryd.prog 7 [.slice tA t.length tc].toArray w0 (fun e w' => e = .returned (.int .i64 ((csK t t.length : Nat) : Int)) ∧ Fr none_ w0 w') := by
 have b0 := s0 (M := none_) hZ (zc ht zn)
 refine c_enter Tryd.func7 rfl Tryd.ntmps7 rfl (fun c0 d0 => ?_)
 refine wsc (fun c0 f0 => ?_)
 refine asg d0 (fun c0 h0 => ?_)
 refine wpList_nil (x_then_n (f0 _ _ ?_))
 refine wsc (fun f0 c0 => ?_)
 refine asg h0 (fun f0 d0 => ?_)
 refine wpList_nil (x_then_n (c0 _ _ ?_))
 refine wp_seq_k (fun c0 f0 => ?_)
 refine wsc (fun c0 h0 => ?_)
 refine asg d0 (fun c0 i0 => ?_)
 refine wpList_nil (x_then_n (h0 _ _ ?_))
 refine wp_block ?_
 refine wp_loop_ghost (fun gn ga gw => ∃ k : Nat, (Reg ga 20 [(1000000, .bool false), (0, .slice tA t.length tc), (2, .int .i64 0), (4, .int .i64 ((k : Nat) : Int)), (3, .int .i64 ((csK t k : Nat) : Int))]) ∧ (St w0 Z none_ gw [] [dRow 4 tA t.length tc (encNs t)]) ∧ (k ≤ t.length) ∧ (t.length - k) = gn) _ ⟨0, (i0.sub (rc rfl (rc rfl (rc rfl (rc rfl (rc rfl rnl)))))), b0, by omega, rfl⟩ ?_
 rintro i0 b0 h0 ⟨k, c0, d0, hk, j0⟩
 have hck := csK_le t k
 refine wp_seq_k (fun j0 h0 => ?_)
 refine wsc (fun j0 b0 => ?_)
 refine mv c0 (fun j0 i0 => ?_)
 refine mv i0 (fun j0 c0 => ?_)
 refine r_len sv c0 rfl rfl rfl rfl Tryd.underlying22 (by decide) (fun j0 i0 => ?_)
 refine r_lss sv i0 rfl rfl rfl rfl (by decide) (fun j0 c0 => ?_)
 refine wpList_nil (x_then_n (b0 _ _ ?_))
 rcases Decidable.em (((k : Nat) : Int) < ((t.length : Nat) : Int)) with b0 | b0
 ·
  have j0 := c0.setb (d := 8) (b := true) rfl (decide_eq_true b0)
  refine wp_cond_true (j0.ev rfl) ?_
  refine wp_skip ?_
  refine x_then_n (h0 _ _ ?_)
  refine c_join (fun ga gw => Reg ga 20 [(0, .slice tA t.length tc), (2, .int .i64 0), (3, .int .i64 ((if ((((nth t k).K)) = 20) then ((csK t k + 1 : Nat) : Int) else ((csK t k : Nat) : Int)))), (4, .int .i64 ((k : Nat) : Int)), (1000000, .bool false)] ∧ St w0 Z none_ gw [] [dRow 4 tA t.length tc (encNs t)]) ?_ ?_
  ·
   refine wp_block ?_
   refine wsc (fun h0 i0 => ?_)
   refine mv j0 (fun h0 k0 => ?_)
   refine mv k0 (fun h0 j0 => ?_)
   refine m_index (i := k) (j := k * 4) sv j0 rfl rfl rfl rfl Tryd.underlying22 sz32 (by omega) (by omega) (nds_elem (t := t) (k := k) (d0.row (i := 0) rfl).2 (by omega)).some_ rfl (by decide) (fun h0 k0 => ?_)
   refine m_fieldE (j' := k * 4) sv k0 rfl rfl rfl (nds_elem (t := t) (k := k) (d0.row (i := 0) rfl).2 (by omega)).some_ Tryd.underlying32 rfl sz3 rfl rfl (by decide) (fun h0 j0 => ?_)
   refine m_loadE sv j0 rfl rfl rfl 0 (k * 4) (nds_elem (t := t) (k := k) (d0.row (i := 0) rfl).2 (by omega)) rfl rfl Tryd.underlying3 rfl (by decide) (fun h0 k0 => ?_)
   refine r_eql sv k0 rfl rfl rfl rfl (by decide) (fun h0 j0 => ?_)
   refine wpList_nil (x_then_n (i0 _ _ ?_))
   rcases Decidable.em ((((nth t k).K)) = 20) with i0 | i0
   ·
    have h0 := j0.setb (d := 16) (b := true) rfl (decide_eq_true i0)
    refine wp_cond_true (h0.ev rfl) ?_
    refine c_region ?_
    refine mv h0 (fun k0 m0 => ?_)
    refine r_add (z := ((csK t k + 1 : Nat) : Int)) sv m0 rfl rfl rfl rfl (by decide) (by omega) (by omega) (by omega) (fun k0 h0 => ?_)
    refine asg h0 (fun k0 m0 => ?_)
    refine wpList_nil ?_
    refine x_block_n ?_
    exact x_then_n ⟨(m0.sub (rc rfl (rc rfl (rc (ri rfl (by first | rfl | (simp only [decide_eq_true i0, if_pos i0, bl]; done) | (simp [i0]; done) | (simp [i0]; omega))) (rc rfl (rc rfl rnl)))))), d0⟩
   ·
    have m0 := j0.setb (d := 16) (b := false) rfl (decide_eq_false i0)
    refine wp_cond_false (m0.ev rfl) ?_
    refine wp_skip ?_
    refine x_block_n ?_
    exact x_then_n ⟨(m0.sub (rc rfl (rc rfl (rc (ri rfl (by first | rfl | (simp only [decide_eq_false i0, if_neg i0, bl]; done) | (simp [i0]; done) | (simp [i0]; omega))) (rc rfl (rc rfl rnl)))))), d0⟩
  rintro m0 i0 ⟨j0, k0⟩
  refine c_region ?_
  refine mv j0 (fun i0 m0 => ?_)
  refine r_add (z := ((k + 1 : Nat) : Int)) sv m0 rfl rfl rfl rfl (by decide) (by omega) (by omega) (by omega) (fun i0 j0 => ?_)
  refine asg j0 (fun i0 m0 => ?_)
  refine wpList_nil ?_
  exact ⟨_, by omega, k + 1, (m0.sub (rc rfl (rc rfl (rc rfl (rc rfl (rc (ri rfl (by simp only [csK]; split <;> rfl)) rnl)))))), k0, by omega, rfl⟩
 ·
  have m0 := c0.setb (d := 8) (b := false) rfl (decide_eq_false b0)
  refine wp_cond_false (m0.ev rfl) ?_
  refine wp_exit ?_
  refine x_then_e ?_
  refine x_then_e ?_
  refine x_block_eq ?_
  refine x_then_n (f0 _ _ ?_)
  refine wsc (fun f0 b0 => ?_)
  refine mv m0 (fun f0 c0 => ?_)
  refine asg c0 (fun f0 m0 => ?_)
  refine wpList_nil (x_then_n (b0 _ _ ?_))
  refine wp_ret ?_
  refine e_ret1 m0 rfl rfl rfl ?_
  refine ⟨?_, d0.fr⟩
  exact congrArg Ending.returned (ret_i (by rw [show t.length = k by omega]))
set_option maxRecDepth 100000 in
set_option maxHeartbeats 1000000 in
theorem great16_calls (w0 : World) (Z : Nat → Prop) (hZ : ∀ k, Z k → k < w0.heap.size) (er : Int)  :
    Calls Tryd.prog 11 [.int .i64 er].toArray w0 (fun e w' => e = .returned (.bool (grB er)) ∧ Fr none_ w0 w') := by
 have b0 := s0 (M := none_) hZ zn
 refine c_enter Tryd.func11 rfl Tryd.ntmps11 rfl (fun c0 d0 => ?_)
 refine wsc (fun c0 f0 => ?_)
 refine asg d0 (fun c0 h0 => ?_)
 refine wpList_nil (x_then_n (f0 _ _ ?_))
 refine wsc (fun f0 c0 => ?_)
 refine mv h0 (fun f0 d0 => ?_)
 refine r_eql sv d0 rfl rfl rfl rfl (by decide) (fun f0 h0 => ?_)
 refine mv h0 (fun f0 d0 => ?_)
 refine l_join (fun ga gw => Reg ga 13 [(0, .int .i64 (er)), (2, .bool false), (8, .bool ((decide ((er) = 2)) || (decide ((er) = 21)))), (1000000, .bool false)] ∧ St w0 Z none_ gw [] []) 3 ?_ ?_
 ·
  rcases Decidable.em ((er) = 2) with f0 | f0
  ·
   have h0 := d0.setb (d := 5) (b := true) rfl (decide_eq_true f0)
   refine sps h0 (wff h0) (fun i0 j0 => ?_)
   refine sps j0 (wff j0) (fun i0 h0 => ?_)
   refine r_pick_t sv h0 rfl rfl rfl rfl (by decide) (fun i0 j0 => ?_)
   refine wpList_nil ?_
   exact x_then_n ⟨(j0.sub (rc rfl (rc rfl (rc (rb rfl (by first | rfl | (simp only [decide_eq_true f0, if_pos f0, bl]; done) | (simp [f0]; done) | (simp [f0]; omega))) (rc rfl rnl))))), b0⟩
  ·
   have j0 := d0.setb (d := 5) (b := false) rfl (decide_eq_false f0)
   refine r_move (st_listV_w (wt j0)) j0 rfl rfl rfl (by decide) (fun d0 i0 => ?_)
   refine r_eql (st_listV_w (wt i0)) i0 rfl rfl rfl rfl (by decide) (fun d0 j0 => ?_)
   refine r_pick_f sv j0 rfl rfl rfl rfl (by decide) (fun d0 i0 => ?_)
   refine wpList_nil ?_
   exact x_then_n ⟨(i0.sub (rc rfl (rc rfl (rc (rb rfl (by first | rfl | (simp only [decide_eq_false f0, if_neg f0, bl]; done) | (simp [f0]; done) | (simp [f0]; omega))) (rc rfl rnl))))), b0⟩
 rintro i0 f0 ⟨b0, d0⟩
 refine mv b0 (fun f0 i0 => ?_)
 refine l_join (fun ga gw => Reg ga 13 [(2, .bool false), (12, .bool (((decide ((er) = 2)) || (decide ((er) = 21))) || (decide ((er) = 22)))), (1000000, .bool false)] ∧ St w0 Z none_ gw [] []) 3 ?_ ?_
 ·
  rcases Bool.eq_false_or_eq_true (((decide ((er) = 2)) || (decide ((er) = 21)))) with f0 | f0
  ·
   have b0 := f0
   try simp only [Bool.or_eq_true, Bool.and_eq_true, Bool.not_eq_true', Bool.not_eq_false', decide_eq_true_eq, decide_eq_false_iff_not, Bool.or_eq_false_iff, Bool.and_eq_false_iff] at b0
   have b0 := i0.setb (d := 9) (b := true) rfl f0
   refine sps b0 (wff b0) (fun j0 h0 => ?_)
   refine sps h0 (wff h0) (fun j0 b0 => ?_)
   refine r_pick_t sv b0 rfl rfl rfl rfl (by decide) (fun j0 h0 => ?_)
   refine wpList_nil ?_
   exact x_then_n ⟨(h0.sub (rc rfl (rc (rb rfl (by first | rfl | (simp only [f0, bl]; done) | (simp [f0]; done) | (simp [f0]; omega))) (rc rfl rnl)))), d0⟩
  ·
   have h0 := or_fl f0
   have j0 := of_decide_eq_false h0
   have j0 := or_fr f0
   have h0 := of_decide_eq_false j0
   have h0 := i0.setb (d := 9) (b := false) rfl f0
   refine r_move (st_listV_w (wt h0)) h0 rfl rfl rfl (by decide) (fun i0 j0 => ?_)
   refine r_eql (st_listV_w (wt j0)) j0 rfl rfl rfl rfl (by decide) (fun i0 h0 => ?_)
   refine r_pick_f sv h0 rfl rfl rfl rfl (by decide) (fun i0 j0 => ?_)
   refine wpList_nil ?_
   exact x_then_n ⟨(j0.sub (rc rfl (rc (rb rfl (by first | rfl | (simp only [f0, bl]; done) | (simp [f0]; done) | (simp [f0]; omega))) (rc rfl rnl)))), d0⟩
 rintro j0 f0 ⟨d0, i0⟩
 refine asg d0 (fun f0 j0 => ?_)
 refine wpList_nil (x_then_n (c0 _ _ ?_))
 refine wp_ret ?_
 refine e_ret1 j0 rfl rfl rfl ?_
 refine ⟨?_, i0.fr⟩
 exact congrArg Ending.returned (ret_b (by first | rfl | (unfold grB; simp []; done) | ( unfold grB; simp; omega)))
set_option maxRecDepth 100000 in
set_option maxHeartbeats 1000000 in
theorem shown16_calls (w0 : World) (Z : Nat → Prop) (hZ : ∀ k, Z k → k < w0.heap.size)  (hShp : Shapes w0 Z) :
    Calls Tryd.prog 8 [].toArray w0 (fun e w' => e = .returned (.bool (true)) ∧ Fr none_ w0 w') := by
 have b0 := s0 (M := none_) hZ (zc (d := dShapes) hShp zn)
 refine c_enter Tryd.func8 rfl Tryd.ntmps8 rfl (fun c0 d0 => ?_)
 refine wsc (fun c0 f0 => ?_)
 refine asg d0 (fun c0 h0 => ?_)
 refine wpList_nil (x_then_n (f0 _ _ ?_))
 refine wsc (fun f0 c0 => ?_)
 refine m_build (ps := [(0, .const (.int .i64 11))]) (v := .agg #[.int .i64 11, .int .i64 0, .int .i64 0, .string (⟨#[]⟩ : ByteArray)]) sv h0 rfl rfl rfl (fun _ => by kernel_rfl) (by decide) (fun f0 d0 => ?_)
 refine mbs [(0, .tmp 7)] [.int .i64 11, .int .i64 0, .int .i64 0, .string (⟨#[]⟩ : ByteArray)] sv d0 b0 Tryd.underlying22 zi32 (fun f0 h0 i0 j0 k0 => ?_)
 refine asg j0 (fun h0 f0 => ?_)
 refine wpList_nil (x_then_n (c0 _ _ ?_))
 refine wsc (fun c0 h0 => ?_)
 refine m_build (ps := [(0, .const (.int .i64 10))]) (v := .agg #[.int .i64 10, .int .i64 0, .int .i64 0, .string (⟨#[]⟩ : ByteArray)]) sv f0 rfl rfl rfl (fun _ => by kernel_rfl) (by decide) (fun c0 j0 => ?_)
 refine mbs [(0, .tmp 9)] [.int .i64 10, .int .i64 0, .int .i64 0, .string (⟨#[]⟩ : ByteArray)] sv j0 k0 Tryd.underlying22 zi32 (fun c0 f0 d0 b0 m0 => ?_)
 refine asg b0 (fun f0 c0 => ?_)
 refine wpList_nil (x_then_n (h0 _ _ ?_))
 refine wsc (fun h0 f0 => ?_)
 refine mv c0 (fun h0 b0 => ?_)
 refine mv b0 (fun h0 c0 => ?_)
 have h0 := m0.nf
 have m0 := own_cap (h0.res (i := 0) rfl)
 obtain ⟨b0, j0⟩ := h0.row_data (i := 0) rfl (fun _ h => h)
 have h0 := b0.data (dRow 4 (some ⟨i0, 0, none⟩) 1 1 (encNs ([(⟨11, 0, 0, (⟨#[]⟩ : ByteArray)⟩ : Nd)]))) ⟨m0, j0⟩
 refine k_call (xs := [.tmp 12, .tmp 13]) se c0 rfl rfl rfl (by decide) ok9 (vSame_calls _ _ h0.il _ _ ([(⟨11, 0, 0, (⟨#[]⟩ : ByteArray)⟩ : Nd)]) _ _ ([(⟨11, 0, 0, (⟨#[]⟩ : ByteArray)⟩ : Nd)]) (h0.g 0) (h0.g 1) (h0.g 1) (hla := (by first | omega | (simp; done))) (hlb := (by first | omega | (simp; done))) (hsa := (by first | assumption | exact sml_16)) (hsb := (by first | assumption | exact sml_16))) ?_
 rintro c0 j0 ⟨rfl, b0⟩
 have j0 := h0.below b0.below
 refine ⟨_, rfl, fun b0 h0 => ?_⟩
 refine mv h0 (fun b0 c0 => ?_)
 refine r_extract sv c0 rfl rfl rfl rfl (by decide) (fun b0 h0 => ?_)
 refine r_extract sv h0 rfl rfl rfl rfl (by decide) (fun b0 c0 => ?_)
 refine asg c0 (fun b0 h0 => ?_)
 refine asg h0 (fun b0 c0 => ?_)
 refine wpList_nil (x_then_n (f0 _ _ ?_))
 refine wsc (fun f0 b0 => ?_)
 refine mv c0 (fun f0 h0 => ?_)
 refine mv h0 (fun f0 c0 => ?_)
 have f0 := j0.nf
 have j0 := own_cap (f0.res (i := 0) rfl)
 obtain ⟨h0, m0⟩ := f0.row_data (i := 0) rfl (fun _ h => h)
 have f0 := h0.data (dRow 4 (some ⟨d0, 0, none⟩) 1 1 (encNs ([(⟨10, 0, 0, (⟨#[]⟩ : ByteArray)⟩ : Nd)]))) ⟨j0, m0⟩
 refine k_call (xs := [.tmp 18, .tmp 19]) se c0 rfl rfl rfl (by decide) ok9 (vSame_calls _ _ f0.il _ _ ([(⟨11, 0, 0, (⟨#[]⟩ : ByteArray)⟩ : Nd)]) _ _ ([(⟨10, 0, 0, (⟨#[]⟩ : ByteArray)⟩ : Nd)]) (f0.g 0) (f0.g 1) (f0.g 2) (hla := (by first | omega | (simp; done))) (hlb := (by first | omega | (simp; done))) (hsa := (by first | assumption | exact sml_16)) (hsb := (by first | assumption | exact sml_16))) ?_
 rintro c0 m0 ⟨rfl, h0⟩
 have m0 := f0.below h0.below
 refine ⟨_, rfl, fun h0 f0 => ?_⟩
 refine mv f0 (fun h0 c0 => ?_)
 refine r_extract sv c0 rfl rfl rfl rfl (by decide) (fun h0 f0 => ?_)
 refine r_extract sv f0 rfl rfl rfl rfl (by decide) (fun h0 c0 => ?_)
 refine asg c0 (fun h0 f0 => ?_)
 refine asg f0 (fun h0 c0 => ?_)
 refine wpList_nil (x_then_n (b0 _ _ ?_))
 refine wsc (fun b0 h0 => ?_)
 refine mv c0 (fun b0 f0 => ?_)
 refine mv f0 (fun b0 c0 => ?_)
 have b0 : (smB ([(⟨11, 0, 0, (⟨#[]⟩ : ByteArray)⟩ : Nd)]) ([(⟨11, 0, 0, (⟨#[]⟩ : ByteArray)⟩ : Nd)])) = true := (sm_num (m := 0) (n := 0) (by omega) (by omega)).1
 have f0 := c0.setb (d := 24) (b := true) rfl b0
 refine r_move (st_listV_w (wt f0)) f0 rfl rfl rfl (by decide) (fun c0 j0 => ?_)
 refine r_eql (st_listV_w (wt j0)) j0 rfl rfl rfl rfl (by decide) (fun c0 f0 => ?_)
 refine r_pick_t sv f0 rfl rfl rfl rfl (by decide) (fun c0 j0 => ?_)
 refine mv j0 (fun c0 f0 => ?_)
 have c0 : ((smE ([(⟨11, 0, 0, (⟨#[]⟩ : ByteArray)⟩ : Nd)]) ([(⟨11, 0, 0, (⟨#[]⟩ : ByteArray)⟩ : Nd)]))) = 0 := (sm_num (m := 0) (n := 0) (by omega) (by omega)).2
 have j0 := f0.setb (d := 28) (b := true) rfl (decide_eq_true c0)
 refine r_move (st_listV_w (wt j0)) j0 rfl rfl rfl (by decide) (fun f0 d0 => ?_)
 refine r_not (st_listV_w (wt d0)) d0 rfl rfl rfl (by decide) (fun f0 j0 => ?_)
 refine r_pick_t sv j0 rfl rfl rfl rfl (by decide) (fun f0 d0 => ?_)
 refine mv d0 (fun f0 j0 => ?_)
 have f0 : (smB ([(⟨11, 0, 0, (⟨#[]⟩ : ByteArray)⟩ : Nd)]) ([(⟨10, 0, 0, (⟨#[]⟩ : ByteArray)⟩ : Nd)])) = false := (sm_nat (m := 0) (by omega)).1
 have d0 := j0.setb (d := 32) (b := true) rfl (by rw [f0]; rfl)
 refine r_move (st_listV_w (wt d0)) d0 rfl rfl rfl (by decide) (fun j0 i0 => ?_)
 refine r_eql (st_listV_w (wt i0)) i0 rfl rfl rfl rfl (by decide) (fun j0 d0 => ?_)
 refine r_pick_t sv d0 rfl rfl rfl rfl (by decide) (fun j0 i0 => ?_)
 refine asg i0 (fun j0 d0 => ?_)
 refine wpList_nil (x_then_n (h0 _ _ ?_))
 refine wp_ret ?_
 refine e_ret1 d0 rfl rfl rfl ?_
 have d0 : ((smE ([(⟨11, 0, 0, (⟨#[]⟩ : ByteArray)⟩ : Nd)]) ([(⟨10, 0, 0, (⟨#[]⟩ : ByteArray)⟩ : Nd)]))) = 0 := (sm_nat (m := 0) (by omega)).2
 refine ⟨?_, m0.fr⟩
 exact congrArg Ending.returned (ret_b (by first | rfl | omega | assumption | exact decide_eq_true (by assumption) | (have m0 := b0; (try simp at m0); have h0 := c0; (try simp at h0); have j0 := f0; (try simp at j0); have i0 := d0; (try simp at i0);  omega) | (simp [b0, c0, f0, d0]; done) | (simp [] at *; done) | (simp [b0, c0, f0, d0] <;> omega) | (rw [Bool.eq_iff_iff]; simp [b0, c0, f0, d0] <;> omega) | (rw [Bool.eq_iff_iff]; simp [b0, c0, f0, d0] at * <;> omega)))
end Go.Proofs.YthdemmcfnpmmiaaDoor
/- Contracts of functions, one theorem each: what the call returns, and that nothing old is changed. Printed by gen.py. -/
namespace Go.Proofs.YthdemmcfnpmmiaaDoor
open Go Go.RowKit
set_option linter.unusedSimpArgs false
set_option linter.unusedVariables false
set_option maxRecDepth 100000 in
set_option maxHeartbeats 1000000 in
theorem convertSelf_calls (w0 : World) (Z : Nat → Prop) (hZ : ∀ k, Z k → k < w0.heap.size) (aA : Option Addr) (ac : Nat) (a : List Nd) (bA : Option Addr) (bc : Nat) (b : List Nd) (hShp : Shapes w0 Z) (ha : (dRow 4 aA a.length ac (encNs a)).φ w0 Z) (hb : (dRow 4 bA b.length bc (encNs b)).φ w0 Z) :
    Calls Tryd.prog 3 [.slice aA a.length ac, .slice bA b.length bc].toArray w0 (fun e w' => e = .returned (.bool (true)) ∧ Fr none_ w0 w') := by
 have b0 := s0 (M := none_) hZ (zc (d := dShapes) hShp (zc ha (zc hb zn)))
 refine c_enter Tryd.func3 rfl Tryd.ntmps3 rfl (fun c0 d0 => ?_)
 refine wsc (fun c0 f0 => ?_)
 refine asg d0 (fun c0 h0 => ?_)
 refine wpList_nil (x_then_n (f0 _ _ ?_))
 refine wp_seq_k (fun f0 c0 => ?_)
 refine wsc (fun f0 d0 => ?_)
 refine mv h0 (fun f0 i0 => ?_)
 have f0 := b0.nf
 refine k_call (xs := [.tmp 14]) se i0 rfl rfl rfl (by decide) ok6 (heavy16_calls _ _ f0.il _ _ _ (f0.g 1)) ?_
 rintro i0 b0 ⟨rfl, h0⟩
 have b0 := f0.below h0.below
 refine ⟨_, rfl, fun h0 f0 => ?_⟩
 refine mv f0 (fun h0 i0 => ?_)
 refine l_join (fun ga gw => Reg ga 101 [(0, .slice aA a.length ac), (1, .slice bA b.length bc), (4, .bool false), (19, .bool ((heavyB 60 a) || (heavyB 60 b))), (1000000, .bool false)] ∧ St w0 Z none_ gw [] [dShapes, dRow 4 aA a.length ac (encNs a), dRow 4 bA b.length bc (encNs b)]) 3 ?_ ?_
 ·
  rcases Bool.eq_false_or_eq_true (heavyB 60 a) with h0 | h0
  ·
   have f0 := i0.setb (d := 16) (b := true) rfl h0
   refine sps f0 (wff f0) (fun j0 k0 => ?_)
   refine sps k0 (wff k0) (fun j0 f0 => ?_)
   refine r_pick_t sv f0 rfl rfl rfl rfl (by decide) (fun j0 k0 => ?_)
   refine wpList_nil ?_
   exact x_then_n ⟨(k0.sub (rc rfl (rc rfl (rc rfl (rc (rb rfl (by first | rfl | (simp only [h0, bl]; done) | (simp [h0]; done) | (simp [h0]; omega))) (rc rfl rnl)))))), b0⟩
  ·
   obtain ⟨hla, hsa⟩ := heavy_false h0
   obtain ⟨hla, hsa⟩ := heavy_false h0
   have k0 := i0.setb (d := 16) (b := false) rfl h0
   refine r_move (st_listV_w (wt k0)) k0 rfl rfl rfl (by decide) (fun i0 j0 => ?_)
   have i0 := b0.nf
   refine k_call (xs := [.tmp 17]) (st_list_w (wt j0)) j0 rfl rfl rfl (by decide) ok6 (heavy16_calls _ _ i0.il _ _ _ (i0.g 2)) ?_
   rintro j0 b0 ⟨rfl, k0⟩
   have b0 := i0.below k0.below
   refine ⟨_, rfl, fun k0 i0 => ?_⟩
   refine r_pick_f sv i0 rfl rfl rfl rfl (by decide) (fun k0 j0 => ?_)
   refine wpList_nil ?_
   exact x_then_n ⟨(j0.sub (rc rfl (rc rfl (rc rfl (rc (rb rfl (by first | rfl | (simp only [h0, bl]; done) | (simp [h0]; done) | (simp [h0]; omega))) (rc rfl rnl)))))), b0⟩
 rintro j0 b0 ⟨h0, k0⟩
 refine mv h0 (fun b0 j0 => ?_)
 refine l_join (fun ga gw => Reg ga 101 [(0, .slice aA a.length ac), (1, .slice bA b.length bc), (4, .bool false), (27, .bool (((heavyB 60 a) || (heavyB 60 b)) || (decide (6 < ((csK a a.length + csK b b.length : Nat) : Int))))), (1000000, .bool false)] ∧ St w0 Z none_ gw [] [dShapes, dRow 4 aA a.length ac (encNs a), dRow 4 bA b.length bc (encNs b)]) 7 ?_ ?_
 ·
  rcases Bool.eq_false_or_eq_true (((heavyB 60 a) || (heavyB 60 b))) with b0 | b0
  ·
   have h0 := b0
   try simp only [Bool.or_eq_true, Bool.and_eq_true, Bool.not_eq_true', Bool.not_eq_false', decide_eq_true_eq, decide_eq_false_iff_not, Bool.or_eq_false_iff, Bool.and_eq_false_iff] at h0
   have h0 := j0.setb (d := 20) (b := true) rfl b0
   refine sps h0 (wff h0) (fun i0 f0 => ?_)
   refine sps f0 (wff f0) (fun i0 h0 => ?_)
   refine sps h0 (wff h0) (fun i0 f0 => ?_)
   refine sps f0 (wff f0) (fun i0 h0 => ?_)
   refine sps h0 (wff h0) (fun i0 f0 => ?_)
   refine sps f0 (wff f0) (fun i0 h0 => ?_)
   refine r_pick_t sv h0 rfl rfl rfl rfl (by decide) (fun i0 f0 => ?_)
   refine wpList_nil ?_
   exact x_then_n ⟨(f0.sub (rc rfl (rc rfl (rc rfl (rc (rb rfl (by first | rfl | (simp only [b0, bl]; done) | (simp [b0]; done) | (simp [b0]; omega))) (rc rfl rnl)))))), k0⟩
  ·
   have f0 := or_fl b0
   obtain ⟨hla, hsa⟩ := heavy_false f0
   have f0 := or_fr b0
   obtain ⟨hlb, hsb⟩ := heavy_false f0
   have f0 := j0.setb (d := 20) (b := false) rfl b0
   refine r_move (st_listV_w (wt f0)) f0 rfl rfl rfl (by decide) (fun j0 i0 => ?_)
   have j0 := k0.nf
   refine k_call (xs := [.tmp 21]) (st_list_w (wt i0)) i0 rfl rfl rfl (by decide) ok7 (casts16_calls _ _ j0.il _ _ _ (j0.g 1) (hl := (by omega))) ?_
   rintro i0 k0 ⟨rfl, f0⟩
   have k0 := j0.below f0.below
   refine ⟨_, rfl, fun f0 j0 => ?_⟩
   have hcsa := csK_le a (a).length
   refine r_move (st_listV_w (wt j0)) j0 rfl rfl rfl (by decide) (fun f0 i0 => ?_)
   have f0 := k0.nf
   refine k_call (xs := [.tmp 23]) (st_list_w (wt i0)) i0 rfl rfl rfl (by decide) ok7 (casts16_calls _ _ f0.il _ _ _ (f0.g 2) (hl := (by omega))) ?_
   rintro i0 k0 ⟨rfl, j0⟩
   have k0 := f0.below j0.below
   refine ⟨_, rfl, fun j0 f0 => ?_⟩
   have hcsb := csK_le b (b).length
   refine r_add (z := ((csK a a.length + csK b b.length : Nat) : Int)) (st_listV_w (wt f0)) f0 rfl rfl rfl rfl (by decide) (by omega) (by omega) (by omega) (fun j0 i0 => ?_)
   refine r_gtr (st_listV_w (wt i0)) i0 rfl rfl rfl rfl (by decide) (fun j0 f0 => ?_)
   refine r_pick_f sv f0 rfl rfl rfl rfl (by decide) (fun j0 i0 => ?_)
   refine wpList_nil ?_
   exact x_then_n ⟨(i0.sub (rc rfl (rc rfl (rc rfl (rc (rb rfl (by first | rfl | (simp only [b0, bl]; done) | (simp [b0]; done) | (simp [b0]; omega))) (rc rfl rnl)))))), k0⟩
 rintro i0 k0 ⟨b0, j0⟩
 refine mv b0 (fun k0 i0 => ?_)
 refine l_join (fun ga gw => Reg ga 101 [(0, .slice aA a.length ac), (1, .slice bA b.length bc), (4, .bool false), (31, .bool ((((heavyB 60 a) || (heavyB 60 b)) || (decide (6 < ((csK a a.length + csK b b.length : Nat) : Int)))) || (!true))), (1000000, .bool false)] ∧ St w0 Z none_ gw [] [dShapes, dRow 4 aA a.length ac (encNs a), dRow 4 bA b.length bc (encNs b)]) 3 ?_ ?_
 ·
  rcases Bool.eq_false_or_eq_true ((((heavyB 60 a) || (heavyB 60 b)) || (decide (6 < ((csK a a.length + csK b b.length : Nat) : Int))))) with k0 | k0
  ·
   have b0 := k0
   try simp only [Bool.or_eq_true, Bool.and_eq_true, Bool.not_eq_true', Bool.not_eq_false', decide_eq_true_eq, decide_eq_false_iff_not, Bool.or_eq_false_iff, Bool.and_eq_false_iff] at b0
   have b0 := i0.setb (d := 28) (b := true) rfl k0
   refine sps b0 (wff b0) (fun f0 h0 => ?_)
   refine sps h0 (wff h0) (fun f0 b0 => ?_)
   refine r_pick_t sv b0 rfl rfl rfl rfl (by decide) (fun f0 h0 => ?_)
   refine wpList_nil ?_
   exact x_then_n ⟨(h0.sub (rc rfl (rc rfl (rc rfl (rc (rb rfl (by first | rfl | (simp only [k0, bl]; done) | (simp [k0]; done) | (simp [k0]; omega))) (rc rfl rnl)))))), j0⟩
  ·
   have h0 := or_fl k0
   have f0 := or_fl h0
   obtain ⟨hla, hsa⟩ := heavy_false f0
   have f0 := or_fr h0
   obtain ⟨hlb, hsb⟩ := heavy_false f0
   have f0 := or_fr k0
   have h0 := of_decide_eq_false f0
   have h0 := i0.setb (d := 28) (b := false) rfl k0
   have i0 := j0.nf
   refine k_call (xs := []) (st_list_w (wt h0)) h0 rfl rfl rfl (by decide) ok8 (shown16_calls _ _ i0.il (i0.g 0)) ?_
   rintro h0 j0 ⟨rfl, f0⟩
   have j0 := i0.below f0.below
   refine ⟨_, rfl, fun f0 i0 => ?_⟩
   refine r_not (st_listV_w (wt i0)) i0 rfl rfl rfl (by decide) (fun f0 h0 => ?_)
   refine r_pick_f sv h0 rfl rfl rfl rfl (by decide) (fun f0 i0 => ?_)
   refine wpList_nil ?_
   exact x_then_n ⟨(i0.sub (rc rfl (rc rfl (rc rfl (rc (rb rfl (by first | rfl | (simp only [k0, bl]; done) | (simp [k0]; done) | (simp [k0]; omega))) (rc rfl rnl)))))), j0⟩
 rintro i0 j0 ⟨k0, f0⟩
 refine wpList_nil (x_then_n (d0 _ _ ?_))
 rcases Bool.eq_false_or_eq_true (((((heavyB 60 a) || (heavyB 60 b)) || (decide (6 < ((csK a a.length + csK b b.length : Nat) : Int)))) || (!true))) with d0 | d0
 ·
  have j0 := d0
  try simp only [Bool.or_eq_true, Bool.and_eq_true, Bool.not_eq_true', Bool.not_eq_false', decide_eq_true_eq, decide_eq_false_iff_not, Bool.or_eq_false_iff, Bool.and_eq_false_iff] at j0
  have j0 := k0.setb (d := 31) (b := true) rfl d0
  refine wp_cond_true (j0.ev rfl) ?_
  refine wsc (fun i0 h0 => ?_)
  have i0 := f0.nf
  refine k_call (xs := []) se j0 rfl rfl rfl (by decide) ok8 (shown16_calls _ _ i0.il (i0.g 0)) ?_
  rintro j0 b0 ⟨rfl, m0⟩
  have b0 := i0.below m0.below
  refine ⟨_, rfl, fun m0 i0 => ?_⟩
  refine asg i0 (fun m0 j0 => ?_)
  refine wpList_nil (x_then_n (h0 _ _ ?_))
  refine wp_ret ?_
  refine x_then_r ?_
  refine e_ret1 j0 rfl rfl rfl ?_
  refine ⟨?_, b0.fr⟩
  exact congrArg Ending.returned (ret_b (by first | rfl | omega | assumption | exact decide_eq_true (by assumption) | (have b0 := d0; (try simp at b0);  omega) | (simp [d0]; done) | (simp [] at *; done) | (simp [d0] <;> omega) | (rw [Bool.eq_iff_iff]; simp [d0] <;> omega) | (rw [Bool.eq_iff_iff]; simp [d0] at * <;> omega)))
 ·
  have j0 := or_fl d0
  have h0 := or_fl j0
  have m0 := or_fl h0
  obtain ⟨hla, hsa⟩ := heavy_false m0
  have i0 := or_fr h0
  obtain ⟨hlb, hsb⟩ := heavy_false i0
  have h0 := or_fr j0
  have j0 := of_decide_eq_false h0
  have h0 := or_fr d0
  have n0 := not_f h0
  have h0 := k0.setb (d := 31) (b := false) rfl d0
  refine wp_cond_false (h0.ev rfl) ?_
  refine wp_skip ?_
  refine x_then_n (c0 _ _ ?_)
  refine wsc (fun c0 k0 => ?_)
  refine mv h0 (fun c0 o0 => ?_)
  refine mv o0 (fun c0 h0 => ?_)
  have c0 := f0.nf
  refine k_call (xs := [.tmp 34, .tmp 35]) se h0 rfl rfl rfl (by decide) ok9 (vSame_calls _ _ c0.il _ _ _ _ _ _ (c0.g 0) (c0.g 1) (c0.g 1) (hla := (by first | omega | (simp; done))) (hlb := (by first | omega | (simp; done))) (hsa := (by first | assumption | exact sml_16)) (hsb := (by first | assumption | exact sml_16))) ?_
  rintro h0 f0 ⟨rfl, o0⟩
  have f0 := c0.below o0.below
  refine ⟨_, rfl, fun o0 c0 => ?_⟩
  refine mv c0 (fun o0 h0 => ?_)
  refine r_extract sv h0 rfl rfl rfl rfl (by decide) (fun o0 c0 => ?_)
  refine r_extract sv c0 rfl rfl rfl rfl (by decide) (fun o0 h0 => ?_)
  refine asg h0 (fun o0 c0 => ?_)
  refine asg c0 (fun o0 h0 => ?_)
  refine wpList_nil (x_then_n (k0 _ _ ?_))
  refine wp_seq_k (fun k0 o0 => ?_)
  refine wsc (fun k0 c0 => ?_)
  refine mv h0 (fun k0 p0 => ?_)
  have k0 := f0.nf
  refine k_call (xs := [.tmp 39]) se p0 rfl rfl rfl (by decide) ok10 (rcheck_calls _ _ k0.il _ _ _ (k0.g 1) (hl := (by omega)) (hsm := (by assumption))) ?_
  rintro p0 f0 ⟨rfl, h0⟩
  have f0 := k0.below h0.below
  refine ⟨_, rfl, fun h0 k0 => ?_⟩
  refine r_neq sv k0 rfl rfl rfl rfl (by decide) (fun h0 p0 => ?_)
  refine wpList_nil (x_then_n (c0 _ _ ?_))
  rcases Decidable.em (((chk a)) = 0) with c0 | c0
  ·
   have h0 := p0.setb (d := 41) (b := false) rfl (by rw [(decide_eq_true c0)]; rfl)
   refine wp_cond_false (h0.ev rfl) ?_
   refine wp_skip ?_
   refine x_then_n (o0 _ _ ?_)
   refine wp_seq_k (fun o0 k0 => ?_)
   refine wsc (fun o0 t0 => ?_)
   refine mv h0 (fun o0 u0 => ?_)
   refine r_neq sv u0 rfl rfl rfl rfl (by decide) (fun o0 h0 => ?_)
   refine wpList_nil (x_then_n (t0 _ _ ?_))
   rcases Decidable.em (((smE a a)) = 0) with t0 | t0
   ·
    have o0 := h0.setb (d := 49) (b := false) rfl (by rw [(decide_eq_true t0)]; rfl)
    refine wp_cond_false (o0.ev rfl) ?_
    refine wp_skip ?_
    refine x_then_n (k0 _ _ ?_)
    refine wsc (fun k0 u0 => ?_)
    refine m_build (ps := [(0, .const (.int .i64 29))]) (v := .agg #[.int .i64 29, .int .i64 0, .int .i64 0, .string (⟨#[]⟩ : ByteArray)]) sv o0 rfl rfl rfl (fun _ => by kernel_rfl) (by decide) (fun k0 v0 => ?_)
    refine mbs [(0, .tmp 56)] [.int .i64 29, .int .i64 0, .int .i64 0, .string (⟨#[]⟩ : ByteArray)] sv v0 f0 Tryd.underlying22 zi32 (fun k0 o0 x0 y0 z0 => ?_)
    refine asg y0 (fun o0 k0 => ?_)
    refine wpList_nil (x_then_n (u0 _ _ ?_))
    refine wsc (fun u0 o0 => ?_)
    refine mv k0 (fun u0 y0 => ?_)
    refine mv y0 (fun u0 k0 => ?_)
    have u0 := z0.nf
    have z0 := own_cap (u0.res (i := 0) rfl)
    obtain ⟨y0, v0⟩ := u0.row_data (i := 0) rfl (fun _ h => h)
    have u0 := y0.data (dRow 4 (some ⟨x0, 0, none⟩) 1 1 (encNs ([(⟨29, 0, 0, (⟨#[]⟩ : ByteArray)⟩ : Nd)]))) ⟨z0, v0⟩
    refine k_call (xs := [.tmp 59, .tmp 60]) se k0 rfl rfl rfl (by decide) ok9 (vSame_calls _ _ u0.il _ _ ([(⟨29, 0, 0, (⟨#[]⟩ : ByteArray)⟩ : Nd)]) _ _ _ (u0.g 0) (u0.g 3) (u0.g 1) (hla := (by first | omega | (simp; done))) (hlb := (by first | omega | (simp; done))) (hsa := (by first | assumption | exact sml_16)) (hsb := (by first | assumption | exact sml_16))) ?_
    rintro k0 v0 ⟨rfl, y0⟩
    have v0 := u0.below y0.below
    refine ⟨_, rfl, fun y0 u0 => ?_⟩
    refine mv u0 (fun y0 k0 => ?_)
    refine r_extract sv k0 rfl rfl rfl rfl (by decide) (fun y0 u0 => ?_)
    refine r_extract sv u0 rfl rfl rfl rfl (by decide) (fun y0 k0 => ?_)
    refine asg k0 (fun y0 u0 => ?_)
    refine asg u0 (fun y0 k0 => ?_)
    refine wpList_nil (x_then_n (o0 _ _ ?_))
    refine wp_seq_k (fun o0 y0 => ?_)
    refine wsc (fun o0 u0 => ?_)
    refine mv k0 (fun o0 z0 => ?_)
    refine r_not sv z0 rfl rfl rfl (by decide) (fun o0 k0 => ?_)
    refine mv k0 (fun o0 z0 => ?_)
    have o0 : (smB a a) = true := (sm_self c0).1 t0
    have k0 := z0.setb (d := 66) (b := false) rfl (by rw [o0]; rfl)
    refine r_move (st_listV_w (wt k0)) k0 rfl rfl rfl (by decide) (fun z0 b1 => ?_)
    refine r_neq (st_listV_w (wt b1)) b1 rfl rfl rfl rfl (by decide) (fun z0 k0 => ?_)
    refine r_pick_f sv k0 rfl rfl rfl rfl (by decide) (fun z0 b1 => ?_)
    refine mv b1 (fun z0 k0 => ?_)
    have z0 := k0.setb (d := 70) (b := false) rfl (by rw [(decide_eq_true t0)]; rfl)
    refine r_move (st_listV_w (wt z0)) z0 rfl rfl rfl (by decide) (fun k0 b1 => ?_)
    refine r_not (st_listV_w (wt b1)) b1 rfl rfl rfl (by decide) (fun k0 z0 => ?_)
    refine r_pick_f sv z0 rfl rfl rfl rfl (by decide) (fun k0 b1 => ?_)
    refine mv b1 (fun k0 z0 => ?_)
    have k0 : (smB ([(⟨29, 0, 0, (⟨#[]⟩ : ByteArray)⟩ : Nd)]) a) = true := (sm_tick c0).1
    have b1 := z0.setb (d := 74) (b := false) rfl (by rw [k0]; rfl)
    refine r_move (st_listV_w (wt b1)) b1 rfl rfl rfl (by decide) (fun z0 c1 => ?_)
    refine r_neq (st_listV_w (wt c1)) c1 rfl rfl rfl rfl (by decide) (fun z0 b1 => ?_)
    refine r_pick_f sv b1 rfl rfl rfl rfl (by decide) (fun z0 c1 => ?_)
    refine wpList_nil (x_then_n (u0 _ _ ?_))
    have u0 : ((smE ([(⟨29, 0, 0, (⟨#[]⟩ : ByteArray)⟩ : Nd)]) a)) = 0 := (sm_tick c0).2
    have z0 := c1.setb (d := 77) (b := false) rfl (by rw [(decide_eq_true u0)]; rfl)
    refine wp_cond_false (z0.ev rfl) ?_
    refine wp_skip ?_
    refine x_then_n (y0 _ _ ?_)
    refine wsc (fun y0 c1 => ?_)
    refine mv z0 (fun y0 b1 => ?_)
    refine mv b1 (fun y0 z0 => ?_)
    have y0 := v0.nf
    refine k_call (xs := [.tmp 79, .tmp 80]) se z0 rfl rfl rfl (by decide) ok9 (vSame_calls _ _ y0.il _ _ _ _ _ _ (y0.g 0) (y0.g 1) (y0.g 2) (hla := (by first | omega | (simp; done))) (hlb := (by first | omega | (simp; done))) (hsa := (by first | assumption | exact sml_16)) (hsb := (by first | assumption | exact sml_16))) ?_
    rintro z0 v0 ⟨rfl, b1⟩
    have v0 := y0.below b1.below
    refine ⟨_, rfl, fun b1 y0 => ?_⟩
    refine mv y0 (fun b1 z0 => ?_)
    refine r_extract sv z0 rfl rfl rfl rfl (by decide) (fun b1 y0 => ?_)
    refine r_extract sv y0 rfl rfl rfl rfl (by decide) (fun b1 z0 => ?_)
    refine asg z0 (fun b1 y0 => ?_)
    refine asg y0 (fun b1 z0 => ?_)
    refine wpList_nil (x_then_n (c1 _ _ ?_))
    refine wsc (fun c1 b1 => ?_)
    refine mv z0 (fun c1 y0 => ?_)
    refine mv y0 (fun c1 z0 => ?_)
    have c1 := v0.nf
    refine k_call (xs := [.tmp 85, .tmp 86]) se z0 rfl rfl rfl (by decide) ok9 (vSame_calls _ _ c1.il _ _ _ _ _ _ (c1.g 0) (c1.g 2) (c1.g 1) (hla := (by first | omega | (simp; done))) (hlb := (by first | omega | (simp; done))) (hsa := (by first | assumption | exact sml_16)) (hsb := (by first | assumption | exact sml_16))) ?_
    rintro z0 v0 ⟨rfl, y0⟩
    have v0 := c1.below y0.below
    refine ⟨_, rfl, fun y0 c1 => ?_⟩
    refine mv c1 (fun y0 z0 => ?_)
    refine r_extract sv z0 rfl rfl rfl rfl (by decide) (fun y0 c1 => ?_)
    refine r_extract sv c1 rfl rfl rfl rfl (by decide) (fun y0 z0 => ?_)
    refine asg z0 (fun y0 c1 => ?_)
    refine asg c1 (fun y0 z0 => ?_)
    refine wpList_nil (x_then_n (b1 _ _ ?_))
    refine wsc (fun b1 y0 => ?_)
    refine mv z0 (fun b1 c1 => ?_)
    refine r_neq sv c1 rfl rfl rfl rfl (by decide) (fun b1 z0 => ?_)
    refine mv z0 (fun b1 c1 => ?_)
    refine l_join (fun ga gw => Reg ga 101 [(4, .bool false), (10, .bool (smB a b)), (12, .bool (smB b a)), (95, .bool ((!(decide (((smE a b)) = 0))) || (!(decide (((smE b a)) = 0))))), (1000000, .bool false)] ∧ St w0 Z none_ gw [] [dShapes, dRow 4 aA a.length ac (encNs a), dRow 4 bA b.length bc (encNs b), dRow 4 (some ⟨x0, 0, none⟩) 1 1 (encNs ([(⟨29, 0, 0, (⟨#[]⟩ : ByteArray)⟩ : Nd)]))]) 3 ?_ ?_
    ·
     rcases Decidable.em (((smE a b)) = 0) with b1 | b1
     ·
      have z0 := c1.setb (d := 92) (b := false) rfl (by rw [(decide_eq_true b1)]; rfl)
      refine r_move (st_listV_w (wt z0)) z0 rfl rfl rfl (by decide) (fun d1 f1 => ?_)
      refine r_neq (st_listV_w (wt f1)) f1 rfl rfl rfl rfl (by decide) (fun d1 z0 => ?_)
      refine r_pick_f sv z0 rfl rfl rfl rfl (by decide) (fun d1 f1 => ?_)
      refine wpList_nil ?_
      exact x_then_n ⟨(f1.sub (rc rfl (rc rfl (rc rfl (rc (rb rfl (by first | rfl | (simp only [decide_eq_true b1, if_pos b1, bl]; done) | (simp [b1]; done) | (simp [b1]; omega))) (rc rfl rnl)))))), v0⟩
     ·
      have f1 := c1.setb (d := 92) (b := true) rfl (by rw [(decide_eq_false b1)]; rfl)
      refine sps f1 (wff f1) (fun c1 d1 => ?_)
      refine sps d1 (wff d1) (fun c1 f1 => ?_)
      refine r_pick_t sv f1 rfl rfl rfl rfl (by decide) (fun c1 d1 => ?_)
      refine wpList_nil ?_
      exact x_then_n ⟨(d1.sub (rc rfl (rc rfl (rc rfl (rc (rb rfl (by first | rfl | (simp only [decide_eq_false b1, if_neg b1, bl]; done) | (simp [b1]; done) | (simp [b1]; omega))) (rc rfl rnl)))))), v0⟩
    rintro d1 b1 ⟨v0, c1⟩
    refine mv v0 (fun b1 d1 => ?_)
    refine l_join (fun ga gw => Reg ga 101 [(4, .bool false), (100, .bool true), (1000000, .bool false)] ∧ St w0 Z none_ gw [] [dShapes, dRow 4 aA a.length ac (encNs a), dRow 4 bA b.length bc (encNs b), dRow 4 (some ⟨x0, 0, none⟩) 1 1 (encNs ([(⟨29, 0, 0, (⟨#[]⟩ : ByteArray)⟩ : Nd)]))]) 4 ?_ ?_
    ·
     rcases Bool.eq_false_or_eq_true (((!(decide (((smE a b)) = 0))) || (!(decide (((smE b a)) = 0))))) with x0 | x0
     ·
      have b1 := x0
      try simp only [Bool.or_eq_true, Bool.and_eq_true, Bool.not_eq_true', Bool.not_eq_false', decide_eq_true_eq, decide_eq_false_iff_not, Bool.or_eq_false_iff, Bool.and_eq_false_iff] at b1
      have b1 := d1.setb (d := 96) (b := true) rfl x0
      refine sps b1 (wff b1) (fun v0 f1 => ?_)
      refine sps f1 (wff f1) (fun v0 b1 => ?_)
      refine sps b1 (wff b1) (fun v0 f1 => ?_)
      refine r_pick_t sv f1 rfl rfl rfl rfl (by decide) (fun v0 b1 => ?_)
      refine wpList_nil ?_
      exact x_then_n ⟨(b1.sub (rc rfl (rc rfl (rc rfl rnl)))), c1⟩
     ·
      have b1 := or_fl x0
      have v0 := not_f b1
      have b1 := of_decide_eq_true v0
      have v0 := or_fr x0
      have f1 := not_f v0
      have v0 := of_decide_eq_true f1
      have f1 := d1.setb (d := 96) (b := false) rfl x0
      refine r_move (st_listV_w (wt f1)) f1 rfl rfl rfl (by decide) (fun x0 d1 => ?_)
      refine r_move (st_listV_w (wt d1)) d1 rfl rfl rfl (by decide) (fun x0 f1 => ?_)
      rcases Bool.eq_false_or_eq_true (smB a b) with x0 | x0
      ·
       have d1 : (smB b a) = true := (sm_swap c0 b1 v0).symm.trans x0
       have z0 := f1.setb (d := 97) (b := true) rfl x0
       have h1 := z0.setb (d := 98) (b := true) rfl d1
       refine r_eqlB (st_listV_w (wt f1)) h1 rfl rfl rfl rfl Tryd.underlying4 (by decide) (fun z0 d1 => ?_)
       refine r_pick_f sv d1 rfl rfl rfl rfl (by decide) (fun z0 h1 => ?_)
       refine wpList_nil ?_
       exact x_then_n ⟨(h1.sub (rc rfl (rc rfl (rc rfl rnl)))), c1⟩
      ·
       have h1 : (smB b a) = false := (sm_swap c0 b1 v0).symm.trans x0
       have v0 := f1.setb (d := 97) (b := false) rfl x0
       have x0 := v0.setb (d := 98) (b := false) rfl h1
       refine r_eqlB (st_listV_w (wt f1)) x0 rfl rfl rfl rfl Tryd.underlying4 (by decide) (fun v0 h1 => ?_)
       refine r_pick_f sv h1 rfl rfl rfl rfl (by decide) (fun v0 x0 => ?_)
       refine wpList_nil ?_
       exact x_then_n ⟨(x0.sub (rc rfl (rc rfl (rc rfl rnl)))), c1⟩
    rintro x0 c1 ⟨v0, h1⟩
    refine asg v0 (fun c1 x0 => ?_)
    refine wpList_nil (x_then_n (y0 _ _ ?_))
    refine wp_ret ?_
    refine e_ret1 x0 rfl rfl rfl ?_
    refine ⟨?_, h1.fr⟩
    exact congrArg Ending.returned (ret_b (by first | rfl | omega | assumption | exact decide_eq_true (by assumption) | (have b0 := d0; (try simp at b0); have h1 := m0; (try simp at h1); have x0 := i0; (try simp at x0); have y0 := j0; (try simp at y0); have c1 := n0; (try simp at c1); have v0 := c0; (try simp at v0); have f1 := t0; (try simp at f1); have b1 := o0; (try simp at b1); have z0 := k0; (try simp at z0); have d1 := u0; (try simp at d1);  omega) | (simp [d0, m0, i0, j0, n0, c0, t0, o0, k0, u0]; done) | (simp [] at *; done) | (simp [d0, m0, i0, j0, n0, c0, t0, o0, k0, u0] <;> omega) | (rw [Bool.eq_iff_iff]; simp [d0, m0, i0, j0, n0, c0, t0, o0, k0, u0] <;> omega) | (rw [Bool.eq_iff_iff]; simp [d0, m0, i0, j0, n0, c0, t0, o0, k0, u0] at * <;> omega)))
   ·
    have d1 := h0.setb (d := 49) (b := true) rfl (by rw [(decide_eq_false t0)]; rfl)
    refine wp_cond_true (d1.ev rfl) ?_
    refine wsc (fun h0 u0 => ?_)
    refine mv d1 (fun h0 k0 => ?_)
    have h0 := f0.nf
    refine k_call (xs := [.tmp 50]) se k0 rfl rfl rfl (by decide) ok11 (great16_calls _ _ h0.il ((smE a a))) ?_
    rintro k0 d1 ⟨rfl, o0⟩
    have d1 := h0.below o0.below
    refine ⟨_, rfl, fun o0 h0 => ?_⟩
    refine mv h0 (fun o0 k0 => ?_)
    have o0 : (grB ((smE a a))) = true := (by rw [(sm_self c0).2 t0]; rfl)
    have h0 := k0.setb (d := 52) (b := true) rfl o0
    refine r_move (st_listV_w (wt h0)) h0 rfl rfl rfl (by decide) (fun k0 i1 => ?_)
    refine r_not (st_listV_w (wt i1)) i1 rfl rfl rfl (by decide) (fun k0 h0 => ?_)
    refine r_pick_t sv h0 rfl rfl rfl rfl (by decide) (fun k0 i1 => ?_)
    refine asg i1 (fun k0 h0 => ?_)
    refine wpList_nil (x_then_n (u0 _ _ ?_))
    refine wp_ret ?_
    refine x_then_r ?_
    refine e_ret1 h0 rfl rfl rfl ?_
    have h0 : (smB a a) = false := sm_two t0
    refine ⟨?_, d1.fr⟩
    exact congrArg Ending.returned (ret_b (by first | rfl | omega | assumption | exact decide_eq_true (by assumption) | (have b0 := d0; (try simp at b0); have h1 := m0; (try simp at h1); have x0 := i0; (try simp at x0); have y0 := j0; (try simp at y0); have c1 := n0; (try simp at c1); have v0 := c0; (try simp at v0); have f1 := t0; (try simp at f1); have b1 := o0; (try simp at b1); have z0 := h0; (try simp at z0);  omega) | (simp [d0, m0, i0, j0, n0, c0, t0, o0, h0]; done) | (simp [] at *; done) | (simp [d0, m0, i0, j0, n0, c0, t0, o0, h0] <;> omega) | (rw [Bool.eq_iff_iff]; simp [d0, m0, i0, j0, n0, c0, t0, o0, h0] <;> omega) | (rw [Bool.eq_iff_iff]; simp [d0, m0, i0, j0, n0, c0, t0, o0, h0] at * <;> omega)))
  ·
   have h0 := p0.setb (d := 41) (b := true) rfl (by rw [(decide_eq_false c0)]; rfl)
   refine wp_cond_true (h0.ev rfl) ?_
   refine wsc (fun p0 o0 => ?_)
   refine mv h0 (fun p0 z0 => ?_)
   refine r_not sv z0 rfl rfl rfl (by decide) (fun p0 h0 => ?_)
   refine mv h0 (fun p0 z0 => ?_)
   have p0 : (smB a a) = false := (sm_bad c0).1
   have h0 := z0.setb (d := 44) (b := true) rfl (by rw [p0]; rfl)
   refine r_move (st_listV_w (wt h0)) h0 rfl rfl rfl (by decide) (fun z0 t0 => ?_)
   refine r_neq (st_listV_w (wt t0)) t0 rfl rfl rfl rfl (by decide) (fun z0 h0 => ?_)
   refine r_pick_t sv h0 rfl rfl rfl rfl (by decide) (fun z0 t0 => ?_)
   refine asg t0 (fun z0 h0 => ?_)
   refine wpList_nil (x_then_n (o0 _ _ ?_))
   refine wp_ret ?_
   refine x_then_r ?_
   refine e_ret1 h0 rfl rfl rfl ?_
   have h0 : ¬ (((smE a a)) = 0) := (by rw [(sm_bad c0).2]; exact c0)
   refine ⟨?_, f0.fr⟩
   exact congrArg Ending.returned (ret_b (by first | rfl | omega | assumption | exact decide_eq_true (by assumption) | (have b0 := d0; (try simp at b0); have h1 := m0; (try simp at h1); have x0 := i0; (try simp at x0); have y0 := j0; (try simp at y0); have c1 := n0; (try simp at c1); have v0 := c0; (try simp at v0); have f1 := p0; (try simp at f1); have b1 := h0; (try simp at b1);  omega) | (simp [d0, m0, i0, j0, n0, c0, p0, h0]; done) | (simp [] at *; done) | (simp [d0, m0, i0, j0, n0, c0, p0, h0] <;> omega) | (rw [Bool.eq_iff_iff]; simp [d0, m0, i0, j0, n0, c0, p0, h0] <;> omega) | (rw [Bool.eq_iff_iff]; simp [d0, m0, i0, j0, n0, c0, p0, h0] at * <;> omega)))
end Go.Proofs.YthdemmcfnpmmiaaDoor
/- From a row's reading to cells, and back: slices of nodes, the table of shapes, arguments that nobody changed. -/
namespace Go.Proofs.YthdemmcfnpmmiaaDoor
set_option linter.unusedSimpArgs false
set_option linter.unusedVariables false
open Go Go.RowKit Go.WideShapes Go.ChangeShapes
theorem kids : Kids Tryd.prog (· < Tryd.prog.types.size) := kids_rows (by kernel_rfl) (by kernel_rfl)
theorem slicesFull : ∀ t e, t < Tryd.prog.types.size → Tryd.prog.underlying t = some (.slice e) → 0 < Tryd.prog.cellsOf e := slices_full_of Tryd.prog (by kernel_rfl)
theorem ownKnobNone : ownKnob Tryd.prog.godebug = none := by kernel_rfl
section
variable {H : Type} {enc : TypeId × Value → H} {P : Program} {w W W' : World}
theorem trodAll_carry {base : Nat} {sp : Nat → Bool} {held : Bool} : ∀ {ts : List TypeId} {vs : List Value} {ds : List (DataW H)} {ps : List MemPlace},
  DataW.TrodAll enc P W base sp held ts vs ds ps → (∀ p ∈ ps, W.sameAt W' p) → DataW.TrodAll enc P W' base sp held ts vs ds ps
 | [], [], [], _, h, _ => h
 | _ :: _, _ :: _, _ :: _, _, ⟨p, q, ⟨n, h1⟩, h2, e⟩, hs =>
  ⟨p, q, ⟨n, DataW.trod_carry n _ _ _ h1 (fun x hx => hs x (by rw [e]; exact List.mem_append_left _ hx))⟩,
   trodAll_carry h2 (fun x hx => hs x (by rw [e]; exact List.mem_append_right _ hx)), e⟩
 | [], [], _ :: _, _, h, _ => h.elim
 | [], _ :: _, _, _, h, _ => h.elim
 | _ :: _, [], _, _, h, _ => h.elim
 | _ :: _, _ :: _, [], _, h, _ => h.elim
theorem sameAt_below (hb : Below W.heap.size W W') {p : MemPlace} (hp : p.block < W.heap.size) : W.sameAt W' p := by
 cases p with
 | cell b off => exact hb.cell (p := ⟨b, off, none⟩) hp
 | map b => exact hb.block b hp
theorem post_true {f : Func} {s : ChangeSpec} {apart fresh handsOn again : Bool} {args : Array Value} {ds : List (DataW H)} {before : List MemPlace}
  (K : Kids P (· < P.types.size)) (hz : ∀ t e, t < P.types.size → P.underlying t = some (.slice e) → 0 < P.cellsOf e) (hts : ∀ t ∈ f.params.toList, t < P.types.size)
  (hvars : s.vars = []) (hW : DataW.Whole enc P f.params.toList s.vars apart W args.toList ds [] before)
  {tb : TypeId} (hrt : f.resultTypes = #[tb]) (htb : P.underlying tb = some .bool)
  (hfn : (s.fn H ds).results = [.lit (.bool true)] ∧ (s.fn H ds).args = ds ∧ (s.fn H ds).vars = []) (hb : Below W.heap.size W W') :
  s.post enc P f apart fresh handsOn again W args (.bool true) W' := by
 have hlt : ∀ p ∈ before, p.block < W.heap.size := fun p hp => hW.lt p hp
 have hold : ∀ p ∈ before, (fun b => decide (b < W.heap.size)) p.block = true := fun p hp => by simpa using hlt p hp
 have hW0 := hW
 obtain ⟨p, q, hA, hV, he, hzf, hn⟩ := hW0
 rw [hvars] at hV
 have hq : q = [] := hV
 subst hq
 rw [List.append_nil] at he
 subst he
 have hA' := trodAll_carry (W' := W') hA (fun x hx => sameAt_below hb (hlt x hx))
 have hres : ∀ (b : Nat) (sp : Nat → Bool) (hd : Bool), DataW.TrodAll enc P W' b sp hd f.resultTypes.toList ((Value.bool true).resultList f.resultTypes.size) (s.fn H ds).results [] := fun b sp hd => by
  rw [hfn.1, hrt]
  exact trodAll_mk1 (shut_bool htb true)
 refine ⟨ds, [], before, [], before, [], hW, ?_, ?_, ?_, World.keptBut_mono (fun p hp => ⟨hp, .inr (.inl hp)⟩) (hb.frame (· ∈ before)), fun _ => ⟨?_, ?_⟩⟩
 · rw [List.append_nil]; exact hres _ _ _
 ·
  rw [List.append_nil, hfn.2.1]
  exact DataW.TrodAll.respare K hz hts hA' hold
 ·
  rw [List.append_nil, hfn.2.2, hvars]
  exact rfl
 · exact ok_one hrt rfl (okWide_bool_mk htb true)
 ·
  refine ⟨[.lit (.bool true)] ++ ds, [], [] ++ before, ⟨[] ++ before, [], ?_, ?_, by simp, ?_, ?_⟩, ?_⟩
  ·
   rw [hrt]
   exact trodAll_append hA' (trodAll_mk1 (shut_bool htb true))
  ·
   rw [hvars]
   exact rfl
  ·
   intro b off hp
   have hin : MemPlace.cell b off ∈ before := by simpa using hp
   rw [hb.frozen (hlt _ hin)]
   exact hzf b off hin
  ·
   intro ha
   simpa using hn ha
  ·
   intro x hx _
   simpa using hx
end
section
variable {H : Type} {enc : TypeId × Value → H} {w : World}
theorem lt_of_cell {p : Addr} {v : Value} (h : w.cell? p = some v) : p.block < w.heap.size := by
 unfold World.cell? at h
 cases ho : w.heap[p.block]? with
 | none => simp [ho] at h
 | some o => exact (Array.getElem?_eq_some_iff.1 ho).1
set_option maxRecDepth 100000 in
theorem node_cells {base : Nat} {sp : Nat → Bool} {held : Bool} {n : Nat} {cs : List Value} {x : DataW H × List MemPlace} (h : DataW.trod enc Tryd.prog w base sp held n 32 cs = some x) : ∃ nd : Nd, cs = encN nd := by
 have hu : Tryd.prog.underlying 32 = some (.struct (Tryd.prog.fieldsOf 32)) := by kernel_rfl
 have hf : (Tryd.prog.fieldsOf 32).toList.map (fun f => (f.type, f.offset)) = [(3, 0), (3, 1), (3, 2), (9, 3)] := by kernel_rfl
 have hci : Tryd.prog.cellsOf 3 = 1 := by kernel_rfl
 have hcs : Tryd.prog.cellsOf 9 = 1 := by kernel_rfl
 have hcn : Tryd.prog.cellsOf 32 = 4 := by kernel_rfl
 obtain ⟨xs, m, _, _, hl, _, hg⟩ := DataW.trod_struct hu h
 rw [hcn] at hl
 have fld : ∀ (j : Nat) (t : TypeId) (off : Nat), ((Tryd.prog.fieldsOf 32).toList.map (fun f => (f.type, f.offset)))[j]? = some (t, off) → ∃ y, DataW.trod enc Tryd.prog w base sp held m t ((cs.drop off).take (Tryd.prog.cellsOf t)) = some y := by
  intro j t off hj
  rw [List.getElem?_map] at hj
  cases hfj : (Tryd.prog.fieldsOf 32).toList[j]? with
  | none => rw [hfj] at hj; cases hj
  | some f =>
   rw [hfj] at hj
   simp only [Option.map_some, Option.some.injEq, Prod.mk.injEq] at hj
   obtain ⟨rfl, rfl⟩ := hj
   have h1 := hg j f (by rw [← Array.getElem?_toList]; exact hfj)
   have hjl : j < (Tryd.prog.fieldsOf 32).size := by
    have := (List.getElem?_eq_some_iff.1 hfj).1
    simpa using this
   have hxl : j < xs.length := by omega
   exact ⟨xs[j], by rw [h1]; exact List.getElem?_eq_getElem hxl⟩
 rw [hf] at fld
 match cs, hl with
 | [c0, c1, c2, c3], _ =>
  obtain ⟨y0, h0⟩ := fld 0 _ _ rfl
  obtain ⟨y1, h1⟩ := fld 1 _ _ rfl
  obtain ⟨y2, h2⟩ := fld 2 _ _ rfl
  obtain ⟨y3, h3⟩ := fld 3 _ _ rfl
  rw [hci] at h0 h1 h2
  rw [hcs] at h3
  obtain ⟨a, ha, _⟩ := DataW.trod_int Tryd.underlying3 h0
  obtain ⟨b, hb, _⟩ := DataW.trod_int Tryd.underlying3 h1
  obtain ⟨c, hc, _⟩ := DataW.trod_int Tryd.underlying3 h2
  obtain ⟨s, hs, _⟩ := DataW.trod_string Tryd.underlying9 h3
  simp at ha hb hc hs
  exact ⟨⟨a, b, c, s⟩, by simp [encN, ha, hb, hc, hs]⟩
set_option maxRecDepth 100000 in
theorem open_nodes {r : Reach} {base b0 : Nat} {sp : Nat → Bool} {held : Bool} {v : Value} {d : DataW H} {ps : List MemPlace} (hval : Value.okWide Tryd.prog w r b0 22 v) (hd : DataW.Trod enc Tryd.prog w base sp held 22 v d ps) :
  ∃ (A : Option Addr) (c : Nat) (t : List Nd), v = .slice A t.length c ∧ (dRow 4 A t.length c (encNs t)).φ w (fun k => k < w.heap.size) := by
 obtain ⟨A, len, cap, rfl⟩ := okWide_slice Tryd.underlying22 hval
 obtain ⟨fuel, hf⟩ := hd
 have hcn : Tryd.prog.cellsOf 32 = 4 := by kernel_rfl
 rcases Deep.open_slice Tryd.underlying22 hf with ⟨hcs, _⟩ | ⟨a, len', cap', m, n, D, Pl, hcs, _, hl, _, hm, _, hi⟩
 ·
  simp [Value.cells] at hcs
  obtain ⟨rfl, rfl, rfl⟩ := hcs
  exact ⟨none, 0, [], rfl, Nat.le_refl _, rfl, fun h => absurd h (by simp)⟩
 ·
  simp [Value.cells] at hcs
  obtain ⟨rfl, rfl, rfl⟩ := hcs
  have hmm : len ≤ m := by rw [hm]; split <;> omega
  have hnd : ∀ i, ∃ nd : Nd, i < len → w.cells? base (a.add (i * 4)) 4 = some (encN nd) := by
   intro i
   by_cases hil : i < len
   ·
    obtain ⟨cs', hc, ht⟩ := hi i (by omega)
    obtain ⟨nd, rfl⟩ := node_cells ht
    rw [hcn] at hc
    exact ⟨nd, fun _ => hc⟩
   · exact ⟨ndz, fun h => absurd h hil⟩
  obtain ⟨f, hf'⟩ := Classical.axiomOfChoice hnd
  refine ⟨some a, cap, (List.range len).map f, by simp, ?_, ?_, fun hpos => ⟨a, rfl, ?_, ?_⟩⟩
  · simpa using hl
  · exact encNs_length _
  ·
   have hp0 : 0 < len := by simpa using hpos
   obtain ⟨_, _, hat⟩ := World.cells?_some (hf' 0 hp0)
   have h0 := hat 0 (by omega)
   rw [add_of_add] at h0
   have := lt_of_cell (w := w) (p := a.add (0 * 4 + 0)) (by rw [h0]; rfl)
   rwa [block_of_add] at this
  ·
   intro j u hu
   have hjl : j < len * 4 := by
    have h1 := (List.getElem?_eq_some_iff.1 hu).1
    rw [encNs_length] at h1
    simpa using h1
   have hi4 : j / 4 < len := by omega
   obtain ⟨_, hcl, hat⟩ := World.cells?_some (hf' (j / 4) hi4)
   have h1 := hat (j % 4) (by omega)
   rw [add_of_add, show j / 4 * 4 + j % 4 = j by omega] at h1
   rw [h1, ← hu]
   have h2 := enc_at encN_len ((List.range len).map f) (j / 4) (by simpa using hi4) ndz
   have h3 : (((List.range len).map f).getD (j / 4) ndz) = f (j / 4) := by simp [hi4]
   rw [h3] at h2
   have h4 : (encNs ((List.range len).map f))[j]? = (((((List.range len).map f).flatMap encN).drop (j / 4 * 4)).take 4)[j % 4]? := by
    rw [List.getElem?_take_of_lt (by omega), List.getElem?_drop, show j / 4 * 4 + j % 4 = j by omega]
    rfl
   rw [h4, h2]
end
end Go.Proofs.YthdemmcfnpmmiaaDoor
/- The table of shapes: from the row's list to cells; a world that holds it. -/
namespace Go.Proofs.YthdemmcfnpmmiaaDoor
set_option linter.unusedSimpArgs false
set_option linter.unusedVariables false
open Go Go.RowKit Go.WideShapes Go.ChangeShapes
set_option maxRecDepth 100000
def shapeD (k : Nat) : DataW Unit := .agg [(match (shp k).b with | [] => .nil | b => .slice (lits .i64 b) []), .lit (.bool (shp k).n), .lit (.bool (shp k).m), .lit (.bool (shp k).s)]
theorem laid_eq : (Rows.laid_cornice_term_shapes : DataW Unit) = .agg ((List.range 30).map shapeD) := by kernel_rfl
theorem encIs_map (l : List Int) : encIs l = l.map (fun n => Value.int .i64 n) := by
 induction l with
 | nil => rfl
 | cons x t ih => rw [List.map_cons, ← ih]; rfl
theorem shape_cells {w : World} {base : Nat} {sp : Nat → Bool} {held : Bool} {n : Nat} {cs : List Value} {k : Nat} {p : List MemPlace}
  (h : DataW.trod (fun _ => ()) Tryd.prog w base sp held n 77 cs = some (shapeD k, p)) :
  ∃ (A : Option Addr) (cap : Nat), cs = [.slice A (shp k).b.length cap, .bool (shp k).n, .bool (shp k).m, .bool (shp k).s] ∧ (shp k).b.length ≤ cap ∧ RowI w (fun k => k < w.heap.size) 1 A (shp k).b.length (encIs (shp k).b) := by
 have hu : Tryd.prog.underlying 77 = some (.struct (Tryd.prog.fieldsOf 77)) := by kernel_rfl
 have hf : (Tryd.prog.fieldsOf 77).toList.map (fun f => (f.type, f.offset)) = [(56, 0), (4, 1), (4, 2), (4, 3)] := by kernel_rfl
 have hci : Tryd.prog.cellsOf 56 = 1 := by kernel_rfl
 have hci1 : Tryd.prog.cellsOf 3 = 1 := by kernel_rfl
 have hcs : Tryd.prog.cellsOf 4 = 1 := by kernel_rfl
 have hcn : Tryd.prog.cellsOf 77 = 4 := by kernel_rfl
 obtain ⟨xs, m, _, hx, hl, hxl, hg⟩ := DataW.trod_struct hu h
 rw [hcn] at hl
 have hd : xs.map (·.1) = [(match (shp k).b with | [] => .nil | b => .slice (lits .i64 b) []), .lit (.bool (shp k).n), .lit (.bool (shp k).m), .lit (.bool (shp k).s)] := by
  have := congrArg Prod.fst hx
  simp only [shapeD] at this
  injection this with h1
  exact h1.symm
 have fld : ∀ (j : Nat) (t : TypeId) (off : Nat), ((Tryd.prog.fieldsOf 77).toList.map (fun f => (f.type, f.offset)))[j]? = some (t, off) → DataW.trod (fun _ => ()) Tryd.prog w base sp held m t ((cs.drop off).take (Tryd.prog.cellsOf t)) = xs[j]? := by
  intro j t off hj
  rw [List.getElem?_map] at hj
  cases hfj : (Tryd.prog.fieldsOf 77).toList[j]? with
  | none => rw [hfj] at hj; cases hj
  | some f =>
   rw [hfj] at hj
   simp only [Option.map_some, Option.some.injEq, Prod.mk.injEq] at hj
   obtain ⟨rfl, rfl⟩ := hj
   exact hg j f (by rw [← Array.getElem?_toList]; exact hfj)
 rw [hf] at fld
 match cs, hl, xs, hd with
 | [c0, c1, c2, c3], _, [y0, y1, y2, y3], hd =>
  simp only [List.map_cons, List.map_nil, List.cons.injEq, and_true] at hd
  obtain ⟨d0, d1, d2, d3⟩ := hd
  have h0 := fld 0 _ _ rfl
  have h1 := fld 1 _ _ rfl
  have h2 := fld 2 _ _ rfl
  have h3 := fld 3 _ _ rfl
  rw [hci] at h0
  rw [hcs] at h1 h2 h3
  obtain ⟨b1, e1, f1⟩ := DataW.trod_bool Tryd.underlying4 h1
  obtain ⟨b2, e2, f2⟩ := DataW.trod_bool Tryd.underlying4 h2
  obtain ⟨b3, e3, f3⟩ := DataW.trod_bool Tryd.underlying4 h3
  simp at e1 e2 e3
  simp [f1] at d1
  simp [f2] at d2
  simp [f3] at d3
  subst e1 e2 e3 d1 d2 d3
  rcases open_ints Tryd.underlying56 Tryd.underlying3 hci1 h0 with ⟨hcs0, hy⟩ | ⟨a, len, cap, zs, hcs0, _, hle, _, hzl, hy, hcell, _⟩
  ·
   simp at hcs0
   subst hcs0
   rw [hy] at d0
   cases hb : (shp k).b with
   | nil => exact ⟨none, 0, by simp, by simp, by simp [encIs], fun h => absurd h (by simp)⟩
   | cons z zs => rw [hb] at d0; simp at d0
  ·
   simp at hcs0
   subst hcs0
   rw [hy] at d0
   cases hb : (shp k).b with
   | nil => rw [hb] at d0; simp at d0
   | cons z l =>
    rw [hb] at d0
    simp only [DataW.slice.injEq] at d0
    obtain ⟨d4, d5⟩ := d0
    have hinj : ∀ a b : List Int, (lits .i64 a : List (DataW Unit)) = lits .i64 b → a = b := by
     intro a
     induction a with
     | nil => intro b hb; cases b with
      | nil => rfl
      | cons _ _ => simp [lits] at hb
     | cons x a ih => intro b hb; cases b with
      | nil => simp [lits] at hb
      | cons y b =>
       simp only [lits, List.map_cons, List.cons.injEq, DataW.lit.injEq, Lit.int.injEq, true_and] at hb
       rw [hb.1, ih b hb.2]
    have d6 := hinj _ _ d4
    have hll : len = (z :: l).length := by
     have := congrArg List.length d6
     rw [List.length_take] at this
     have hz : len ≤ zs.length := by rw [hzl]; split <;> omega
     omega
    subst hll
    refine ⟨some a, cap, rfl, hle, by simp [encIs_length], fun _ => ⟨a, rfl, ?_, ?_⟩⟩
    ·
     have h9 := hcell 0 (by have hz2 : (z :: l).length ≤ zs.length := (by rw [hzl]; split <;> omega); rw [List.length_cons] at hz2; omega)
     have := lt_of_cell h9
     rwa [block_of_add] at this
    ·
     intro j u hu
     have hjl : j < (z :: l).length := by
      have := (List.getElem?_eq_some_iff.1 hu).1
      rw [encIs_length] at this
      simpa using this
     have hzz : (z :: l).length ≤ zs.length := by rw [hzl]; split <;> omega
     rw [hcell j (by omega)]
     have h8 : (z :: l)[j]? = zs[j]? := by rw [← d6, List.getElem?_take_of_lt hjl]
     have h7 := encIs_map (z :: l)
     rw [h7, List.getElem?_map, h8] at hu
     cases hq : zs[j]? with
     | none => rw [hq] at hu; simp at hu
     | some q =>
      rw [hq] at hu
      simp only [Option.map_some, Option.some.injEq] at hu
      rw [← hu, List.getD_eq_getElem?_getD, hq]
      rfl
theorem shapes_of_laid {W : World} (h : laidMetH Tryd.prog [("cornice/term.shapes", Rows.laid_cornice_term_shapes)] W) : Shapes W (fun k => k < W.heap.size) := by
 have h' : laidMet Tryd.prog [("cornice/term.shapes", Rows.laid_cornice_term_shapes)] W := h
 obtain ⟨ps, ⟨g, t, cs, fuel, p, q, hg, ht, hvar, hd, _, _⟩, _⟩ := h'
 have hg0 : Tryd.prog.globalNamed "cornice/term.shapes" = some 0 := by kernel_rfl
 have ht0 : (Tryd.prog.globals[0]?).map (·.type) = some 78 := by kernel_rfl
 obtain rfl : 0 = g := Option.some.inj (hg0.symm.trans hg)
 obtain rfl : 78 = t := Option.some.inj (ht0.symm.trans ht)
 have hcn : Tryd.prog.cellsOf 77 = 4 := by kernel_rfl
 have hct : Tryd.prog.cellsOf 78 = 120 := by kernel_rfl
 obtain ⟨xs, m, _, hx, hl, hxl, hi⟩ := DataW.trod_array Tryd.underlying78 hd
 rw [hct] at hl
 have hxd : xs.map (·.1) = (List.range 30).map shapeD := by
  have := congrArg Prod.fst hx
  simp only [laid_eq] at this
  injection this with h1
  exact h1.symm
 intro k hk
 have h1 := hi k hk
 rw [hcn] at h1
 have hkx : k < xs.length := by omega
 have h2 : xs[k]? = some (shapeD k, (xs[k]).2) := by
  rw [List.getElem?_eq_getElem hkx]
  have h3 : (xs.map (·.1))[k]? = some (shapeD k) := by rw [hxd]; simp [hk]
  rw [List.getElem?_map, List.getElem?_eq_getElem hkx] at h3
  simp only [Option.map_some, Option.some.injEq] at h3
  rw [← h3]
 rw [h2] at h1
 obtain ⟨A, cap, hcs, hle, hrow⟩ := shape_cells h1
 refine ⟨A, cap, ⟨hle, hrow⟩, ?_, ?_⟩
 ·
  have h4 := World.var?_cell hg hvar 0
  have h5 : cs[0]? ≠ none := by
   intro e
   rw [← Array.getElem?_toList, List.getElem?_eq_none_iff] at e
   omega
  cases h6 : cs[0]? with
  | none => exact absurd h6 h5
  | some v => rw [h6] at h4; exact lt_of_cell h4
 ·
  intro j u hu
  have hj : j < 4 := by
   have := (List.getElem?_eq_some_iff.1 hu).1
   simpa using this
  have h4 := World.var?_cell hg hvar (k * 4 + j)
  rw [← hcs, List.getElem?_take_of_lt hj, List.getElem?_drop, Array.getElem?_toList] at hu
  rw [hu] at h4
  rw [add_of_add]
  have : (⟨0, 0, none⟩ : Addr).add (k * 4 + j) = ⟨0, k * 4 + j, none⟩ := by unfold Addr.add; split <;> simp_all
  rw [this]
  exact h4
noncomputable def laidWorld (os : Os) : World :=
 { World.holding Tryd.prog os ⟨#[.cells #[.int .i64 0, .int .i64 1, .int .i64 0, .int .i64 1, .int .i64 0, .int .i64 0, .int .i64 0, .int .i64 1, .int .i64 0, .int .i64 0, .int .i64 0, .int .i64 0, .int .i64 0, .int .i64 0, .int .i64 1, .int .i64 0, .int .i64 2, .int .i64 0, .int .i64 0, .int .i64 0, .int .i64 0, .int .i64 0, .int .i64 0, .int .i64 0, .int .i64 0, .int .i64 0, .int .i64 0, .int .i64 0, .int .i64 0, .int .i64 0, .int .i64 0, .int .i64 1, .int .i64 0, .int .i64 0, .int .i64 0, .int .i64 0, .int .i64 2, .int .i64 0, .int .i64 0, .int .i64 0, .int .i64 0, .int .i64 0, .int .i64 0, .int .i64 1, .int .i64 0, .int .i64 0, .int .i64 0] 3], #[], []⟩ with heap := (World.holding Tryd.prog os ⟨#[.cells #[.int .i64 0, .int .i64 1, .int .i64 0, .int .i64 1, .int .i64 0, .int .i64 0, .int .i64 0, .int .i64 1, .int .i64 0, .int .i64 0, .int .i64 0, .int .i64 0, .int .i64 0, .int .i64 0, .int .i64 1, .int .i64 0, .int .i64 2, .int .i64 0, .int .i64 0, .int .i64 0, .int .i64 0, .int .i64 0, .int .i64 0, .int .i64 0, .int .i64 0, .int .i64 0, .int .i64 0, .int .i64 0, .int .i64 0, .int .i64 0, .int .i64 0, .int .i64 1, .int .i64 0, .int .i64 0, .int .i64 0, .int .i64 0, .int .i64 2, .int .i64 0, .int .i64 0, .int .i64 0, .int .i64 0, .int .i64 0, .int .i64 0, .int .i64 1, .int .i64 0, .int .i64 0, .int .i64 0] 3], #[], []⟩).heap.modify 0 fun
   | .cells _ t frozen => .cells #[.slice none 0 0, .bool true, .bool false, .bool false, .slice none 0 0, .bool false, .bool false, .bool true, .slice none 0 0, .bool true, .bool false, .bool false, .slice (some ⟨6, 0, none⟩) 2 2, .bool true, .bool false, .bool false, .slice (some ⟨6, 2, none⟩) 2 2, .bool false, .bool false, .bool false, .slice (some ⟨6, 4, none⟩) 2 2, .bool false, .bool false, .bool false, .slice (some ⟨6, 6, none⟩) 2 2, .bool true, .bool false, .bool false, .slice (some ⟨6, 8, none⟩) 3 3, .bool false, .bool false, .bool false, .slice (some ⟨6, 11, none⟩) 1 1, .bool false, .bool false, .bool false, .slice (some ⟨6, 12, none⟩) 1 1, .bool false, .bool false, .bool false, .slice none 0 0, .bool false, .bool false, .bool false, .slice none 0 0, .bool false, .bool false, .bool false, .slice (some ⟨6, 13, none⟩) 1 1, .bool false, .bool false, .bool false, .slice (some ⟨6, 14, none⟩) 4 4, .bool false, .bool false, .bool false, .slice none 0 0, .bool false, .bool false, .bool false, .slice (some ⟨6, 18, none⟩) 2 2, .bool false, .bool false, .bool false, .slice none 0 0, .bool false, .bool false, .bool false, .slice none 0 0, .bool false, .bool false, .bool false, .slice (some ⟨6, 20, none⟩) 3 3, .bool false, .bool false, .bool false, .slice (some ⟨6, 23, none⟩) 2 2, .bool false, .bool false, .bool false, .slice (some ⟨6, 25, none⟩) 4 4, .bool false, .bool false, .bool false, .slice (some ⟨6, 29, none⟩) 6 6, .bool false, .bool false, .bool false, .slice (some ⟨6, 35, none⟩) 5 5, .bool false, .bool false, .bool false, .slice (some ⟨6, 40, none⟩) 2 2, .bool false, .bool false, .bool false, .slice (some ⟨6, 42, none⟩) 4 4, .bool false, .bool false, .bool false, .slice none 0 0, .bool false, .bool false, .bool true, .slice none 0 0, .bool true, .bool true, .bool true, .slice none 0 0, .bool false, .bool true, .bool true, .slice (some ⟨6, 46, none⟩) 1 1, .bool false, .bool false, .bool false, .slice none 0 0, .bool false, .bool false, .bool false] t frozen
   | o => o }
end Go.Proofs.YthdemmcfnpmmiaaDoor
/- The law ConvertSelf: it returns true, whatever its arguments are, and they read as they did; the table of shapes holds what the program's text lays. -/
namespace Go.Proofs.YthdemmcfnpmmiaaDoor.lawConvertSelf
open Go Go.RowKit Go.WideShapes Go.ChangeShapes Go.Proofs.YthdemmcfnpmmiaaDoor
set_option maxRecDepth 100000
set_option linter.unusedSimpArgs false
set_option linter.unusedVariables false
theorem contract (H : Type) (enc : TypeId × Value → H) (W : World) (base : Nat) (args : Array Value) (ds gs : List (DataW H)) (before : List MemPlace)
  (hval : ∀ (j : Nat) t v, Tryd.f3.params[j]? = some t → args[j]? = some v → Value.okWide Tryd.prog W .any base t v)
  (hW : DataW.Whole enc Tryd.prog Tryd.f3.params.toList Rows.convertSelfSpec.vars false W args.toList ds gs before) (hL : laidMetH Tryd.prog Rows.convertSelfRow.laid W) :
  Calls Tryd.prog 3 args W fun e W' => ∃ v, e = .returned v ∧ Rows.convertSelfSpec.post enc Tryd.prog Tryd.f3 false true false false W args v W' := by
 have hW' := hW
 obtain ⟨p, q, hA0, hV, rfl, hfz, hnd⟩ := hW
 have hA := hA0
 rw [Tryd.params3] at hA hval
 obtain ⟨v0, vs0, d0, ds0, p0, q0, hargs, rfl, rfl, h0, r0⟩ := trodAll_cons hA
 obtain ⟨v1, vs1, d1, ds1, p1, q1, rfl, rfl, rfl, h1, r1⟩ := trodAll_cons r0
 obtain ⟨rfl, rfl, rfl⟩ := trodAll_nil r1
 obtain rfl : args = #[v0, v1] := by cases args; simp_all
 obtain ⟨rfl, rfl⟩ := trodVars_none hV
 obtain ⟨A0, c0, t0, rfl, g0⟩ := open_nodes (hval 0 _ _ rfl rfl) h0
 obtain ⟨A1, c1, t1, rfl, g1⟩ := open_nodes (hval 1 _ _ rfl rfl) h1
 refine (convertSelf_calls W (fun k => k < W.heap.size) (fun _ h => h) A0 c0 t0 A1 c1 t1 (shapes_of_laid hL) g0 g1).mono fun e W' ⟨he, hf⟩ => ?_
 subst he
 exact ⟨_, rfl, post_true kids slicesFull (by rw [Tryd.params3]; decide) rfl hW' rfl Tryd.underlying4 ⟨rfl, rfl, rfl⟩ hf.below⟩
theorem laid_met (os : Os) : laidMet Tryd.prog Rows.convertSelfRow.laid ((laidWorld os).forCall (fun _ _ => 0) ⟨#[], #[Value.slice none 0 0, Value.slice none 0 0], []⟩).memory :=
 laidMet_of_run' 8 (by kernel_rfl) (by kernel_rfl)
theorem reads (os : Os) {H : Type} (enc : TypeId × Value → H) : ∃ places, DataW.whole enc Tryd.prog ((laidWorld os).forCall (fun _ _ => 0) ⟨#[], #[Value.slice none 0 0, Value.slice none 0 0], []⟩).memory Tryd.f3.params.toList Rows.convertSelfSpec.vars false #[Value.slice none 0 0, Value.slice none 0 0].toList 8 = some ([.nil, .nil], [], places) :=
 ⟨[], by kernel_rfl⟩
theorem lifted (os : Os) (started : os.Started) (H : Type) (enc : TypeId × Value → H) (F : Stop.Interp) :
  ReturnsInHanded {} Tryd.checked os 3 .any ((OpenSpec.ofChange Rows.convertSelfSpec).preRow enc Tryd.prog Tryd.f3 Rows.convertSelfRow.domain false Rows.convertSelfRow.laid) (((OpenSpec.ofChange Rows.convertSelfSpec).at F).post enc Tryd.prog Tryd.f3 false true false false) := by
 obtain ⟨places, hx⟩ := reads os enc
 refine returnsInHanded_of_row (C := Tryd.checked) (s := OpenSpec.ofChange Rows.convertSelfSpec) ownKnobNone started (by kernel_rfl) Tryd.func3
  (witness_row_atRef (enc := enc) (C := Tryd.checked) false (laidWorld os) #[Value.slice none 0 0, Value.slice none 0 0] rfl (by kernel_rfl) (by kernel_rfl) (by kernel_rfl)
   (OpenSpec.preRow_of_cond 8 hx (by kernel_rfl) (fun k hk => by cases hk) (by kernel_rfl) (laid_met os))) ?_
 intro W base args ds gs before hval hW _ _ _ hL _ _
 exact contract H enc W base args ds gs before hval hW hL
theorem said : Rows.ConvertSelfSaid :=
 OpenClaim.holds_of_cond 3 Tryd.f3 rfl rfl rfl rfl rfl rfl rfl ⟨rfl, rfl, rfl, rfl, rfl⟩ rfl rfl rfl rfl rfl (by kernel_rfl) Tryd.func3 (by kernel_rfl)
  (of_decide_eq_true (by kernel_rfl)) (by unfold Func.isWrapper; first | (rw [if_pos (by decide +kernel)]; kernel_rfl) | (rw [if_neg (by decide +kernel)]; exact ⟨rfl, rfl⟩))
  (fun os started H enc _ F => by rw [OpenClaim.pre_eq_preRow]; exact lifted os started H enc F)
theorem plain (f : FuncId) (fn : Func) (hf : Tryd.pinned.checked.prog.funcNamed "cornice/cornicelaw16.ConvertSelf" = some f) (hfn : Tryd.pinned.checked.prog.funcs[f]? = some fn) :
  false = Tryd.pinned.checked.prog.looks [] ∧ ∀ (j : Nat) t, fn.params[j]? = some t → Tryd.pinned.checked.prog.wantsStandIn t = false := by
 obtain rfl : f = 3 := Option.some.inj ((show Tryd.prog.funcNamed "cornice/cornicelaw16.ConvertSelf" = some 3 by kernel_rfl).symm.trans hf) |>.symm
 obtain rfl : fn = Tryd.f3 := (Option.some.inj (Tryd.func3.symm.trans hfn)).symm
 refine ⟨by kernel_rfl, fun j t ht => ?_⟩
 rw [Tryd.params3] at ht
 have hm := Array.mem_of_getElem? ht
 simp only [List.mem_toArray, List.mem_cons, List.not_mem_nil, or_false] at hm
 rcases hm with rfl | rfl
 · exact (show Tryd.prog.wantsStandIn 22 = false by kernel_rfl)
 · exact (show Tryd.prog.wantsStandIn 22 = false by kernel_rfl)
theorem proved : Rows.ConvertSelfCardSaid :=
 Claim7.holds_tied_plain_at .later [] _ _ _ _ said (fun _ h => by cases h) (by kernel_rfl) (fun _ h => by cases h) convertSelf_row_tie rfl ⟨rfl, rfl⟩ (by kernel_rfl) rfl plain (by kernel_rfl)
end Go.Proofs.YthdemmcfnpmmiaaDoor.lawConvertSelf
