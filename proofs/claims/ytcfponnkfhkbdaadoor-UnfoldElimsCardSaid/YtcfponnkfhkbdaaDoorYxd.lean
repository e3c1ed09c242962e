import Derived.Test.YtcfponnkfhkbdaaDoorYxc
/- Contracts of functions, one theorem each: what the call returns, and that nothing old is changed. Printed by gen.py. -/
namespace Go.Proofs.YtcfponnkfhkbdaaDoor
open Go Go.RowKit
set_option linter.unusedSimpArgs false
set_option linter.unusedVariables false
set_option maxRecDepth 100000 in
set_option maxHeartbeats 1000000 in
theorem uroot_calls (w0 : World) (Z : Nat → Prop) (hZ : ∀ k, Z k → k < w0.heap.size) (tA : Option Addr) (tc : Nat) (t : List Nd) (ht : (dRow 4 tA t.length tc (encNs t)).φ w0 Z) (hl : t.length ≤ 1000000 := by first | assumption | omega | (simp; done) | (simp; omega)) (h0 : 0 < t.length := by first | assumption | omega | (simp; done) | (simp; omega)) :
    Calls Tryd.prog 34 [.slice tA t.length tc].toArray w0 (fun e w' => e = .returned (.agg #[.int .i64 (((nth t (t.length - 1)).K)), .int .i64 (((nth t (t.length - 1)).N)), .int .i64 (((nth t (t.length - 1)).M)), .string ((nth t (t.length - 1)).S)]) ∧ Fr none_ w0 w') := by
 have b0 := s0 (M := none_) hZ (zc ht zn)
 refine c_enter Tryd.func34 rfl Tryd.ntmps34 rfl (fun c0 d0 => ?_)
 refine wsc (fun c0 f0 => ?_)
 refine m_alloc (cs := [.int .i64 0, .int .i64 0, .int .i64 0, .string (⟨#[]⟩ : ByteArray)]) sv d0 b0 rfl rfl ze39 rfl (by decide) (fun c0 i0 j0 k0 m0 => ?_)
 refine wpList_nil (x_then_n (f0 _ _ ?_))
 refine wsc (fun f0 j0 => ?_)
 refine mv k0 (fun f0 i0 => ?_)
 refine mv i0 (fun f0 k0 => ?_)
 refine r_len sv k0 rfl rfl rfl rfl Tryd.underlying22 (by decide) (fun f0 i0 => ?_)
 refine r_sub (z := (((t.length : Nat) : Int) - 1)) sv i0 rfl rfl rfl rfl (by decide) (by omega) (by omega) (by omega) (fun f0 k0 => ?_)
 refine m_index (i := (t.length) - (1)) (j := ((t.length) - (1)) * 4) sv k0 rfl rfl rfl rfl Tryd.underlying22 sz39 (by omega) (by omega) (nds_elem (t := t) (k := (t.length) - (1)) (m0.row (i := 0) rfl).2 (by omega)).some_ rfl (by decide) (fun f0 i0 => ?_)
 refine m_loadEN sv i0 rfl rfl rfl (nds_elem (t := t) (k := (t.length) - (1)) (m0.row (i := 0) rfl).2 (by omega)) Tryd.underlying39 rfl sz39 (by decide) (fun f0 k0 => ?_)
 refine m_store (i := 0) (cs' := [.int .i64 (((nth t ((t.length) - (1))).K)), .int .i64 (((nth t ((t.length) - (1))).N)), .int .i64 (((nth t ((t.length) - (1))).M)), .string ((nth t ((t.length) - (1))).S)]) se k0 m0 rfl rfl rfl rfl rfl sz39 rfl rfl rfl (fun f0 i0 c0 d0 => ?_)
 refine wpList_nil (x_then_n (j0 _ _ ?_))
 refine wp_ret ?_
 refine e_cell (i := 0) (vs := [.int .i64 (((nth t ((t.length) - (1))).K)), .int .i64 (((nth t ((t.length) - (1))).N)), .int .i64 (((nth t ((t.length) - (1))).M)), .string ((nth t ((t.length) - (1))).S)]) (.inl rfl) c0 d0 rfl rfl rfl rfl Tryd.underlying39 rfl sz39 ?_
 refine ⟨?_, d0.fr⟩
 exact congrArg Ending.returned rfl
set_option maxRecDepth 100000 in
set_option maxHeartbeats 1000000 in
theorem utarget_calls (w0 : World) (Z : Nat → Prop) (hZ : ∀ k, Z k → k < w0.heap.size) (n : Nd) (hr : right n = true := by first | assumption | omega | (simp; done) | (simp; omega)) :
    Calls Tryd.prog 35 [.agg #[.int .i64 (n.K), .int .i64 (n.N), .int .i64 (n.M), .string n.S]].toArray w0 (fun e w' => e = .returned (.int .i64 (tgK n)) ∧ Fr none_ w0 w') := by
 have b0 := s0 (M := none_) hZ zn
 have hM9 := right_M hr
 refine c_enter Tryd.func35 rfl Tryd.ntmps35 rfl (fun c0 d0 => ?_)
 refine wsc (fun c0 f0 => ?_)
 refine m_box (cs := [.int .i64 (n.K), .int .i64 (n.N), .int .i64 (n.M), .string n.S]) sv d0 b0 rfl rfl rfl rfl (by decide) (fun c0 h0 i0 j0 k0 => ?_)
 refine asg j0 (fun i0 h0 => ?_)
 refine wpList_nil (x_then_n (f0 _ _ ?_))
 refine wp_seq_k (fun f0 i0 => ?_)
 refine wsc (fun f0 j0 => ?_)
 refine m_field (j' := 0) sv h0 rfl rfl rfl Tryd.underlying39 rfl sz3 rfl rfl (by decide) (fun f0 c0 => ?_)
 refine m_load (i := 0) sv c0 k0 rfl rfl rfl rfl rfl Tryd.underlying3 rfl (by decide) (fun f0 h0 => ?_)
 refine wpList_nil (x_then_n (j0 _ _ ?_))
 refine wp_block ?_
 refine wp_seq_k (fun j0 f0 => ?_)
 refine wsc (fun j0 c0 => ?_)
 refine r_eql sv h0 rfl rfl rfl rfl (by decide) (fun j0 d0 => ?_)
 refine asg d0 (fun j0 h0 => ?_)
 refine wpList_nil (x_then_n (c0 _ _ ?_))
 rcases Decidable.em ((n.K) = 5) with c0 | c0
 ·
  have j0 := h0.setb (d := 5) (b := true) rfl (decide_eq_true c0)
  refine wp_cond_true (j0.ev rfl) ?_
  refine wp_skip ?_
  refine x_then_n (f0 _ _ ?_)
  refine wp_cond_true (j0.ev rfl) ?_
  refine wsc (fun d0 b0 => ?_)
  refine asg j0 (fun d0 m0 => ?_)
  refine wpList_nil (x_then_n (b0 _ _ ?_))
  refine wp_ret ?_
  refine x_block_r ?_
  refine x_then_r ?_
  refine e_ret1 m0 rfl rfl rfl ?_
  refine ⟨?_, k0.fr⟩
  exact congrArg Ending.returned (ret_i (by (unfold tgK; (repeat' split) <;> omega)))
 ·
  have m0 := h0.setb (d := 5) (b := false) rfl (decide_eq_false c0)
  refine wp_cond_false (m0.ev rfl) ?_
  refine wsc (fun c0 h0 => ?_)
  refine r_eql sv m0 rfl rfl rfl rfl (by decide) (fun c0 b0 => ?_)
  refine asg b0 (fun c0 m0 => ?_)
  refine wpList_nil (x_then_n (h0 _ _ ?_))
  rcases Decidable.em ((n.K) = 8) with h0 | h0
  ·
   have c0 := m0.setb (d := 5) (b := true) rfl (decide_eq_true h0)
   refine wp_cond_true (c0.ev rfl) ?_
   refine wp_skip ?_
   refine x_then_n (f0 _ _ ?_)
   refine wp_cond_true (c0.ev rfl) ?_
   refine wsc (fun b0 d0 => ?_)
   refine asg c0 (fun b0 j0 => ?_)
   refine wpList_nil (x_then_n (d0 _ _ ?_))
   refine wp_ret ?_
   refine x_block_r ?_
   refine x_then_r ?_
   refine e_ret1 j0 rfl rfl rfl ?_
   refine ⟨?_, k0.fr⟩
   exact congrArg Ending.returned (ret_i (by (unfold tgK; (repeat' split) <;> omega)))
  ·
   have j0 := m0.setb (d := 5) (b := false) rfl (decide_eq_false h0)
   refine wp_cond_false (j0.ev rfl) ?_
   refine c_region ?_
   refine r_eql sv j0 rfl rfl rfl rfl (by decide) (fun h0 m0 => ?_)
   refine asg m0 (fun h0 j0 => ?_)
   refine wpList_nil (x_then_n (f0 _ _ ?_))
   rcases Decidable.em ((n.K) = 9) with f0 | f0
   ·
    have h0 := j0.setb (d := 5) (b := true) rfl (decide_eq_true f0)
    refine wp_cond_true (h0.ev rfl) ?_
    refine wsc (fun m0 d0 => ?_)
    refine asg h0 (fun m0 b0 => ?_)
    refine wpList_nil (x_then_n (d0 _ _ ?_))
    refine wp_ret ?_
    refine x_block_r ?_
    refine x_then_r ?_
    refine e_ret1 b0 rfl rfl rfl ?_
    refine ⟨?_, k0.fr⟩
    exact congrArg Ending.returned (ret_i (by (unfold tgK; (repeat' split) <;> omega)))
   ·
    have b0 := j0.setb (d := 5) (b := false) rfl (decide_eq_false f0)
    refine wp_cond_false (b0.ev rfl) ?_
    refine wp_seq_k (fun f0 j0 => ?_)
    refine wsc (fun f0 d0 => ?_)
    refine r_eql sv b0 rfl rfl rfl rfl (by decide) (fun f0 m0 => ?_)
    refine asg m0 (fun f0 b0 => ?_)
    refine wpList_nil (x_then_n (d0 _ _ ?_))
    rcases Decidable.em ((n.K) = 13) with d0 | d0
    ·
     have f0 := b0.setb (d := 9) (b := true) rfl (decide_eq_true d0)
     refine wp_cond_true (f0.ev rfl) ?_
     refine wp_skip ?_
     refine x_then_n (j0 _ _ ?_)
     refine wp_cond_true (f0.ev rfl) ?_
     refine wsc (fun m0 h0 => ?_)
     refine asg f0 (fun m0 c0 => ?_)
     refine wpList_nil (x_then_n (h0 _ _ ?_))
     refine wp_ret ?_
     refine x_block_r ?_
     refine x_then_r ?_
     refine e_ret1 c0 rfl rfl rfl ?_
     refine ⟨?_, k0.fr⟩
     exact congrArg Ending.returned (ret_i (by (unfold tgK; (repeat' split) <;> omega)))
    ·
     have c0 := b0.setb (d := 9) (b := false) rfl (decide_eq_false d0)
     refine wp_cond_false (c0.ev rfl) ?_
     refine c_region ?_
     refine r_eql sv c0 rfl rfl rfl rfl (by decide) (fun d0 b0 => ?_)
     refine asg b0 (fun d0 c0 => ?_)
     refine wpList_nil (x_then_n (j0 _ _ ?_))
     rcases Decidable.em ((n.K) = 24) with j0 | j0
     ·
      have d0 := c0.setb (d := 9) (b := true) rfl (decide_eq_true j0)
      refine wp_cond_true (d0.ev rfl) ?_
      refine wsc (fun b0 h0 => ?_)
      refine asg d0 (fun b0 m0 => ?_)
      refine wpList_nil (x_then_n (h0 _ _ ?_))
      refine wp_ret ?_
      refine x_block_r ?_
      refine x_then_r ?_
      refine e_ret1 m0 rfl rfl rfl ?_
      refine ⟨?_, k0.fr⟩
      exact congrArg Ending.returned (ret_i (by (unfold tgK; (repeat' split) <;> omega)))
     ·
      have m0 := c0.setb (d := 9) (b := false) rfl (decide_eq_false j0)
      refine wp_cond_false (m0.ev rfl) ?_
      refine wsc (fun j0 c0 => ?_)
      refine r_eql sv m0 rfl rfl rfl rfl (by decide) (fun j0 h0 => ?_)
      refine asg h0 (fun j0 m0 => ?_)
      refine wpList_nil (x_then_n (c0 _ _ ?_))
      rcases Decidable.em ((n.K) = 27) with c0 | c0
      ·
       have j0 := m0.setb (d := 12) (b := true) rfl (decide_eq_true c0)
       refine wp_cond_true (j0.ev rfl) ?_
       refine wsc (fun h0 b0 => ?_)
       refine m_field (j' := 2) sv j0 rfl rfl rfl Tryd.underlying39 rfl sz3 rfl rfl (by decide) (fun h0 d0 => ?_)
       refine m_load (i := 0) sv d0 k0 rfl rfl rfl rfl rfl Tryd.underlying3 rfl (by decide) (fun h0 j0 => ?_)
       refine r_add (z := (n.M + 1)) sv j0 rfl rfl rfl rfl (by decide) (by omega) (by omega) (by omega) (fun h0 d0 => ?_)
       refine asg d0 (fun h0 j0 => ?_)
       refine wpList_nil (x_then_n (b0 _ _ ?_))
       refine wp_ret ?_
       refine x_block_r ?_
       refine x_then_r ?_
       refine e_ret1 j0 rfl rfl rfl ?_
       refine ⟨?_, k0.fr⟩
       exact congrArg Ending.returned (ret_i (by (unfold tgK; (repeat' split) <;> omega)))
      ·
       have j0 := m0.setb (d := 12) (b := false) rfl (decide_eq_false c0)
       refine wp_cond_false (j0.ev rfl) ?_
       refine wp_skip ?_
       refine x_block_n ?_
       refine x_then_n (i0 _ _ ?_)
       refine wsc (fun i0 c0 => ?_)
       refine asg j0 (fun i0 m0 => ?_)
       refine wpList_nil (x_then_n (c0 _ _ ?_))
       refine wp_ret ?_
       refine e_ret1 m0 rfl rfl rfl ?_
       refine ⟨?_, k0.fr⟩
       exact congrArg Ending.returned (ret_i (by (unfold tgK; (repeat' split) <;> omega)))
set_option maxRecDepth 100000 in
set_option maxHeartbeats 1000000 in
theorem uTarget_calls (w0 : World) (Z : Nat → Prop) (hZ : ∀ k, Z k → k < w0.heap.size) (tA : Option Addr) (tc : Nat) (t : List Nd) (hShp : Shapes w0 Z) (ht : (dRow 4 tA t.length tc (encNs t)).φ w0 Z) (hsm : sml t := by first | assumption | omega | (simp; done) | (simp; omega)) (hl : t.length ≤ 1000000 := by first | assumption | omega | (simp; done) | (simp; omega)) :
    Calls Tryd.prog 17 [.slice tA t.length tc].toArray w0 (fun e w' => e = .returned (.int .i64 (tgA t)) ∧ Fr none_ w0 w') := by
 have b0 := s0 (M := none_) hZ (zc (d := dShapes) hShp (zc ht zn))
 refine c_enter Tryd.func17 rfl Tryd.ntmps17 rfl (fun c0 d0 => ?_)
 refine wsc (fun c0 f0 => ?_)
 refine asg d0 (fun c0 h0 => ?_)
 refine wpList_nil (x_then_n (f0 _ _ ?_))
 refine wp_seq_k (fun f0 c0 => ?_)
 refine wsc (fun f0 d0 => ?_)
 refine mv h0 (fun f0 i0 => ?_)
 have f0 := b0.nf
 refine k_call (xs := [.tmp 3]) se i0 rfl rfl rfl (by decide) ok40 (check_calls _ _ f0.il _ _ _ (f0.g 0) (f0.g 1)) ?_
 rintro i0 b0 ⟨rfl, h0⟩
 have b0 := f0.below h0.below
 refine ⟨_, rfl, fun h0 f0 => ?_⟩
 refine r_neq sv f0 rfl rfl rfl rfl (by decide) (fun h0 i0 => ?_)
 refine wpList_nil (x_then_n (d0 _ _ ?_))
 rcases Decidable.em (((chk t)) = 0) with d0 | d0
 ·
  have hpt := chk_pos d0
  have hrt := right_at (meas_chk d0) (show t.length - 1 < t.length by omega)
  have h0 := i0.setb (d := 5) (b := false) rfl (by rw [(decide_eq_true d0)]; rfl)
  refine wp_cond_false (h0.ev rfl) ?_
  refine wp_skip ?_
  refine x_then_n (c0 _ _ ?_)
  refine wsc (fun c0 f0 => ?_)
  refine mv h0 (fun c0 j0 => ?_)
  have c0 := b0.nf
  refine k_call (xs := [.tmp 6]) se j0 rfl rfl rfl (by decide) ok34 (uroot_calls _ _ c0.il _ _ _ (c0.g 1)) ?_
  rintro j0 h0 ⟨rfl, k0⟩
  have h0 := c0.below k0.below
  refine ⟨_, rfl, fun k0 c0 => ?_⟩
  have k0 := h0.nf
  refine k_call (xs := [.tmp 7]) se c0 rfl rfl rfl (by decide) ok35 (utarget_calls _ _ k0.il (nth t (t.length - 1))) ?_
  rintro c0 h0 ⟨rfl, j0⟩
  have h0 := k0.below j0.below
  refine ⟨_, rfl, fun j0 k0 => ?_⟩
  refine asg k0 (fun j0 c0 => ?_)
  refine wpList_nil (x_then_n (f0 _ _ ?_))
  refine wp_ret ?_
  refine e_ret1 c0 rfl rfl rfl ?_
  refine ⟨?_, h0.fr⟩
  exact congrArg Ending.returned (ret_i (by (unfold tgA; first | (rw [if_neg (by assumption)]; done) | (rw [if_pos (by assumption)]; done))))
 ·
  have h0 := i0.setb (d := 5) (b := true) rfl (by rw [(decide_eq_false d0)]; rfl)
  refine wp_cond_true (h0.ev rfl) ?_
  refine wsc (fun d0 i0 => ?_)
  refine asg h0 (fun d0 c0 => ?_)
  refine wpList_nil (x_then_n (i0 _ _ ?_))
  refine wp_ret ?_
  refine x_then_r ?_
  refine e_ret1 c0 rfl rfl rfl ?_
  refine ⟨?_, b0.fr⟩
  exact congrArg Ending.returned (ret_i (by (unfold tgA; first | (rw [if_neg (by assumption)]; done) | (rw [if_pos (by assumption)]; done))))
set_option maxRecDepth 100000 in
set_option maxHeartbeats 1000000 in
theorem equalN_calls (w0 : World) (Z : Nat → Prop) (hZ : ∀ k, Z k → k < w0.heap.size) (tA : Option Addr) (tc : Nat) (t : List Nd) (uA : Option Addr) (uc : Nat) (u : List Nd) (ht : (dRow 4 tA t.length tc (encNs t)).φ w0 Z) (hu : (dRow 4 uA u.length uc (encNs u)).φ w0 Z) (hl : t.length ≤ 1000000 := by first | assumption | omega | (simp; done) | (simp; omega)) (hl2 : u.length ≤ 1000000 := by first | assumption | omega | (simp; done) | (simp; omega)) :
    Calls Tryd.prog 41 [.slice tA t.length tc, .slice uA u.length uc].toArray w0 (fun e w' => e = .returned (.bool (decide (t = u))) ∧ Fr none_ w0 w') := by
 have b0 := s0 (M := none_) hZ (zc ht (zc hu zn))
 refine c_enter Tryd.func41 rfl Tryd.ntmps41 rfl (fun c0 d0 => ?_)
 refine wsc (fun c0 f0 => ?_)
 refine asg d0 (fun c0 h0 => ?_)
 refine wpList_nil (x_then_n (f0 _ _ ?_))
 refine wp_seq_k (fun f0 c0 => ?_)
 refine wsc (fun f0 d0 => ?_)
 refine mv h0 (fun f0 i0 => ?_)
 refine r_len sv i0 rfl rfl rfl rfl Tryd.underlying22 (by decide) (fun f0 h0 => ?_)
 refine mv h0 (fun f0 i0 => ?_)
 refine r_len sv i0 rfl rfl rfl rfl Tryd.underlying22 (by decide) (fun f0 h0 => ?_)
 refine r_neq sv h0 rfl rfl rfl rfl (by decide) (fun f0 i0 => ?_)
 refine wpList_nil (x_then_n (d0 _ _ ?_))
 rcases Decidable.em (((t.length : Nat) : Int) = ((u.length : Nat) : Int)) with d0 | d0
 ·
  have f0 := i0.setb (d := 10) (b := false) rfl (by rw [(decide_eq_true d0)]; rfl)
  refine wp_cond_false (f0.ev rfl) ?_
  refine wp_skip ?_
  refine x_then_n (c0 _ _ ?_)
  refine wp_seq_k (fun c0 h0 => ?_)
  refine wsc (fun c0 j0 => ?_)
  refine mv f0 (fun c0 k0 => ?_)
  refine r_len sv k0 rfl rfl rfl rfl Tryd.underlying22 (by decide) (fun c0 f0 => ?_)
  refine mv f0 (fun c0 k0 => ?_)
  refine wpList_nil (x_then_n (j0 _ _ ?_))
  refine wp_block ?_
  refine wp_loop_ghost (fun gn ga gw => ∃ k : Nat, (Reg ga 26 [(1000000, .bool false), (0, .slice tA t.length tc), (1, .slice uA u.length uc), (12, .int .i64 ((t.length : Nat) : Int)), (13, .int .i64 ((k : Nat) : Int))]) ∧ (St w0 Z none_ gw [] [dRow 4 tA t.length tc (encNs t), dRow 4 uA u.length uc (encNs u)]) ∧ (k ≤ t.length) ∧ (t.take k = u.take k) ∧ (t.length - k) = gn) _ ⟨0, (k0.sub (rc rfl (rc rfl (rc rfl (rc rfl (rc rfl rnl)))))), b0, by omega, rfl, rfl⟩ ?_
  rintro k0 j0 c0 ⟨k, f0, m0, hk, hi, n0⟩
  refine wsc (fun n0 c0 => ?_)
  refine r_lss sv f0 rfl rfl rfl rfl (by decide) (fun n0 j0 => ?_)
  refine wpList_nil (x_then_n (c0 _ _ ?_))
  refine wp_seq_k (fun c0 n0 => ?_)
  rcases Decidable.em (((k : Nat) : Int) < ((t.length : Nat) : Int)) with c0 | c0
  ·
   have f0 := j0.setb (d := 14) (b := true) rfl (decide_eq_true c0)
   refine wp_cond_true (f0.ev rfl) ?_
   refine wp_skip ?_
   refine x_then_n (n0 _ _ ?_)
   refine wp_seq_k (fun n0 k0 => ?_)
   refine wp_block ?_
   refine wsc (fun n0 o0 => ?_)
   refine mv f0 (fun n0 p0 => ?_)
   refine asg p0 (fun n0 f0 => ?_)
   refine wpList_nil (x_then_n (o0 _ _ ?_))
   refine wp_seq_k (fun o0 n0 => ?_)
   obtain ⟨o0, p0, q0⟩ := m0.agree
   refine d_reg3 (n := 9) q0 2 pn (pan_then (pan_block (pan_then (pan_then (pan_block (pan_then pan_body)))))) (fun o0 t0 u0 v0 x0 y0 => ?_)
   refine dtM 0 t0 f0 y0 (fun v0 o0 => ?_)
   refine dtM 1 t0 o0 y0 (fun v0 f0 => ?_)
   refine dt 2 rfl t0 f0 (want_n rfl) (fun x hx => m_index (i := k) (j := k * 4) (sy f0) f0 rfl rfl rfl rfl Tryd.underlying22 sz39 (by omega) (by omega) (nds_elem (t := t) (k := k) (sdat (p0 0 _ rfl) hx.ag).2 (by omega)).some_ rfl (by decide) gt) y0 (fun v0 o0 => ?_)
   refine dt 3 rfl t0 o0 (want_n rfl) (fun x hx => m_loadEN (sy o0) o0 rfl rfl rfl (nds_elem (t := t) (k := k) (sdat (p0 0 _ rfl) hx.ag).2 (by omega)) Tryd.underlying39 rfl sz39 (by decide) gt) y0 (fun v0 f0 => ?_)
   refine dtM 4 t0 f0 y0 (fun v0 o0 => ?_)
   refine dtM 5 t0 o0 y0 (fun v0 f0 => ?_)
   refine dt 6 rfl t0 f0 (want_n rfl) (fun x hx => m_index (i := k) (j := k * 4) (sy f0) f0 rfl rfl rfl rfl Tryd.underlying22 sz39 (by omega) (by omega) (nds_elem (t := u) (k := k) (sdat (p0 1 _ rfl) hx.ag).2 (by omega)).some_ rfl (by decide) gt) y0 (fun v0 o0 => ?_)
   refine dt 7 rfl t0 o0 (want_n rfl) (fun x hx => m_loadEN (sy o0) o0 rfl rfl rfl (nds_elem (t := u) (k := k) (sdat (p0 1 _ rfl) hx.ag).2 (by omega)) Tryd.underlying39 rfl sz39 (by decide) gt) y0 (fun v0 f0 => ?_)
   refine dt 8 rfl t0 f0 (want_n rfl) (fun x hx => r_neqN (m := (nth t k)) (n := (nth u k)) (sy f0) f0 rfl rfl rfl rfl (by decide) gt) y0 (fun v0 o0 => ?_)
   refine wpAnyH_done (by kernel_rfl) (u0 _ _ ?_) _
   refine x_then_n (n0 _ _ ?_)
   rcases Decidable.em ((nth t k) = (nth u k)) with n0 | n0
   ·
    have u0 := o0.setb (d := 24) (b := false) rfl (by rw [(decide_eq_true n0)]; rfl)
    refine wp_cond_false (u0.ev rfl) ?_
    refine wp_skip ?_
    refine x_block_n ?_
    refine x_then_n (k0 _ _ ?_)
    refine c_region ?_
    refine r_add (z := ((k + 1 : Nat) : Int)) sv u0 rfl rfl rfl rfl (by decide) (by omega) (by omega) (by omega) (fun k0 v0 => ?_)
    refine mv v0 (fun k0 u0 => ?_)
    refine wpList_nil ?_
    have k0 := x0.forget 2
    exact ⟨_, by omega, k + 1, (u0.sub (rc rfl (rc rfl (rc rfl (rc rfl (rc rfl rnl)))))), k0, by omega, same_step hi (by omega) (by omega) (by assumption), rfl⟩
   ·
    have k0 := o0.setb (d := 24) (b := true) rfl (by rw [(decide_eq_false n0)]; rfl)
    refine wp_cond_true (k0.ev rfl) ?_
    refine wsc (fun n0 o0 => ?_)
    refine asg k0 (fun n0 u0 => ?_)
    refine wpList_nil (x_then_n (o0 _ _ ?_))
    refine wp_ret ?_
    refine x_block_r ?_
    refine x_then_r ?_
    refine x_then_r ?_
    refine x_block_r ?_
    refine x_then_r ?_
    refine e_ret1 u0 rfl rfl rfl ?_
    refine ⟨?_, x0.fr⟩
    exact congrArg Ending.returned (ret_b (by first | exact (same_len (by omega)).symm | exact (same_no (k := k) (by omega) (by omega) (by assumption)).symm | exact (same_end hi (by omega) (by omega)).symm))
  ·
   have x0 := j0.setb (d := 14) (b := false) rfl (decide_eq_false c0)
   refine wp_cond_false (x0.ev rfl) ?_
   refine wp_exit ?_
   refine x_then_e ?_
   refine x_then_e ?_
   refine x_block_eq ?_
   refine x_then_n (h0 _ _ ?_)
   refine wsc (fun h0 c0 => ?_)
   refine asg x0 (fun h0 j0 => ?_)
   refine wpList_nil (x_then_n (c0 _ _ ?_))
   refine wp_ret ?_
   refine e_ret1 j0 rfl rfl rfl ?_
   refine ⟨?_, m0.fr⟩
   exact congrArg Ending.returned (ret_b (by first | exact (same_len (by omega)).symm | exact (same_no (k := k) (by omega) (by omega) (by assumption)).symm | exact (same_end hi (by omega) (by omega)).symm))
 ·
  have m0 := i0.setb (d := 10) (b := true) rfl (by rw [(decide_eq_false d0)]; rfl)
  refine wp_cond_true (m0.ev rfl) ?_
  refine wsc (fun d0 i0 => ?_)
  refine asg m0 (fun d0 j0 => ?_)
  refine wpList_nil (x_then_n (i0 _ _ ?_))
  refine wp_ret ?_
  refine x_then_r ?_
  refine e_ret1 j0 rfl rfl rfl ?_
  refine ⟨?_, b0.fr⟩
  exact congrArg Ending.returned (ret_b (by first | exact (same_len (by omega)).symm | exact (same_no (k := k) (by omega) (by omega) (by assumption)).symm | exact (same_end hi (by omega) (by omega)).symm))
set_option maxRecDepth 100000 in
set_option maxHeartbeats 1000000 in
theorem ukind_calls (w0 : World) (Z : Nat → Prop) (hZ : ∀ k, Z k → k < w0.heap.size) (s : ByteArray) (tA : Option Addr) (tc : Nat) (t : List Nd) (hShp : Shapes w0 Z) (ht : (dRow 4 tA t.length tc (encNs t)).φ w0 Z) (hsm : sml t := by first | assumption | omega | (simp; done) | (simp; omega)) (hl : t.length ≤ 1000000 := by first | assumption | omega | (simp; done) | (simp; omega)) :
    Calls Tryd.prog 19 [.string s, .slice tA t.length tc].toArray w0 (fun e w' => e = .returned (.int .i64 (kdA s t)) ∧ Fr none_ w0 w') := by
 have b0 := s0 (M := none_) hZ (zc (d := dShapes) hShp (zc ht zn))
 refine c_enter Tryd.func19 rfl Tryd.ntmps19 rfl (fun c0 d0 => ?_)
 refine wsc (fun c0 f0 => ?_)
 refine asg d0 (fun c0 h0 => ?_)
 refine wpList_nil (x_then_n (f0 _ _ ?_))
 refine wp_seq_k (fun f0 c0 => ?_)
 refine wsc (fun f0 d0 => ?_)
 refine mv h0 (fun f0 i0 => ?_)
 have f0 := b0.nf
 refine k_call (xs := [.tmp 8]) se i0 rfl rfl rfl (by decide) ok40 (check_calls _ _ f0.il _ _ _ (f0.g 0) (f0.g 1)) ?_
 rintro i0 b0 ⟨rfl, h0⟩
 have b0 := f0.below h0.below
 refine ⟨_, rfl, fun h0 f0 => ?_⟩
 refine r_neq sv f0 rfl rfl rfl rfl (by decide) (fun h0 i0 => ?_)
 refine wpList_nil (x_then_n (d0 _ _ ?_))
 rcases Decidable.em (((chk t)) = 0) with d0 | d0
 ·
  have hct := d0
  have hpt := chk_pos hct
  have hrt := right_at (meas_chk hct) (show t.length - 1 < t.length by omega)
  have h0 := i0.setb (d := 10) (b := false) rfl (by rw [(decide_eq_true d0)]; rfl)
  refine wp_cond_false (h0.ev rfl) ?_
  refine wp_skip ?_
  refine x_then_n (c0 _ _ ?_)
  refine wsc (fun c0 f0 => ?_)
  refine mv h0 (fun c0 j0 => ?_)
  refine m_build (ps := [(0, .const (.int .i64 25)), (3, .tmp 11)]) (v := .agg #[.int .i64 25, .int .i64 0, .int .i64 0, .string s]) sv j0 rfl rfl rfl (fun _ => by kernel_rfl) (by decide) (fun c0 h0 => ?_)
  refine mbs [(0, .tmp 12)] [.int .i64 25, .int .i64 0, .int .i64 0, .string s] sv h0 b0 Tryd.underlying22 zi39 (fun c0 j0 k0 m0 n0 => ?_)
  refine asg m0 (fun j0 c0 => ?_)
  refine wpList_nil (x_then_n (f0 _ _ ?_))
  refine wp_seq_k (fun f0 j0 => ?_)
  refine wsc (fun f0 m0 => ?_)
  refine mv c0 (fun f0 h0 => ?_)
  refine mv h0 (fun f0 c0 => ?_)
  have f0 := n0.nf
  have n0 := own_cap (f0.res (i := 0) rfl)
  obtain ⟨h0, o0⟩ := f0.row_data (i := 0) rfl (fun _ h => h)
  have f0 := h0.data (dRow 4 (some ⟨k0, 0, none⟩) 1 1 (encNs ([(⟨25, 0, 0, s⟩ : Nd)]))) ⟨n0, o0⟩
  refine k_call (xs := [.tmp 14, .tmp 15]) se c0 rfl rfl rfl (by decide) ok41 (equalN_calls _ _ f0.il _ _ _ _ _ ([(⟨25, 0, 0, s⟩ : Nd)]) (f0.g 1) (f0.g 2)) ?_
  rintro c0 o0 ⟨rfl, h0⟩
  have o0 := f0.below h0.below
  refine ⟨_, rfl, fun h0 f0 => ?_⟩
  refine wpList_nil (x_then_n (m0 _ _ ?_))
  rcases Bool.eq_false_or_eq_true (decide (t = ([(⟨25, 0, 0, s⟩ : Nd)]))) with m0 | m0
  ·
   have h0 := of_decide_eq_true m0
   have c0 := f0.setb (d := 16) (b := true) rfl m0
   refine wp_cond_true (c0.ev rfl) ?_
   refine wsc (fun n0 k0 => ?_)
   refine asg c0 (fun n0 p0 => ?_)
   refine wpList_nil (x_then_n (k0 _ _ ?_))
   refine wp_ret ?_
   refine x_then_r ?_
   refine e_ret1 p0 rfl rfl rfl ?_
   refine ⟨?_, o0.fr⟩
   exact congrArg Ending.returned (ret_i (by (unfold kdA ownL; first | (rw [if_neg (by assumption)]; done) | (simp only [d0, m0, h0, if_true, if_false, not_true_eq_false, not_false_eq_true, lsts_nth]; done) | (simp [d0, m0, h0, lsts_nth]; done) | (simp_all [lsts_nth]; done))))
  ·
   have h0 := of_decide_eq_false m0
   have p0 := f0.setb (d := 16) (b := false) rfl m0
   refine wp_cond_false (p0.ev rfl) ?_
   refine wp_skip ?_
   refine x_then_n (j0 _ _ ?_)
   refine wp_seq_k (fun j0 f0 => ?_)
   refine wsc (fun j0 k0 => ?_)
   refine mv p0 (fun j0 n0 => ?_)
   have j0 := o0.nf
   refine k_call (xs := [.tmp 17]) se n0 rfl rfl rfl (by decide) ok34 (uroot_calls _ _ j0.il _ _ _ (j0.g 1)) ?_
   rintro n0 o0 ⟨rfl, p0⟩
   have o0 := j0.below p0.below
   refine ⟨_, rfl, fun p0 j0 => ?_⟩
   refine m_fieldV (v := .int .i64 (((nth t (t.length - 1)).K))) sv j0 rfl rfl rfl (fun _ => by kernel_rfl) (by decide) (fun p0 n0 => ?_)
   refine r_eql sv n0 rfl rfl rfl rfl (by decide) (fun p0 j0 => ?_)
   refine wpList_nil (x_then_n (k0 _ _ ?_))
   rcases Decidable.em ((((nth t (t.length - 1)).K)) = 3) with k0 | k0
   ·
    have hm2 := many_3 k0
    have p0 := j0.setb (d := 20) (b := true) rfl (decide_eq_true k0)
    refine wp_cond_true (p0.ev rfl) ?_
    refine wsc (fun n0 c0 => ?_)
    refine mv p0 (fun n0 q0 => ?_)
    have n0 := o0.nf
    refine k_call (xs := [.tmp 22]) se q0 rfl rfl rfl (by decide) ok33 (args_calls _ _ n0.il _ _ _ (n0.g 0) (n0.g 1)) ?_
    rintro q0 p0 ⟨t0, u0, v0, rfl, x0, y0, z0, b1⟩
    have u0 := n0.below x0.below
    have x0 := n0.dN u0 y0
    have u0 := n0.dN x0 z0
    refine ⟨_, rfl, fun x0 z0 => ?_⟩
    have hgl : v0.length = many (nth t (t.length - 1)) := by rw [← lsts_len, b1, agA_ok hct, ptL_length (meas_chk hct)]
    obtain ⟨hg1, hg2⟩ := ag_nth hct b1 hsm (show 1 < many (nth t (t.length - 1)) by omega)
    refine mv z0 (fun x0 n0 => ?_)
    refine r_extract sv n0 rfl rfl rfl rfl (by decide) (fun x0 z0 => ?_)
    refine r_extract sv z0 rfl rfl rfl rfl (by decide) (fun x0 n0 => ?_)
    refine asg n0 (fun x0 z0 => ?_)
    refine asg z0 (fun x0 n0 => ?_)
    refine wpList_nil (x_then_n (c0 _ _ ?_))
    refine wsc (fun c0 x0 => ?_)
    refine mv n0 (fun c0 z0 => ?_)
    refine m_index (i := 1) (j := 1 * 1) sv z0 rfl rfl rfl rfl Tryd.underlying42 sz22 (by omega) (by omega) (ss_elem (t := v0) (k := 1) (u0.row (i := 3) rfl).2 (by omega)).some_ rfl (by decide) (fun c0 n0 => ?_)
    refine m_loadE sv n0 rfl rfl rfl 0 (1 * 1) (ss_elem (t := v0) (k := 1) (u0.row (i := 3) rfl).2 (by omega)) rfl rfl Tryd.underlying22 rfl (by decide) (fun c0 z0 => ?_)
    have c0 := u0.data (dRow 4 ((nthS v0 1).1) ((nthS v0 1).2.2.length) ((nthS v0 1).2.1) (encNs ((nthS v0 1).2.2))) (all_at (t := v0) (k := 1) (u0.get (i := 4) rfl) (by omega))
    refine mv z0 (fun u0 n0 => ?_)
    have u0 := c0.nf
    refine k_call (xs := [.tmp 28, .tmp 29]) se n0 rfl rfl rfl (by decide) ok41 (equalN_calls _ _ u0.il _ _ ((nthS v0 1).2.2) _ _ ([(⟨25, 0, 0, s⟩ : Nd)]) (u0.g 5) (u0.g 2)) ?_
    rintro n0 c0 ⟨rfl, z0⟩
    have c0 := u0.below z0.below
    refine ⟨_, rfl, fun z0 u0 => ?_⟩
    refine wpList_nil (x_then_n (x0 _ _ ?_))
    rcases Bool.eq_false_or_eq_true (decide (((nthS v0 1).2.2) = ([(⟨25, 0, 0, s⟩ : Nd)]))) with x0 | x0
    ·
     have v0 := of_decide_eq_true x0
     have z0 := u0.setb (d := 30) (b := true) rfl x0
     refine wp_cond_true (z0.ev rfl) ?_
     refine wsc (fun n0 y0 => ?_)
     refine asg z0 (fun n0 t0 => ?_)
     refine wpList_nil (x_then_n (y0 _ _ ?_))
     refine wp_ret ?_
     refine x_then_r ?_
     refine e_ret1 t0 rfl rfl rfl ?_
     refine ⟨?_, c0.fr⟩
     exact congrArg Ending.returned (ret_i (by (unfold kdA ownL; first | (rw [if_neg (by assumption)]; done) | (simp only [d0, m0, h0, k0, x0, v0, b1, if_true, if_false, not_true_eq_false, not_false_eq_true, lsts_nth]; done) | (simp [d0, m0, h0, k0, x0, v0, b1, lsts_nth]; done) | (simp_all [lsts_nth]; done))))
    ·
     have v0 := of_decide_eq_false x0
     have t0 := u0.setb (d := 30) (b := false) rfl x0
     refine wp_cond_false (t0.ev rfl) ?_
     refine wp_skip ?_
     refine x_then_n (f0 _ _ ?_)
     refine wsc (fun u0 y0 => ?_)
     refine asg t0 (fun u0 n0 => ?_)
     refine wpList_nil (x_then_n (y0 _ _ ?_))
     refine wp_ret ?_
     refine e_ret1 n0 rfl rfl rfl ?_
     refine ⟨?_, c0.fr⟩
     exact congrArg Ending.returned (ret_i (by (unfold kdA ownL; first | (rw [if_neg (by assumption)]; done) | (simp only [d0, m0, h0, k0, x0, v0, b1, if_true, if_false, not_true_eq_false, not_false_eq_true, lsts_nth]; done) | (simp [d0, m0, h0, k0, x0, v0, b1, lsts_nth]; done) | (simp_all [lsts_nth]; done))))
   ·
    have v0 := j0.setb (d := 20) (b := false) rfl (decide_eq_false k0)
    refine wp_cond_false (v0.ev rfl) ?_
    refine wp_skip ?_
    refine x_then_n (f0 _ _ ?_)
    refine wsc (fun f0 j0 => ?_)
    refine asg v0 (fun f0 x0 => ?_)
    refine wpList_nil (x_then_n (j0 _ _ ?_))
    refine wp_ret ?_
    refine e_ret1 x0 rfl rfl rfl ?_
    refine ⟨?_, o0.fr⟩
    exact congrArg Ending.returned (ret_i (by (unfold kdA ownL; first | (rw [if_neg (by assumption)]; done) | (simp only [d0, m0, h0, k0, if_true, if_false, not_true_eq_false, not_false_eq_true, lsts_nth]; done) | (simp [d0, m0, h0, k0, lsts_nth]; done) | (simp_all [lsts_nth]; done))))
 ·
  have k0 := i0.setb (d := 10) (b := true) rfl (by rw [(decide_eq_false d0)]; rfl)
  refine wp_cond_true (k0.ev rfl) ?_
  refine wsc (fun i0 h0 => ?_)
  refine asg k0 (fun i0 m0 => ?_)
  refine wpList_nil (x_then_n (h0 _ _ ?_))
  refine wp_ret ?_
  refine x_then_r ?_
  refine e_ret1 m0 rfl rfl rfl ?_
  refine ⟨?_, b0.fr⟩
  exact congrArg Ending.returned (ret_i (by (unfold kdA ownL; first | (rw [if_neg (by assumption)]; done) | (simp only [d0, if_true, if_false, not_true_eq_false, not_false_eq_true, lsts_nth]; done) | (simp [d0, lsts_nth]; done) | (simp_all [lsts_nth]; done))))
end Go.Proofs.YtcfponnkfhkbdaaDoor
/- Contracts of functions, one theorem each: what the call returns, and that nothing old is changed. Printed by gen.py. -/
namespace Go.Proofs.YtcfponnkfhkbdaaDoor
open Go Go.RowKit
set_option linter.unusedSimpArgs false
set_option linter.unusedVariables false
set_option maxRecDepth 100000 in
set_option maxHeartbeats 1000000 in
theorem nodesMk_calls (w0 : World) (Z : Nat → Prop) (hZ : ∀ k, Z k → k < w0.heap.size) (tA : Option Addr) (tc : Nat) (t : List Nd) (ht : (dRow 4 tA t.length tc (encNs t)).φ w0 Z) (hl : t.length ≤ 1000000 := by first | assumption | omega | (simp; done) | (simp; omega)) :
    Calls Tryd.prog 121 [.slice tA t.length tc].toArray w0 (fun e w' => ∃ q0_0 : Nat, e = .returned (.func (.func 128) #[] #[.pointer (some ⟨q0_0, 0, none⟩)]) ∧ Fr none_ w0 w' ∧ (dBox q0_0 [.slice tA t.length tc]).φ w' (nxt Z w0 w')) := by
 have b0 := s0 (M := none_) hZ (zc ht zn)
 refine c_enter Tryd.func121 rfl Tryd.ntmps121 rfl (fun c0 d0 => ?_)
 refine wsc (fun c0 f0 => ?_)
 refine m_box (cs := [.slice tA t.length tc]) sv d0 b0 rfl rfl rfl rfl (by decide) (fun c0 h0 i0 j0 k0 => ?_)
 refine asg j0 (fun h0 c0 => ?_)
 refine wpList_nil (x_then_n (f0 _ _ ?_))
 refine wsc (fun f0 h0 => ?_)
 refine r_makeFunc sv c0 rfl rfl rfl (by decide) (fun f0 j0 => ?_)
 refine asg j0 (fun f0 c0 => ?_)
 refine wpList_nil (x_then_n (h0 _ _ ?_))
 refine wp_ret ?_
 refine e_ret1 c0 rfl rfl rfl ?_
 obtain ⟨c0, h0⟩ := k0.box_data (i := 0) rfl (fun _ h => h)
 have k0 := c0.data (dBox i0 [.slice tA t.length tc]) h0
 refine ⟨i0, ?_, k0.fr, ((k0.get (i := 1) rfl).imp imm_nxt id)⟩
 exact congrArg Ending.returned rfl
end Go.Proofs.YtcfponnkfhkbdaaDoor
/- Contracts of functions, one theorem each: what the call returns, and that nothing old is changed. Printed by gen.py. -/
namespace Go.Proofs.YtcfponnkfhkbdaaDoor
open Go Go.RowKit
set_option linter.unusedSimpArgs false
set_option linter.unusedVariables false
set_option maxRecDepth 100000 in
set_option maxHeartbeats 1000000 in
theorem nodes_yields (w0 : World) (Z : Nat → Prop) (tg : Nat) (tA : Option Addr) (tc : Nat) (t : List Nd) (hShp : Shapes w0 Z) (ht : (dRow 4 tA t.length tc (encNs t)).φ w0 Z) (htb : (dBox tg [.slice tA t.length tc]).φ w0 Z) (hl : t.length ≤ 1000000) (hsm : sml t) (hc : chk t = 0) :
    Yields Tryd.prog 128 [.pointer (some ⟨tg, 0, none⟩)].toArray (fun x : Int × Int => #[.int .i64 x.1, .int .i64 x.2]) (nodesL t) Z w0 := by
 refine yields_of Tryd.func128 rfl Tryd.ntmps128 rfl [dShapes, dRow 4 tA t.length tc (encNs t), dBox tg [.slice tA t.length tc]] (by
  intro d hd
  simp only [List.mem_cons, List.not_mem_nil, or_false] at hd
  rcases hd with rfl | rfl | rfl
  · exact hShp
  · exact ht
  · exact htb
  ) (fun lp jf jx w0 C0 M0 hY hds b0 c0 d0 => ?_)
 refine wsc (fun b0 f0 => ?_)
 refine mbs [(0, .const (.int .i64 0))] [.int .i64 0] sv c0 d0 Tryd.underlying79 zi3 (fun b0 h0 i0 j0 k0 => ?_)
 refine asg j0 (fun h0 b0 => ?_)
 refine wpList_nil (x_then_n (f0 _ _ ?_))
 refine wsc (fun f0 h0 => ?_)
 refine m_loadC sv b0 rfl rfl rfl (dbox_cell (k0.get (i := 3) rfl) rfl) Tryd.underlying22 rfl (by decide) (fun f0 j0 => ?_)
 refine r_len sv j0 rfl rfl rfl rfl Tryd.underlying22 (by decide) (fun f0 b0 => ?_)
 refine r_sub (z := (((t.length : Nat) : Int) - 1)) sv b0 rfl rfl rfl rfl (by decide) (by omega) (by omega) (by omega) (fun f0 j0 => ?_)
 refine asg j0 (fun f0 b0 => ?_)
 refine wpList_nil (x_then_n (h0 _ _ ?_))
 refine wp_block ?_
 refine wp_loop_ghost (fun gn ga gw => ∃ k : Nat, ∃ Ts : List T, ∃ us : List Int, ∃ Ao : Option Addr, ∃ co : Nat, (Reg ga 55 [(1000000, .bool false), (0, .func (.yield lp) #[] #[]), (1, .pointer (some ⟨tg, 0, none⟩)), (4, .int .i64 (((t.length : Nat) : Int) - ((k : Nat) : Int) - 1)), (3, .slice Ao ((us).length) co)]) ∧ (St w0 (oldB w0) M0 gw [.row Ao ((us).length) co 3 1 (encIs us)] [dJ jf ((nodesL t).take k) C0 M0 w0.heap.size, dShapes, dRow 4 tA t.length tc (encNs t), dBox tg [.slice tA t.length tc]]) ∧ (k ≤ t.length) ∧ (VInv t k Ts us) ∧ (t.length - k) = gn) _ ⟨0, [treeOf t], [0], (some ⟨i0, 0, none⟩), 1, (b0.sub (rc rfl (rc rfl (rc rfl (rc rfl (rc rfl rnl)))))), k0, by omega, VInv.zero hc, rfl⟩ ?_
 rintro b0 k0 i0 ⟨k, Ts, us, Ao, co, h0, f0, hk, hv, j0⟩
 refine wp_seq_k (fun j0 i0 => ?_)
 refine wsc (fun j0 k0 => ?_)
 refine mv h0 (fun j0 b0 => ?_)
 refine r_geq sv b0 rfl rfl rfl rfl (by decide) (fun j0 h0 => ?_)
 refine wpList_nil (x_then_n (k0 _ _ ?_))
 rcases Decidable.em (0 ≤ (((t.length : Nat) : Int) - ((k : Nat) : Int) - 1)) with k0 | k0
 ·
  obtain ⟨hvr, hu0, hul, hub, hpre, Ts', hv'⟩ := hv.step (by omega)
  have j0 := h0.setb (d := 15) (b := true) rfl (decide_eq_true k0)
  refine wp_cond_true (j0.ev rfl) ?_
  refine wp_skip ?_
  refine x_then_n (i0 _ _ ?_)
  refine wp_seq_k (fun i0 b0 => ?_)
  refine wp_block ?_
  refine wsc (fun i0 d0 => ?_)
  refine mv j0 (fun i0 c0 => ?_)
  refine mv c0 (fun i0 j0 => ?_)
  refine r_len sv j0 rfl rfl rfl rfl Tryd.underlying79 (by decide) (fun i0 c0 => ?_)
  refine r_sub (z := ((((us).length : Nat) : Int) - 1)) sv c0 rfl rfl rfl rfl (by decide) (by omega) (by omega) (by omega) (fun i0 j0 => ?_)
  refine m_index (i := ((us).length) - (1)) (j := (((us).length) - (1)) * 1) sv j0 rfl rfl rfl rfl Tryd.underlying79 sz3 (by omega) (by omega) (own_ints (t := us) (k := ((us).length) - (1)) (f0.res (i := 0) rfl) (by omega)).some_ rfl (by decide) (fun i0 c0 => ?_)
  refine m_loadE sv c0 rfl rfl rfl 0 ((((us).length) - (1)) * 1) (own_ints (t := us) (k := ((us).length) - (1)) (f0.res (i := 0) rfl) (by omega)) rfl rfl Tryd.underlying3 rfl (by decide) (fun i0 j0 => ?_)
  refine asg j0 (fun i0 c0 => ?_)
  refine wpList_nil (x_then_n (d0 _ _ ?_))
  refine wsc (fun d0 i0 => ?_)
  refine mv c0 (fun d0 j0 => ?_)
  refine mv j0 (fun d0 c0 => ?_)
  refine r_len sv c0 rfl rfl rfl rfl Tryd.underlying79 (by decide) (fun d0 j0 => ?_)
  refine r_sub (z := ((((us).length : Nat) : Int) - 1)) sv j0 rfl rfl rfl rfl (by decide) (by omega) (by omega) (by omega) (fun d0 c0 => ?_)
  have d0 := own_cap (f0.res (i := 0) rfl)
  refine m_sliceP (q := ((us).length) - (1)) sv c0 rfl rfl rfl rfl (by omega) Tryd.underlying79 sz3 (by omega) (by decide) (fun d0 j0 => ?_)
  refine asg j0 (fun d0 c0 => ?_)
  refine wpList_nil (x_then_n (i0 _ _ ?_))
  refine wp_seq_k (fun i0 d0 => ?_)
  refine wp_seq_k (fun i0 j0 => ?_)
  refine cy_region ?_
  refine r_move (st_listInV rfl rfl) c0 rfl rfl rfl (by decide) (fun i0 m0 => ?_)
  refine r_move (st_listInV rfl rfl) m0 rfl rfl rfl (by decide) (fun i0 c0 => ?_)
  refine r_move (st_listInV rfl rfl) c0 rfl rfl rfl (by decide) (fun i0 m0 => ?_)
  have i0 := f0.nf
  refine y_call (t := .tmp 29) (xs := [.tmp 30, .tmp 31]) (pre := (nodesL t).take k) (i := 0) (ds0 := [dShapes, dRow 4 tA t.length tc (encNs t), dBox tg [.slice tA t.length tc]]) hY rfl m0 i0 rfl rfl rfl rfl (by decide) ((((((t.length : Nat) : Int) - ((k : Nat) : Int) - 1), ((nthI us (((us).length) - (1))))) : Int × Int)) rfl rfl (hpre.symm ▸ List.take_prefix _ _) hds (fun c0 n0 o0 p0 => ?_) (fun c0 n0 o0 p0 => ?_)
  ·
   refine r_not (st_listInV rfl rfl) o0 rfl rfl rfl (by decide) (fun n0 c0 => ?_)
   refine li_nil ?_
   refine x_then_n (j0 _ _ ?_)
   refine wp_cond_false (c0.ev rfl) ?_
   refine wp_skip ?_
   refine x_then_n (d0 _ _ ?_)
   refine wsc (fun d0 n0 => ?_)
   refine m_loadC sv c0 rfl rfl rfl (dbox_cell (p0.get (i := 3) rfl) rfl) Tryd.underlying22 rfl (by decide) (fun d0 i0 => ?_)
   refine mv i0 (fun d0 c0 => ?_)
   refine m_index (i := (t.length) - (k + 1)) (j := ((t.length) - (k + 1)) * 4) sv c0 rfl rfl rfl rfl Tryd.underlying22 sz39 (by omega) (by omega) (nds_elem (t := t) (k := (t.length) - (k + 1)) (p0.row (i := 2) rfl).2 (by omega)).some_ rfl (by decide) (fun d0 i0 => ?_)
   refine m_loadEN sv i0 rfl rfl rfl (nds_elem (t := t) (k := (t.length) - (k + 1)) (p0.row (i := 2) rfl).2 (by omega)) Tryd.underlying39 rfl sz39 (by decide) (fun d0 c0 => ?_)
   have d0 := p0.nf
   refine k_call (xs := [.tmp 38]) se c0 rfl rfl rfl (by decide) ok129 (binds_calls _ _ d0.il (nth t ((t.length) - (k + 1))) (d0.g 1) (hs := (hsm _ (by omega)))) ?_
   rintro c0 i0 ⟨m0, q0, rfl, s0, t0⟩
   have i0 := d0.below s0.below
   have s0 := d0.dN i0 t0
   refine ⟨_, rfl, fun i0 t0 => ?_⟩
   refine mv t0 (fun i0 d0 => ?_)
   refine r_extract sv d0 rfl rfl rfl rfl (by decide) (fun i0 t0 => ?_)
   refine r_extract sv t0 rfl rfl rfl rfl (by decide) (fun i0 d0 => ?_)
   refine asg d0 (fun i0 t0 => ?_)
   refine asg t0 (fun i0 d0 => ?_)
   refine wpList_nil (x_then_n (n0 _ _ ?_))
   refine wsc (fun n0 i0 => ?_)
   refine mv d0 (fun n0 t0 => ?_)
   refine r_len sv t0 rfl rfl rfl rfl Tryd.underlying79 (by decide) (fun n0 d0 => ?_)
   refine mv d0 (fun n0 t0 => ?_)
   refine wpList_nil (x_then_n (i0 _ _ ?_))
   refine wp_block ?_
   have i0 := s0.trim encI_len (i := 0) (L := us) rfl (us.length - 1) (by omega)
   have s0 : (us).take (us.length - 1) = us.take (us.length - 1) ++ ((bindsR (nth t (t.length - (k + 1)))).take 0).map (nthI us (us.length - 1) + ·) := by simp
   have n0 := i0
   simp only [List.set_cons_zero, List.set_cons_succ, List.set_nil] at n0
   rw [s0] at n0
   refine wp_loop_ghost (fun gn ga gw => ∃ j : Nat, ∃ Al : Option Addr, ∃ cl : Nat, (Reg ga 55 [(1000000, .bool false), (0, .func (.yield lp) #[] #[]), (1, .pointer (some ⟨tg, 0, none⟩)), (4, .int .i64 (((t.length : Nat) : Int) - ((k : Nat) : Int) - 1)), (5, .int .i64 ((nthI us (((us).length) - (1))))), (42, .slice m0 ((bindsR (nth t ((t.length) - (k + 1)))).length) q0), (43, .int .i64 (((bindsR (nth t ((t.length) - (k + 1)))).length : Nat) : Int)), (44, .int .i64 ((j : Nat) : Int)), (3, .slice Al ((us.take (us.length - 1) ++ ((bindsR (nth t (t.length - (k + 1)))).take j).map (nthI us (us.length - 1) + ·)).length) cl)]) ∧ (St w0 (oldB w0) M0 gw [.row Al ((us.take (us.length - 1) ++ ((bindsR (nth t (t.length - (k + 1)))).take j).map (nthI us (us.length - 1) + ·)).length) cl 3 1 (encIs (us.take (us.length - 1) ++ ((bindsR (nth t (t.length - (k + 1)))).take j).map (nthI us (us.length - 1) + ·)))] [dJ jf ((nodesL t).take k ++ [((((((t.length : Nat) : Int) - ((k : Nat) : Int) - 1), ((nthI us (((us).length) - (1))))) : Int × Int))]) C0 M0 w0.heap.size, dShapes, dRow 4 tA t.length tc (encNs t), dBox tg [.slice tA t.length tc], dRow 1 m0 ((bindsR (nth t ((t.length) - (k + 1)))).length) q0 (encIs (bindsR (nth t ((t.length) - (k + 1)))))]) ∧ (j ≤ (bindsR (nth t (t.length - (k + 1)))).length) ∧ ((bindsR (nth t (t.length - (k + 1)))).length - j) = gn) _ ⟨0, Ao, co, (t0.sub (rc rfl (rc rfl (rc rfl (rc rfl (rc rfl (rc rfl (rc rfl (rc rfl (rc (rs rfl (by simp)) rnl)))))))))), n0, by omega, rfl⟩ ?_
   rintro n0 t0 q0 ⟨j, Al, cl, m0, s0, hj, i0⟩
   have hbl := bindsR_le (nth t (t.length - (k + 1)))
   have hbj := bindsR_nth (n := nth t (t.length - (k + 1))) j
   have hjl : (us.take (us.length - 1) ++ ((bindsR (nth t (t.length - (k + 1)))).take j).map (nthI us (us.length - 1) + ·)).length ≤ t.length + 8 := by have := bindsR_le (nth t (t.length - (k + 1))); rw [List.length_append, List.length_take, List.length_map, List.length_take]; omega
   refine wsc (fun i0 q0 => ?_)
   refine r_lss sv m0 rfl rfl rfl rfl (by decide) (fun i0 t0 => ?_)
   refine wpList_nil (x_then_n (q0 _ _ ?_))
   refine wp_seq_k (fun q0 i0 => ?_)
   rcases Decidable.em (((j : Nat) : Int) < (((bindsR (nth t ((t.length) - (k + 1)))).length : Nat) : Int)) with q0 | q0
   ·
    have m0 := t0.setb (d := 45) (b := true) rfl (decide_eq_true q0)
    refine wp_cond_true (m0.ev rfl) ?_
    refine wp_skip ?_
    refine x_then_n (i0 _ _ ?_)
    refine wp_seq_k (fun i0 n0 => ?_)
    refine wp_block ?_
    refine wsc (fun i0 d0 => ?_)
    refine m_index (i := j) (j := j * 1) sv m0 rfl rfl rfl rfl Tryd.underlying79 sz3 (by omega) (by omega) (ints_elem (t := bindsR (nth t ((t.length) - (k + 1)))) (k := j) (s0.row (i := 4) rfl).2 (by omega)).some_ rfl (by decide) (fun i0 c0 => ?_)
    refine m_loadE sv c0 rfl rfl rfl 0 (j * 1) (ints_elem (t := bindsR (nth t ((t.length) - (k + 1)))) (k := j) (s0.row (i := 4) rfl).2 (by omega)) rfl rfl Tryd.underlying3 rfl (by decide) (fun i0 m0 => ?_)
    refine asg m0 (fun i0 c0 => ?_)
    refine wpList_nil (x_then_n (d0 _ _ (c_region ?_)))
    refine mv c0 (fun d0 i0 => ?_)
    refine mv i0 (fun d0 c0 => ?_)
    refine mv c0 (fun d0 i0 => ?_)
    refine r_add (z := ((nthI us (((us).length) - (1))) + (nthI (bindsR (nth t ((t.length) - (k + 1)))) j))) sv i0 rfl rfl rfl rfl (by decide) (by omega) (by omega) (by omega) (fun d0 c0 => ?_)
    refine mbs [(0, .tmp 51)] [.int .i64 ((nthI us (((us).length) - (1))) + (nthI (bindsR (nth t ((t.length) - (k + 1)))) j))] sv c0 s0 Tryd.underlying79 zi3 (fun d0 i0 m0 u0 v0 => ?_)
    refine m_appendF (f := encI) (i := 0) (us.take (us.length - 1) ++ ((bindsR (nth t (t.length - (k + 1)))).take j).map (nthI us (us.length - 1) + ·)) ([((nthI us (((us).length) - (1))) + (nthI (bindsR (nth t ((t.length) - (k + 1)))) j))]) sv u0 v0 rfl rfl rfl rfl rfl encI_len (encI_one _) Tryd.underlying79 zi3 rfl rfl (own_lnews (f := encI) (v0.res (i := 1) rfl)) rfl (by first | omega | (simp only [List.length_cons, List.length_nil]; omega)) (by decide) (fun m0 i0 d0 c0 x0 y0 z0 => ?_)
    have x0 : ((us.take (us.length - 1) ++ ((bindsR (nth t (t.length - (k + 1)))).take j).map (nthI us (us.length - 1) + ·)) ++ ([((nthI us (((us).length) - (1))) + (nthI (bindsR (nth t ((t.length) - (k + 1)))) j))]) : List Int).length = (us.take (us.length - 1) ++ ((bindsR (nth t (t.length - (k + 1)))).take j).map (nthI us (us.length - 1) + ·)).length + 1 := by (simp only [List.length_append, List.length_take, List.length_cons, List.length_nil]; done)
    have x0 := z0.erase 1
    refine asg y0 (fun z0 i0 => ?_)
    refine wpList_nil ?_
    refine x_block_n ?_
    refine x_then_n (n0 _ _ ?_)
    refine c_region ?_
    refine r_add (z := ((j + 1 : Nat) : Int)) sv i0 rfl rfl rfl rfl (by decide) (by omega) (by omega) (by omega) (fun n0 z0 => ?_)
    refine mv z0 (fun n0 i0 => ?_)
    refine wpList_nil ?_
    have n0 : (us.take (us.length - 1) ++ ((bindsR (nth t (t.length - (k + 1)))).take j).map (nthI us (us.length - 1) + ·)) ++ ([((nthI us (((us).length) - (1))) + (nthI (bindsR (nth t ((t.length) - (k + 1)))) j))]) = us.take (us.length - 1) ++ ((bindsR (nth t (t.length - (k + 1)))).take (j + 1)).map (nthI us (us.length - 1) + ·) := by rw [map_step (by omega), ← List.append_assoc]
    have z0 := i0
    have i0 := x0
    rw [n0] at z0 i0
    exact ⟨_, by omega, j + 1, d0, c0, (z0.sub (rc rfl (rc rfl (rc rfl (rc rfl (rc rfl (rc rfl (rc rfl (rc rfl (rc rfl rnl)))))))))), i0, by omega, rfl⟩
   ·
    have i0 := t0.setb (d := 45) (b := false) rfl (decide_eq_false q0)
    refine wp_cond_false (i0.ev rfl) ?_
    refine wp_exit ?_
    refine x_then_e ?_
    refine x_then_e ?_
    refine x_block_eq ?_
    refine x_block_n ?_
    refine x_then_n (b0 _ _ ?_)
    refine c_region ?_
    refine mv i0 (fun b0 q0 => ?_)
    refine r_sub (z := (((t.length : Nat) : Int) - ((k : Nat) : Int) - 2)) sv q0 rfl rfl rfl rfl (by decide) (by omega) (by omega) (by omega) (fun b0 i0 => ?_)
    refine asg i0 (fun b0 q0 => ?_)
    refine wpList_nil ?_
    have b0 : us.take (us.length - 1) ++ ((bindsR (nth t (t.length - (k + 1)))).take j).map (nthI us (us.length - 1) + ·) = us.take (us.length - 1) ++ (bindsR (nth t (t.length - (k + 1)))).map (nthI us (us.length - 1) + ·) := by rw [show j = (bindsR (nth t (t.length - (k + 1)))).length by omega, List.take_length]
    have i0 := q0
    have q0 := s0
    rw [b0] at i0 q0
    have b0 : (nodesL t).take k ++ [((((((t.length : Nat) : Int) - ((k : Nat) : Int) - 1), ((nthI us (((us).length) - (1))))) : Int × Int))] = (nodesL t).take (k + 1) := hpre
    have s0 := q0
    rw [b0] at s0
    have b0 := s0.forget 4
    exact ⟨_, by omega, k + 1, Ts', _, Al, cl, (i0.sub (rc rfl (rc rfl (rc rfl (rc (ri rfl (by omega)) (rc rfl rnl)))))), b0, by omega, hv', rfl⟩
  ·
   refine r_not (st_listInV rfl rfl) o0 rfl rfl rfl (by decide) (fun b0 i0 => ?_)
   refine li_nil ?_
   refine x_then_n (j0 _ _ ?_)
   refine wp_cond_true (i0.ev rfl) ?_
   refine wp_ret ?_
   refine x_then_r ?_
   refine x_block_r ?_
   refine x_then_r ?_
   refine x_then_r ?_
   refine x_block_r ?_
   refine e_ret0 i0 rfl rfl ?_
   exact it_stop p0 (i := 0) rfl (hpre.symm ▸ List.take_prefix _ _)
 ·
  have p0 := h0.setb (d := 15) (b := false) rfl (decide_eq_false k0)
  refine wp_cond_false (p0.ev rfl) ?_
  refine wp_exit ?_
  refine x_then_e ?_
  refine x_then_e ?_
  refine x_block_eq ?_
  refine e_end0 p0 rfl rfl ?_
  exact it_all f0 (i := 0) rfl (hv.all (by omega))
end Go.Proofs.YtcfponnkfhkbdaaDoor
/- Contracts of functions, one theorem each: what the call returns, and that nothing old is changed. Printed by gen.py. -/
namespace Go.Proofs.YtcfponnkfhkbdaaDoor
open Go Go.RowKit
set_option linter.unusedSimpArgs false
set_option linter.unusedVariables false
set_option maxRecDepth 100000 in
set_option maxHeartbeats 1000000 in
theorem clamp_calls (w0 : World) (Z : Nat → Prop) (hZ : ∀ k, Z k → k < w0.heap.size) (n : Int)  :
    Calls Tryd.prog 120 [.int .i64 n].toArray w0 (fun e w' => e = .returned (.int .i64 (clamp n)) ∧ Fr none_ w0 w') := by
 have b0 := s0 (M := none_) hZ zn
 refine c_enter Tryd.func120 rfl Tryd.ntmps120 rfl (fun c0 d0 => ?_)
 refine wsc (fun c0 f0 => ?_)
 refine asg d0 (fun c0 h0 => ?_)
 refine wpList_nil (x_then_n (f0 _ _ ?_))
 refine wsc (fun f0 c0 => ?_)
 refine mv h0 (fun f0 d0 => ?_)
 refine r_min sv d0 rfl rfl rfl rfl rfl (by decide) (fun f0 h0 => ?_)
 refine r_max sv h0 rfl rfl rfl rfl rfl (by decide) (fun f0 d0 => ?_)
 refine asg d0 (fun f0 h0 => ?_)
 refine wpList_nil (x_then_n (c0 _ _ ?_))
 refine wp_ret ?_
 refine e_ret1 h0 rfl rfl rfl ?_
 refine ⟨?_, b0.fr⟩
 exact congrArg Ending.returned (ret_i (by unfold clamp; omega))
set_option maxRecDepth 100000 in
set_option maxHeartbeats 1000000 in
theorem shift_calls (w0 : World) (Z : Nat → Prop) (hZ : ∀ k, Z k → k < w0.heap.size) (tA : Option Addr) (tc : Nat) (t : List Nd) (b : Int) (fr : Int) (hShp : Shapes w0 Z) (ht : (dRow 4 tA t.length tc (encNs t)).φ w0 Z) (hsm : sml t := by first | assumption | omega | (simp; done) | (simp; omega)) (hl : t.length ≤ 1000000 := by first | assumption | omega | (simp; done) | (simp; omega)) :
    Calls Tryd.prog 110 [.slice tA t.length tc, .int .i64 b, .int .i64 fr].toArray w0 (fun e w' => ∃ (rA0 : Option Addr) (rc0 : Nat), e = .returned (.tuple #[.slice rA0 (sfA t b fr).length rc0, .int .i64 (sfE t b fr)]) ∧ Fr none_ w0 w' ∧ (Res.row rA0 (sfA t b fr).length rc0 39 4 (encNs (sfA t b fr))).holds w' ∧ (∀ k, (Res.row rA0 (sfA t b fr).length rc0 39 4 (encNs (sfA t b fr))).blk = some k → w0.heap.size ≤ k)) := by
 have b0 := s0 (M := none_) hZ (zc (d := dShapes) hShp (zc ht zn))
 refine c_enterM Tryd.func110 rfl Tryd.ntmps110 rfl (fun c0 d0 => ?_)
 refine wsc (fun c0 f0 => ?_)
 refine m_box (cs := [.int .i64 (b)]) sv d0 b0 rfl rfl rfl rfl (by decide) (fun c0 h0 i0 j0 k0 => ?_)
 refine m_box (cs := [.int .i64 (fr)]) sv j0 k0 rfl rfl rfl rfl (by decide) (fun h0 c0 d0 b0 m0 => ?_)
 refine asg b0 (fun h0 k0 => ?_)
 refine asg k0 (fun h0 b0 => ?_)
 refine wpList_nil (x_then_n (f0 _ _ ?_))
 refine wsc (fun f0 h0 => ?_)
 refine mv b0 (fun f0 k0 => ?_)
 have f0 : St w0 Z none_ c0 [.box i0 3 [.int .i64 (b)], .box d0 3 [.int .i64 (fr)]] [dShapes, dRow 4 tA t.length tc (encNs t)] := m0
 refine k_call (xs := [.tmp 13]) se k0 rfl rfl rfl (by decide) ok40 (check_calls _ _ f0.il _ _ _ (f0.g 0) (f0.g 1)) ?_
 rintro k0 m0 ⟨rfl, c0⟩
 have m0 := f0.below c0.below
 refine ⟨_, rfl, fun c0 f0 => ?_⟩
 refine m_alloc (cs := [.int .i64 0]) sv f0 m0 rfl rfl ze27 rfl (by decide) (fun c0 k0 b0 j0 n0 => ?_)
 refine m_store (i := 2) (cs' := [.int .i64 ((chk t))]) se j0 n0 rfl rfl rfl rfl rfl sz27 rfl rfl rfl (fun k0 c0 f0 m0 => ?_)
 refine wpList_nil (x_then_n (h0 _ _ ?_))
 refine wp_seq_k (fun h0 k0 => ?_)
 refine wsc (fun h0 n0 => ?_)
 refine m_load (i := 2) sv f0 m0 rfl rfl rfl rfl rfl Tryd.underlying27 rfl (by decide) (fun h0 j0 => ?_)
 refine r_neq sv j0 rfl rfl rfl rfl (by decide) (fun h0 f0 => ?_)
 refine wpList_nil (x_then_n (n0 _ _ ?_))
 rcases Decidable.em (((chk t)) = 0) with n0 | n0
 ·
  have hc := n0
  have h0 := f0.setb (d := 16) (b := false) rfl (by rw [(decide_eq_true n0)]; rfl)
  refine wp_cond_false (h0.ev rfl) ?_
  refine wp_skip ?_
  refine x_then_n (k0 _ _ ?_)
  refine wp_seq_k (fun k0 j0 => ?_)
  obtain ⟨k0, o0, p0⟩ := m0.agree
  refine dl_region2 (S := (sW c0 k0 [cel d0 0 (.int .i64 (fr))])) (n := 7) [6] mixed rfl p0 (pan_then pan_bodyM) (fun o0 q0 t0 u0 v0 => ?_)
  have o0 := sWI v0 2 (pc 1 0 pn)
  refine dl_take (i := 2) rfl (by kernel_rfl) (by kernel_rfl) (by kernel_rfl) (by kernel_rfl) (fun c a w h => q0 c _ _ _ _ h) rfl (by decide) h0 (want_n rfl) (fun x hx => m_loadC (sy h0) h0 rfl rfl rfl (hx.c 0) Tryd.underlying3 rfl (by decide) gt) o0 (fun p0 x0 => ?_)
  refine dl_one (i := 0) (by kernel_rfl) ?_
  refine m_load (i := 0) (st_opV rfl (want_n rfl)) x0 v0 rfl rfl rfl rfl rfl Tryd.underlying3 rfl (by decide) (fun p0 o0 => ?_)
  have p0 := sWI v0 2 (pc 1 0 pn)
  refine ⟨fun _ _ => p0, ?_⟩
  refine dl_one (i := 1) (by kernel_rfl) ?_
  have p0 : St w0 Z none_ u0 [.box i0 3 [.int .i64 (b)], .box d0 3 [.int .i64 (fr)], .box b0 27 [.int .i64 ((chk t))]] [dShapes, dRow 4 tA t.length tc (encNs t), dAg c0 k0] := v0
  refine k_call (xs := [.tmp 18]) (st_op rfl (want_n rfl)) o0 rfl rfl rfl (by decide) ok120 (clamp_calls _ _ p0.il (b)) ?_
  rintro o0 v0 ⟨rfl, u0⟩
  have o0 := p0.below u0.below
  refine ⟨_, rfl, fun u0 p0 => ?_⟩
  have u0 := sWI o0 2 (pc 1 0 pn)
  refine ⟨fun _ _ => u0, ?_⟩
  refine dl_one (i := 3) (by kernel_rfl) ?_
  have u0 : St w0 Z none_ v0 [.box i0 3 [.int .i64 (b)], .box d0 3 [.int .i64 (fr)], .box b0 27 [.int .i64 ((chk t))]] [dShapes, dRow 4 tA t.length tc (encNs t), dAg c0 k0] := o0
  refine k_call (xs := [.tmp 20]) (st_op rfl (want_n rfl)) p0 rfl rfl rfl (by decide) ok120 (clamp_calls _ _ u0.il (fr)) ?_
  rintro p0 o0 ⟨rfl, v0⟩
  have o0 := u0.below v0.below
  refine ⟨_, rfl, fun v0 u0 => ?_⟩
  have v0 := sWI o0 2 (pc 1 0 pn)
  refine ⟨fun _ _ => v0, ?_⟩
  refine dl_takeA (i := 4) rfl (by kernel_rfl) (by kernel_rfl) (by kernel_rfl) (fun c a w h => q0 c _ _ _ _ h) rfl (by decide) u0 (want_n rfl) (fun x => r_max (sy u0) u0 rfl rfl rfl rfl rfl (by decide) gt) (fun v0 p0 => ?_)
  refine dl_one (i := 5) (by kernel_rfl) ?_
  refine m_store (i := 0) (cs' := [.int .i64 ((clamp (b)))]) (st_op rfl (want_n rfl)) p0 o0 rfl rfl rfl rfl rfl sz3 rfl rfl rfl (fun v0 u0 q0 x0 => ?_)
  have u0 := sWI x0 2 (pc 1 0 pn)
  refine ⟨fun _ _ => u0, ?_⟩
  refine dl_one (i := 6) (by kernel_rfl) ?_
  refine m_store (i := 1) (cs' := [.int .i64 ((max 0 ((clamp (fr)))))]) (st_op rfl (want_n rfl)) q0 x0 rfl rfl rfl rfl rfl sz3 rfl rfl rfl (fun u0 v0 p0 o0 => ?_)
  refine ⟨fun h => absurd h (by decide), ?_⟩
  refine dl_done (by kernel_rfl) (t0 _ _ ?_) _
  refine x_then_n (j0 _ _ ?_)
  refine wsc (fun j0 t0 => ?_)
  refine mv p0 (fun j0 v0 => ?_)
  have j0 := o0.nilrow 39 4
  refine m_appendF (f := encN) (i := 3) ([]) (t) sv v0 j0 rfl rfl rfl rfl rfl encN_len (encN_one _) Tryd.underlying22 zi39 rfl rfl (j0.row (i := 1) rfl).2.news rfl (by first | omega | (simp only [List.length_cons, List.length_nil]; omega)) (by decide) (fun o0 p0 u0 x0 q0 h0 y0 => ?_)
  have q0 : (([]) ++ t : List Nd).length = t.length := by (simp only [List.length_append, List.length_take, List.length_cons, List.length_nil]; omega)
  refine m_alloc (cs := [.slice none 0 0]) sv h0 y0 rfl rfl ze22 rfl (by decide) (fun q0 p0 o0 j0 v0 => ?_)
  refine m_store (i := 4) (cs' := [.slice u0 ((([]) ++ t : List Nd).length) x0]) se j0 v0 rfl rfl rfl rfl rfl sz22 rfl rfl rfl (fun p0 q0 y0 h0 => ?_)
  refine wpList_nil (x_then_n (t0 _ _ ?_))
  refine wp_seq_k (fun t0 p0 => ?_)
  refine wsc (fun t0 v0 => ?_)
  refine mv y0 (fun t0 j0 => ?_)
  have t0 : St w0 Z none_ q0 [.box i0 3 [.int .i64 ((clamp (b)))], .box d0 3 [.int .i64 ((max 0 ((clamp (fr)))))], .box b0 27 [.int .i64 ((chk t))], .row u0 ((([]) ++ t : List Nd).length) x0 39 4 (encNs (([]) ++ t)), .box o0 22 [.slice u0 ((([]) ++ t : List Nd).length) x0]] [dShapes, dRow 4 tA t.length tc (encNs t), dAg c0 k0] := h0
  refine k_call (xs := [.tmp 25]) se j0 rfl rfl rfl (by decide) ok121 (nodesMk_calls _ _ t0.il _ _ _ (t0.g 1)) ?_
  rintro j0 h0 ⟨q0, rfl, y0, z0⟩
  have j0 := t0.below y0.below
  have y0 := t0.dN j0 z0
  refine ⟨_, rfl, fun j0 z0 => ?_⟩
  refine wpList_nil (x_then_n (v0 _ _ ?_))
  refine wp_block ?_
  have v0 : St w0 Z none_ h0 [.box i0 3 [.int .i64 ((clamp (b)))], .box d0 3 [.int .i64 ((max 0 ((clamp (fr)))))], .box b0 27 [.int .i64 ((chk t))], .row u0 ((([]) ++ t : List Nd).length) x0 39 4 (encNs (([]) ++ t)), .box o0 22 [.slice u0 ((([]) ++ t : List Nd).length) x0]] [dShapes, dRow 4 tA t.length tc (encNs t), dAg c0 k0, dBox q0 [.slice tA t.length tc]] := y0
  have y0 : Reg j0 74 [(1000000, .bool false), (4, .pointer (some ⟨i0, 0, none⟩)), (5, .pointer (some ⟨d0, 0, none⟩)), (6, .slice none 0 0), (7, .int .i64 0), (8, .pointer (some ⟨b0, 0, none⟩)), (9, .pointer (some ⟨o0, 0, none⟩)), (26, .func (.func 128) #[] #[.pointer (some ⟨q0, 0, none⟩)])] := (z0.sub (rc rfl (rc rfl (rc rfl (rc rfl (rc rfl (rc rfl (rc rfl (rc rfl rnl)))))))))
  refine w_range (xs := nodesL t) (encs := (fun x : Int × Int => #[.int .i64 x.1, .int .i64 x.2])) (y0.ev rfl) ok128 (nodes_yields _ (imm Z w0 [.box i0 3 [.int .i64 ((clamp (b)))], .box d0 3 [.int .i64 ((max 0 ((clamp (fr)))))], .box b0 27 [.int .i64 ((chk t))], .row u0 ((([]) ++ t : List Nd).length) x0 39 4 (encNs (([]) ++ t)), .box o0 22 [.slice u0 ((([]) ++ t : List Nd).length) x0]] _) q0 tA tc t (v0.get (i := 0) rfl) (v0.get (i := 1) rfl) (v0.get (i := 3) rfl) (by first | assumption | omega | (simp; done) | (simp; omega)) (by first | assumption | omega | (simp; done) | (simp; omega)) (by first | assumption | omega | (simp; done) | (simp; omega))) (fun _ => rfl) v0 (fun _ h => h) (fun (pre : List (Int × Int)) (mm : List Res) => ∃ Ao : Option Addr, ∃ co : Nat, mm = [.box i0 3 [.int .i64 ((clamp (b)))], .box d0 3 [.int .i64 ((max 0 ((clamp (fr)))))], .box b0 27 [.int .i64 (((foldS (clamp b) (max 0 (clamp fr)) (t, chk t) pre).2))], .row Ao (((foldS (clamp b) (max 0 (clamp fr)) (t, chk t) pre).1).length) co 39 4 (encNs ((foldS (clamp b) (max 0 (clamp fr)) (t, chk t) pre).1)), .box o0 22 [.slice Ao (((foldS (clamp b) (max 0 (clamp fr)) (t, chk t) pre).1).length) co]]) (fun _ _ _ => False) ⟨u0, x0, rfl⟩ ?_ ?_ ?_
  ·
   rintro v0 pre x x0 m1 hp ⟨Ao, co, rfl⟩ u0
   obtain ⟨xi, xj, rfl, hxi, hxj⟩ := nodesL_nat hc hp
   refine (?_ : ∀ z0, Reg z0 74 [(28, .int .i64 ((xj : Nat) : Int)), (27, .int .i64 ((xi : Nat) : Int)), (1000000, .bool false), (4, .pointer (some ⟨i0, 0, none⟩)), (5, .pointer (some ⟨d0, 0, none⟩)), (6, .slice none 0 0), (7, .int .i64 0), (8, .pointer (some ⟨b0, 0, none⟩)), (9, .pointer (some ⟨o0, 0, none⟩)), (26, .func (.func 128) #[] #[.pointer (some ⟨q0, 0, none⟩)])] → Code.wpIn (rI v0) 0 _ _ _ z0 x0) _ (Reg.round2n y0 (by decide) (by decide) rfl)
   intro z0 v0
   have hfl : (foldS (clamp b) (max 0 (clamp fr)) (t, chk t) pre).1.length = t.length := foldS_len (clamp b) (max 0 (clamp fr)) (t, chk t) pre
   have hcb : -1000 ≤ clamp b ∧ clamp b ≤ 1000 := by unfold clamp; omega
   have hcf : -1000 ≤ clamp fr ∧ clamp fr ≤ 1000 := by unfold clamp; omega
   have hfN := fold_N (f := max 0 (clamp fr)) (e := chk t) hc hcb (List.IsPrefix.trans (List.prefix_append _ _) hp) xi
   refine wpIn_seq_k (fun z0 j0 => ?_)
   refine ci_region (by kernel_rfl) (out_then (out_then (fun _ _ h => h))) ?_
   refine asg v0 (fun z0 h0 => ?_)
   refine wpList_nil (x_then_n (j0 _ _ ?_))
   refine ci_region (by kernel_rfl) (out_then (fun _ _ h => h)) ?_
   refine asg h0 (fun j0 z0 => ?_)
   refine wpList_nil ?_
   have j0 : St w0 Z none_ x0 [.box i0 3 [.int .i64 ((clamp (b)))], .box d0 3 [.int .i64 ((max 0 ((clamp (fr)))))], .box b0 27 [.int .i64 (((foldS (clamp b) (max 0 (clamp fr)) (t, chk t) pre).2))], .row Ao (((foldS (clamp b) (max 0 (clamp fr)) (t, chk t) pre).1).length) co 39 4 (encNs ((foldS (clamp b) (max 0 (clamp fr)) (t, chk t) pre).1)), .box o0 22 [.slice Ao (((foldS (clamp b) (max 0 (clamp fr)) (t, chk t) pre).1).length) co]] [dShapes, dRow 4 tA t.length tc (encNs t), dAg c0 k0, dBox q0 [.slice tA t.length tc], dAg x0 (imm Z w0 [.box i0 3 [.int .i64 ((clamp (b)))], .box d0 3 [.int .i64 ((max 0 ((clamp (fr)))))], .box b0 27 [.int .i64 (((foldS (clamp b) (max 0 (clamp fr)) (t, chk t) pre).2))], .row Ao (((foldS (clamp b) (max 0 (clamp fr)) (t, chk t) pre).1).length) co 39 4 (encNs ((foldS (clamp b) (max 0 (clamp fr)) (t, chk t) pre).1)), .box o0 22 [.slice Ao (((foldS (clamp b) (max 0 (clamp fr)) (t, chk t) pre).1).length) co]] x0)] := u0
   refine x_then_n ⟨_, _, 4, j0, rfl, (fun _ h => False.elim h), (fun _ h => False.elim h), fun u0 x0 => ?_⟩
   refine wpIn_block ?_
   refine wpIn_seq_k (fun j0 h0 => ?_)
   refine ci_region (by kernel_rfl) (out_then (out_block out_rPost)) ?_
   refine m_load (i := 4) sv z0 x0 rfl rfl rfl rfl rfl Tryd.underlying22 rfl (by decide) (fun j0 v0 => ?_)
   refine mv v0 (fun j0 z0 => ?_)
   refine m_index (i := xi) (j := xi * 4) sv z0 rfl rfl rfl rfl Tryd.underlying22 sz39 (by omega) (by omega) (own_nds (t := (foldS (clamp b) (max 0 (clamp fr)) (t, chk t) pre).1) (k := xi) (x0.res (i := 3) rfl) (by omega)).some_ rfl (by decide) (fun j0 v0 => ?_)
   refine asg v0 (fun j0 z0 => ?_)
   refine wpList_nil (x_then_n (h0 _ _ ?_))
   refine wpIn_seq_k (fun h0 j0 => ?_)
   refine wpIn_seq_k (fun h0 v0 => ?_)
   obtain ⟨h0, t0, b1⟩ := x0.agree
   refine di_region2 (S := (sW u0 h0 [cel d0 0 (.int .i64 ((max 0 ((clamp (fr)))))), (Res.row Ao (((foldS (clamp b) (max 0 (clamp fr)) (t, chk t) pre).1).length) co 39 4 (encNs ((foldS (clamp b) (max 0 (clamp fr)) (t, chk t) pre).1))).holds])) (k := 15) mixed rfl (by kernel_rfl) b1 (pan_then (pan_then (pan_block pan_rPost))) (out_then (out_then (out_block out_rPost))) (fun t0 x0 c1 d1 f1 => ?_)
   have t0 := sWI f1 5 (pc 1 0 (pr 3 pn))
   refine dtM 0 x0 z0 t0 (fun b1 h1 => ?_)
   refine dt 1 rfl x0 h1 (want_n rfl) (fun x hx => r_nilCheckE (sy h1) h1 rfl rfl rfl (own_nds (t := (foldS (clamp b) (max 0 (clamp fr)) (t, chk t) pre).1) (k := xi) (f1.res (i := 3) rfl) (by omega)).some_ (by decide) gt) t0 (fun b1 z0 => ?_)
   refine dt 2 rfl x0 z0 (want_n rfl) (fun x hx => m_fieldE (j' := xi * 4) (sy z0) z0 rfl rfl rfl (own_nds (t := (foldS (clamp b) (max 0 (clamp fr)) (t, chk t) pre).1) (k := xi) (f1.res (i := 3) rfl) (by omega)).some_ Tryd.underlying39 rfl sz3 rfl rfl (by decide) gt) t0 (fun b1 h1 => ?_)
   refine dt 3 rfl x0 h1 (want_n rfl) (fun x hx => m_loadE (sy h1) h1 rfl rfl rfl 0 (xi * 4) (own_nds (t := (foldS (clamp b) (max 0 (clamp fr)) (t, chk t) pre).1) (k := xi) (hx.r 1) (by omega)) rfl rfl Tryd.underlying3 rfl (by decide) gt) t0 (fun b1 z0 => ?_)
   refine dt 4 rfl x0 z0 (want_n rfl) (fun x hx => r_neq (sy z0) z0 rfl rfl rfl rfl (by decide) gt) t0 (fun b1 h1 => ?_)
   refine dtM 5 x0 h1 t0 (fun b1 z0 => ?_)
   rcases Decidable.em ((((nth ((foldS (clamp b) (max 0 (clamp fr)) (t, chk t) pre).1) xi).K)) = 0) with b1 | b1
   ·
    have h1 := z0.setb (d := 37) (b := false) rfl (by rw [(decide_eq_true b1)]; rfl)
    refine dtM 6 x0 h1 t0 (fun i1 j1 => ?_) (hw := wt h1)
    refine dt 7 rfl x0 j1 (wt j1) (fun x hx => r_nilCheckE (sy j1) j1 rfl rfl rfl (own_nds (t := (foldS (clamp b) (max 0 (clamp fr)) (t, chk t) pre).1) (k := xi) (f1.res (i := 3) rfl) (by omega)).some_ (by decide) gt) t0 (fun i1 h1 => ?_)
    refine dt 8 rfl x0 h1 (wt h1) (fun x hx => m_fieldE (j' := xi * 4 + 1) (sy h1) h1 rfl rfl rfl (own_nds (t := (foldS (clamp b) (max 0 (clamp fr)) (t, chk t) pre).1) (k := xi) (f1.res (i := 3) rfl) (by omega)).some_ Tryd.underlying39 rfl sz3 rfl rfl (by decide) gt) t0 (fun i1 j1 => ?_)
    refine dt 9 rfl x0 j1 (wt j1) (fun x hx => m_loadE (sy j1) j1 rfl rfl rfl 1 (xi * 4) (own_nds (t := (foldS (clamp b) (max 0 (clamp fr)) (t, chk t) pre).1) (k := xi) (hx.r 1) (by omega)) rfl rfl Tryd.underlying3 rfl (by decide) gt) t0 (fun i1 h1 => ?_)
    refine dtM 10 x0 h1 t0 (fun i1 j1 => ?_) (hw := wt h1)
    refine dt 11 rfl x0 j1 (wt j1) (fun x hx => r_sub (z := (((nth ((foldS (clamp b) (max 0 (clamp fr)) (t, chk t) pre).1) xi).N) - ((xj : Nat) : Int))) (sy j1) j1 rfl rfl rfl rfl (by decide) (by omega) (by omega) (by omega) gt) t0 (fun i1 h1 => ?_)
    refine dtC 12 0 x0 h1 t0 Tryd.underlying3 (fun i1 j1 => ?_) (hw := wt h1)
    refine dt 13 rfl x0 j1 (wt j1) (fun x hx => r_lss (sy j1) j1 rfl rfl rfl rfl (by decide) gt) t0 (fun i1 h1 => ?_)
    refine dtQ 14 x0 h1 t0 (fun i1 j1 => ?_)
    refine wpAnyH_done (by kernel_rfl) (c1 _ _ ?_) _
    refine x_then_n (v0 _ _ ?_)
    rcases Decidable.em ((((nth ((foldS (clamp b) (max 0 (clamp fr)) (t, chk t) pre).1) xi).N) - ((xj : Nat) : Int)) < ((max 0 ((clamp (fr)))))) with i1 | i1
    ·
     have h1 := j1.setb (d := 46) (b := true) rfl (decide_eq_true i1)
     refine wpIn_cond_true (h1.ev rfl) ?_
     refine wpIn_exit ?_
     refine x_then_e ?_
     refine x_block_eq ?_
     have h1 : St w0 Z none_ d1 [.box i0 3 [.int .i64 ((clamp (b)))], .box d0 3 [.int .i64 ((max 0 ((clamp (fr)))))], .box b0 27 [.int .i64 (((foldS (clamp b) (max 0 (clamp fr)) (t, chk t) pre).2))], .row Ao (((foldS (clamp b) (max 0 (clamp fr)) (t, chk t) pre).1).length) co 39 4 (encNs ((foldS (clamp b) (max 0 (clamp fr)) (t, chk t) pre).1)), .box o0 22 [.slice Ao (((foldS (clamp b) (max 0 (clamp fr)) (t, chk t) pre).1).length) co]] [dShapes, dRow 4 tA t.length tc (encNs t), dAg c0 k0, dBox q0 [.slice tA t.length tc], dAg u0 (imm Z w0 [.box i0 3 [.int .i64 ((clamp (b)))], .box d0 3 [.int .i64 ((max 0 ((clamp (fr)))))], .box b0 27 [.int .i64 (((foldS (clamp b) (max 0 (clamp fr)) (t, chk t) pre).2))], .row Ao (((foldS (clamp b) (max 0 (clamp fr)) (t, chk t) pre).1).length) co 39 4 (encNs ((foldS (clamp b) (max 0 (clamp fr)) (t, chk t) pre).1)), .box o0 22 [.slice Ao (((foldS (clamp b) (max 0 (clamp fr)) (t, chk t) pre).1).length) co]] u0), dAg u0 h0] := f1
     exact ⟨_, _, 4, h1, rfl, _, _, (by rw [foldS_snoc, step_no (by omega)])⟩
    ·
     have h1 := j1.setb (d := 46) (b := false) rfl (decide_eq_false i1)
     refine wpIn_cond_false (h1.ev rfl) ?_
     refine wpIn_skip ?_
     refine x_then_n (j0 _ _ ?_)
     refine wpIn_seq_k (fun j0 i1 => ?_)
     obtain ⟨j0, j1, k1⟩ := f1.agree
     refine dli_region2 (S := (sW d1 j0 [cel i0 0 (.int .i64 ((clamp (b)))), (Res.row Ao (((foldS (clamp b) (max 0 (clamp fr)) (t, chk t) pre).1).length) co 39 4 (encNs ((foldS (clamp b) (max 0 (clamp fr)) (t, chk t) pre).1))).holds])) (k := 9) [8] mixed rfl (by kernel_rfl) k1 (pan_then (pan_block pan_rPost)) (out_then (out_block out_rPost)) (fun j1 n1 o1 p1 q1 => ?_)
     have p1 := sWI q1 6 (pc 0 0 (pr 3 pn))
     refine dl_takeA (i := 0) rfl (by kernel_rfl) (by kernel_rfl) (by kernel_rfl) (fun c a w h => n1 c _ _ _ _ h) rfl (by decide) h1 (want_n rfl) (fun x => r_move (sy h1) h1 rfl rfl rfl (by decide) gt) (fun j1 k1 => ?_)
     refine dl_takeA (i := 1) rfl (by kernel_rfl) (by kernel_rfl) (by kernel_rfl) (fun c a w h => n1 c _ _ _ _ h) rfl (by decide) k1 (want_n rfl) (fun x => r_nilCheckE (sy k1) k1 rfl rfl rfl (own_nds (t := (foldS (clamp b) (max 0 (clamp fr)) (t, chk t) pre).1) (k := xi) (q1.res (i := 3) rfl) (by omega)).some_ (by decide) gt) (fun j1 h1 => ?_)
     refine dl_takeA (i := 2) rfl (by kernel_rfl) (by kernel_rfl) (by kernel_rfl) (fun c a w h => n1 c _ _ _ _ h) rfl (by decide) h1 (want_n rfl) (fun x => m_fieldE (j' := xi * 4 + 1) (sy h1) h1 rfl rfl rfl (own_nds (t := (foldS (clamp b) (max 0 (clamp fr)) (t, chk t) pre).1) (k := xi) (q1.res (i := 3) rfl) (by omega)).some_ Tryd.underlying39 rfl sz3 rfl rfl (by decide) gt) (fun j1 k1 => ?_)
     refine dl_take (i := 3) rfl (by kernel_rfl) (by kernel_rfl) (by kernel_rfl) (by kernel_rfl) (fun c a w h => n1 c _ _ _ _ h) rfl (by decide) k1 (want_n rfl) (fun x hx => m_loadE (sy k1) k1 rfl rfl rfl 1 (xi * 4) (own_nds (t := (foldS (clamp b) (max 0 (clamp fr)) (t, chk t) pre).1) (k := xi) (hx.r 1) (by omega)) rfl rfl Tryd.underlying3 rfl (by decide) gt) p1 (fun j1 h1 => ?_)
     refine dl_take (i := 4) rfl (by kernel_rfl) (by kernel_rfl) (by kernel_rfl) (by kernel_rfl) (fun c a w h => n1 c _ _ _ _ h) rfl (by decide) h1 (want_n rfl) (fun x hx => m_loadC (sy h1) h1 rfl rfl rfl (hx.c 0) Tryd.underlying3 rfl (by decide) gt) p1 (fun j1 k1 => ?_)
     refine dl_takeA (i := 5) rfl (by kernel_rfl) (by kernel_rfl) (by kernel_rfl) (fun c a w h => n1 c _ _ _ _ h) rfl (by decide) k1 (want_n rfl) (fun x => r_add (z := (((nth ((foldS (clamp b) (max 0 (clamp fr)) (t, chk t) pre).1) xi).N) + (clamp (b)))) (sy k1) k1 rfl rfl rfl rfl (by decide) (by omega) (by omega) (by omega) gt) (fun j1 h1 => ?_)
     refine dl_takeA (i := 6) rfl (by kernel_rfl) (by kernel_rfl) (by kernel_rfl) (fun c a w h => n1 c _ _ _ _ h) rfl (by decide) h1 (want_n rfl) (fun x => r_nilCheckE (sy h1) h1 rfl rfl rfl (own_nds (t := (foldS (clamp b) (max 0 (clamp fr)) (t, chk t) pre).1) (k := xi) (q1.res (i := 3) rfl) (by omega)).some_ (by decide) gt) (fun j1 k1 => ?_)
     refine dl_takeA (i := 7) rfl (by kernel_rfl) (by kernel_rfl) (by kernel_rfl) (fun c a w h => n1 c _ _ _ _ h) rfl (by decide) k1 (want_n rfl) (fun x => m_fieldE (j' := xi * 4 + 1) (sy k1) k1 rfl rfl rfl (own_nds (t := (foldS (clamp b) (max 0 (clamp fr)) (t, chk t) pre).1) (k := xi) (q1.res (i := 3) rfl) (by omega)).some_ Tryd.underlying39 rfl sz3 rfl rfl (by decide) gt) (fun j1 h1 => ?_)
     refine dl_one (i := 8) (by kernel_rfl) ?_
     refine m_storeF (i := 3) (k := xi) (off := 1) (L := ((foldS (clamp b) (max 0 (clamp fr)) (t, chk t) pre).1)) (z := (⟨(nth ((foldS (clamp b) (max 0 (clamp fr)) (t, chk t) pre).1) xi).K, (((nth ((foldS (clamp b) (max 0 (clamp fr)) (t, chk t) pre).1) xi).N) + (clamp (b))), (nth ((foldS (clamp b) (max 0 (clamp fr)) (t, chk t) pre).1) xi).M, (nth ((foldS (clamp b) (max 0 (clamp fr)) (t, chk t) pre).1) xi).S⟩ : Nd)) (st_op rfl (want_n rfl)) h1 q1 rfl rfl rfl rfl rfl (by omega) (by omega) (by decide) rfl rfl rfl sz3 (fun j1 k1 n1 p1 => ?_)
     have j1 : (((foldS (clamp b) (max 0 (clamp fr)) (t, chk t) pre).1).set (xi) (⟨(nth ((foldS (clamp b) (max 0 (clamp fr)) (t, chk t) pre).1) xi).K, (((nth ((foldS (clamp b) (max 0 (clamp fr)) (t, chk t) pre).1) xi).N) + (clamp (b))), (nth ((foldS (clamp b) (max 0 (clamp fr)) (t, chk t) pre).1) xi).M, (nth ((foldS (clamp b) (max 0 (clamp fr)) (t, chk t) pre).1) xi).S⟩ : Nd)).length = ((foldS (clamp b) (max 0 (clamp fr)) (t, chk t) pre).1).length := by simp
     have j1 : nth (((foldS (clamp b) (max 0 (clamp fr)) (t, chk t) pre).1).set (xi) (⟨(nth ((foldS (clamp b) (max 0 (clamp fr)) (t, chk t) pre).1) xi).K, (((nth ((foldS (clamp b) (max 0 (clamp fr)) (t, chk t) pre).1) xi).N) + (clamp (b))), (nth ((foldS (clamp b) (max 0 (clamp fr)) (t, chk t) pre).1) xi).M, (nth ((foldS (clamp b) (max 0 (clamp fr)) (t, chk t) pre).1) xi).S⟩ : Nd)) (xi) = (⟨(nth ((foldS (clamp b) (max 0 (clamp fr)) (t, chk t) pre).1) xi).K, (((nth ((foldS (clamp b) (max 0 (clamp fr)) (t, chk t) pre).1) xi).N) + (clamp (b))), (nth ((foldS (clamp b) (max 0 (clamp fr)) (t, chk t) pre).1) xi).M, (nth ((foldS (clamp b) (max 0 (clamp fr)) (t, chk t) pre).1) xi).S⟩ : Nd) := nth_set_self (by omega)
     have h1 : (nth (((foldS (clamp b) (max 0 (clamp fr)) (t, chk t) pre).1).set (xi) (⟨(nth ((foldS (clamp b) (max 0 (clamp fr)) (t, chk t) pre).1) xi).K, (((nth ((foldS (clamp b) (max 0 (clamp fr)) (t, chk t) pre).1) xi).N) + (clamp (b))), (nth ((foldS (clamp b) (max 0 (clamp fr)) (t, chk t) pre).1) xi).M, (nth ((foldS (clamp b) (max 0 (clamp fr)) (t, chk t) pre).1) xi).S⟩ : Nd)) (xi)).N = (((nth ((foldS (clamp b) (max 0 (clamp fr)) (t, chk t) pre).1) xi).N) + (clamp (b))) := by rw [j1]
     refine ⟨fun h => absurd h (by decide), ?_⟩
     refine dl_done (by kernel_rfl) (o1 _ _ ?_) _
     refine x_then_n (i1 _ _ ?_)
     refine wpIn_block ?_
     refine wpIn_seq_k (fun i1 o1 => ?_)
     obtain ⟨i1, h1, j1⟩ := p1.agree
     refine di_region2 (S := (sW k1 i1 [cel d0 0 (.int .i64 ((max 0 ((clamp (fr)))))), (Res.row Ao ((((foldS (clamp b) (max 0 (clamp fr)) (t, chk t) pre).1).set (xi) (⟨(nth ((foldS (clamp b) (max 0 (clamp fr)) (t, chk t) pre).1) xi).K, (((nth ((foldS (clamp b) (max 0 (clamp fr)) (t, chk t) pre).1) xi).N) + (clamp (b))), (nth ((foldS (clamp b) (max 0 (clamp fr)) (t, chk t) pre).1) xi).M, (nth ((foldS (clamp b) (max 0 (clamp fr)) (t, chk t) pre).1) xi).S⟩ : Nd)).length) co 39 4 (encNs (((foldS (clamp b) (max 0 (clamp fr)) (t, chk t) pre).1).set (xi) (⟨(nth ((foldS (clamp b) (max 0 (clamp fr)) (t, chk t) pre).1) xi).K, (((nth ((foldS (clamp b) (max 0 (clamp fr)) (t, chk t) pre).1) xi).N) + (clamp (b))), (nth ((foldS (clamp b) (max 0 (clamp fr)) (t, chk t) pre).1) xi).M, (nth ((foldS (clamp b) (max 0 (clamp fr)) (t, chk t) pre).1) xi).S⟩ : Nd)))).holds])) (k := 9) mixed rfl (by kernel_rfl) j1 (pan_then (pan_block (pan_block pan_rPost))) (out_then (out_block (out_block out_rPost))) (fun h1 p1 q1 s1 t1 => ?_)
     have h1 := sWI t1 7 (pc 1 0 (pr 3 pn))
     refine dtM 0 p1 n1 h1 (fun j1 u1 => ?_)
     refine dt 1 rfl p1 u1 (want_n rfl) (fun x hx => r_nilCheckE (sy u1) u1 rfl rfl rfl (own_nds (t := ((foldS (clamp b) (max 0 (clamp fr)) (t, chk t) pre).1).set (xi) (⟨(nth ((foldS (clamp b) (max 0 (clamp fr)) (t, chk t) pre).1) xi).K, (((nth ((foldS (clamp b) (max 0 (clamp fr)) (t, chk t) pre).1) xi).N) + (clamp (b))), (nth ((foldS (clamp b) (max 0 (clamp fr)) (t, chk t) pre).1) xi).M, (nth ((foldS (clamp b) (max 0 (clamp fr)) (t, chk t) pre).1) xi).S⟩ : Nd)) (k := xi) (t1.res (i := 3) rfl) (by omega)).some_ (by decide) gt) h1 (fun j1 n1 => ?_)
     refine dt 2 rfl p1 n1 (want_n rfl) (fun x hx => m_fieldE (j' := xi * 4 + 1) (sy n1) n1 rfl rfl rfl (own_nds (t := ((foldS (clamp b) (max 0 (clamp fr)) (t, chk t) pre).1).set (xi) (⟨(nth ((foldS (clamp b) (max 0 (clamp fr)) (t, chk t) pre).1) xi).K, (((nth ((foldS (clamp b) (max 0 (clamp fr)) (t, chk t) pre).1) xi).N) + (clamp (b))), (nth ((foldS (clamp b) (max 0 (clamp fr)) (t, chk t) pre).1) xi).M, (nth ((foldS (clamp b) (max 0 (clamp fr)) (t, chk t) pre).1) xi).S⟩ : Nd)) (k := xi) (t1.res (i := 3) rfl) (by omega)).some_ Tryd.underlying39 rfl sz3 rfl rfl (by decide) gt) h1 (fun j1 u1 => ?_)
     refine dt 3 rfl p1 u1 (want_n rfl) (fun x hx => m_loadE (sy u1) u1 rfl rfl rfl 1 (xi * 4) (own_nds (t := ((foldS (clamp b) (max 0 (clamp fr)) (t, chk t) pre).1).set (xi) (⟨(nth ((foldS (clamp b) (max 0 (clamp fr)) (t, chk t) pre).1) xi).K, (((nth ((foldS (clamp b) (max 0 (clamp fr)) (t, chk t) pre).1) xi).N) + (clamp (b))), (nth ((foldS (clamp b) (max 0 (clamp fr)) (t, chk t) pre).1) xi).M, (nth ((foldS (clamp b) (max 0 (clamp fr)) (t, chk t) pre).1) xi).S⟩ : Nd)) (k := xi) (hx.r 1) (by omega)) rfl rfl Tryd.underlying3 rfl (by decide) gt) h1 (fun j1 n1 => ?_)
     refine dtM 4 p1 n1 h1 (fun j1 u1 => ?_)
     refine dt 5 rfl p1 u1 (want_n rfl) (fun x hx => r_sub (z := (((nth (((foldS (clamp b) (max 0 (clamp fr)) (t, chk t) pre).1).set (xi) (⟨(nth ((foldS (clamp b) (max 0 (clamp fr)) (t, chk t) pre).1) xi).K, (((nth ((foldS (clamp b) (max 0 (clamp fr)) (t, chk t) pre).1) xi).N) + (clamp (b))), (nth ((foldS (clamp b) (max 0 (clamp fr)) (t, chk t) pre).1) xi).M, (nth ((foldS (clamp b) (max 0 (clamp fr)) (t, chk t) pre).1) xi).S⟩ : Nd)) xi).N) - ((xj : Nat) : Int))) (sy u1) u1 rfl rfl rfl rfl (by decide) (by omega) (by omega) (by omega) gt) h1 (fun j1 n1 => ?_)
     refine dtC 6 0 p1 n1 h1 Tryd.underlying3 (fun j1 u1 => ?_)
     refine dt 7 rfl p1 u1 (want_n rfl) (fun x hx => r_lss (sy u1) u1 rfl rfl rfl rfl (by decide) gt) h1 (fun j1 n1 => ?_)
     refine dtA 8 p1 n1 h1 (fun j1 u1 => ?_)
     refine wpAnyH_done (by kernel_rfl) (q1 _ _ ?_) _
     refine x_then_n (o1 _ _ ?_)
     rcases Decidable.em ((((nth (((foldS (clamp b) (max 0 (clamp fr)) (t, chk t) pre).1).set (xi) (⟨(nth ((foldS (clamp b) (max 0 (clamp fr)) (t, chk t) pre).1) xi).K, (((nth ((foldS (clamp b) (max 0 (clamp fr)) (t, chk t) pre).1) xi).N) + (clamp (b))), (nth ((foldS (clamp b) (max 0 (clamp fr)) (t, chk t) pre).1) xi).M, (nth ((foldS (clamp b) (max 0 (clamp fr)) (t, chk t) pre).1) xi).S⟩ : Nd)) xi).N) - ((xj : Nat) : Int)) < ((max 0 ((clamp (fr)))))) with o1 | o1
     ·
      have q1 := u1.setb (d := 55) (b := true) rfl (decide_eq_true o1)
      refine wpIn_cond_true (q1.ev rfl) ?_
      refine ci_region (by kernel_rfl) (out_block (out_block out_rPost)) ?_
      refine m_store (i := 2) (cs' := [.int .i64 30]) se q1 t1 rfl rfl rfl rfl rfl sz27 rfl rfl rfl (fun j1 n1 h1 p1 => ?_)
      refine wpList_nil ?_
      refine x_block_n ?_
      refine x_block_n ?_
      have h1 : St w0 Z none_ n1 [.box i0 3 [.int .i64 ((clamp (b)))], .box d0 3 [.int .i64 ((max 0 ((clamp (fr)))))], .box b0 27 [.int .i64 30], .row Ao ((((foldS (clamp b) (max 0 (clamp fr)) (t, chk t) pre).1).set (xi) (⟨(nth ((foldS (clamp b) (max 0 (clamp fr)) (t, chk t) pre).1) xi).K, (((nth ((foldS (clamp b) (max 0 (clamp fr)) (t, chk t) pre).1) xi).N) + (clamp (b))), (nth ((foldS (clamp b) (max 0 (clamp fr)) (t, chk t) pre).1) xi).M, (nth ((foldS (clamp b) (max 0 (clamp fr)) (t, chk t) pre).1) xi).S⟩ : Nd)).length) co 39 4 (encNs (((foldS (clamp b) (max 0 (clamp fr)) (t, chk t) pre).1).set (xi) (⟨(nth ((foldS (clamp b) (max 0 (clamp fr)) (t, chk t) pre).1) xi).K, (((nth ((foldS (clamp b) (max 0 (clamp fr)) (t, chk t) pre).1) xi).N) + (clamp (b))), (nth ((foldS (clamp b) (max 0 (clamp fr)) (t, chk t) pre).1) xi).M, (nth ((foldS (clamp b) (max 0 (clamp fr)) (t, chk t) pre).1) xi).S⟩ : Nd))), .box o0 22 [.slice Ao (((foldS (clamp b) (max 0 (clamp fr)) (t, chk t) pre).1).length) co]] [dShapes, dRow 4 tA t.length tc (encNs t), dAg c0 k0, dBox q0 [.slice tA t.length tc], dAg u0 (imm Z w0 [.box i0 3 [.int .i64 ((clamp (b)))], .box d0 3 [.int .i64 ((max 0 ((clamp (fr)))))], .box b0 27 [.int .i64 (((foldS (clamp b) (max 0 (clamp fr)) (t, chk t) pre).2))], .row Ao (((foldS (clamp b) (max 0 (clamp fr)) (t, chk t) pre).1).length) co 39 4 (encNs ((foldS (clamp b) (max 0 (clamp fr)) (t, chk t) pre).1)), .box o0 22 [.slice Ao (((foldS (clamp b) (max 0 (clamp fr)) (t, chk t) pre).1).length) co]] u0), dAg u0 h0, dAg d1 j0, dAg k1 i1] := p1
      exact ⟨_, _, 4, h1, rfl, _, _, (by rw [foldS_snoc, step_yes (by omega) (by omega)]; simp only [List.length_set]; (repeat' split) <;> first | rfl | (exfalso; omega))⟩
     ·
      have h1 := u1.setb (d := 55) (b := false) rfl (decide_eq_false o1)
      refine wpIn_cond_false (h1.ev rfl) ?_
      refine wpIn_seq_k (fun o1 u1 => ?_)
      refine ci_region (by kernel_rfl) (out_then (out_block (out_block out_rPost))) ?_
      refine mv h1 (fun o1 p1 => ?_)
      refine r_nilCheckE sv p1 rfl rfl rfl (own_nds (t := ((foldS (clamp b) (max 0 (clamp fr)) (t, chk t) pre).1).set (xi) (⟨(nth ((foldS (clamp b) (max 0 (clamp fr)) (t, chk t) pre).1) xi).K, (((nth ((foldS (clamp b) (max 0 (clamp fr)) (t, chk t) pre).1) xi).N) + (clamp (b))), (nth ((foldS (clamp b) (max 0 (clamp fr)) (t, chk t) pre).1) xi).M, (nth ((foldS (clamp b) (max 0 (clamp fr)) (t, chk t) pre).1) xi).S⟩ : Nd)) (k := xi) (t1.res (i := 3) rfl) (by omega)).some_ (by decide) (fun o1 h1 => ?_)
      refine m_fieldE (j' := xi * 4 + 1) sv h1 rfl rfl rfl (own_nds (t := ((foldS (clamp b) (max 0 (clamp fr)) (t, chk t) pre).1).set (xi) (⟨(nth ((foldS (clamp b) (max 0 (clamp fr)) (t, chk t) pre).1) xi).K, (((nth ((foldS (clamp b) (max 0 (clamp fr)) (t, chk t) pre).1) xi).N) + (clamp (b))), (nth ((foldS (clamp b) (max 0 (clamp fr)) (t, chk t) pre).1) xi).M, (nth ((foldS (clamp b) (max 0 (clamp fr)) (t, chk t) pre).1) xi).S⟩ : Nd)) (k := xi) (t1.res (i := 3) rfl) (by omega)).some_ Tryd.underlying39 rfl sz3 rfl rfl (by decide) (fun o1 p1 => ?_)
      refine m_loadE sv p1 rfl rfl rfl 1 (xi * 4) (own_nds (t := ((foldS (clamp b) (max 0 (clamp fr)) (t, chk t) pre).1).set (xi) (⟨(nth ((foldS (clamp b) (max 0 (clamp fr)) (t, chk t) pre).1) xi).K, (((nth ((foldS (clamp b) (max 0 (clamp fr)) (t, chk t) pre).1) xi).N) + (clamp (b))), (nth ((foldS (clamp b) (max 0 (clamp fr)) (t, chk t) pre).1) xi).M, (nth ((foldS (clamp b) (max 0 (clamp fr)) (t, chk t) pre).1) xi).S⟩ : Nd)) (k := xi) (t1.res (i := 3) rfl) (by omega)) rfl rfl Tryd.underlying3 rfl (by decide) (fun o1 h1 => ?_)
      refine r_gtr sv h1 rfl rfl rfl rfl (by decide) (fun o1 p1 => ?_)
      refine asg p1 (fun o1 h1 => ?_)
      refine wpList_nil (x_then_n (u1 _ _ ?_))
      rcases Decidable.em (99 < (((nth (((foldS (clamp b) (max 0 (clamp fr)) (t, chk t) pre).1).set (xi) (⟨(nth ((foldS (clamp b) (max 0 (clamp fr)) (t, chk t) pre).1) xi).K, (((nth ((foldS (clamp b) (max 0 (clamp fr)) (t, chk t) pre).1) xi).N) + (clamp (b))), (nth ((foldS (clamp b) (max 0 (clamp fr)) (t, chk t) pre).1) xi).M, (nth ((foldS (clamp b) (max 0 (clamp fr)) (t, chk t) pre).1) xi).S⟩ : Nd)) xi).N))) with u1 | u1
      ·
       have o1 := h1.setb (d := 64) (b := true) rfl (decide_eq_true u1)
       refine wpIn_cond_true (o1.ev rfl) ?_
       refine ci_region (by kernel_rfl) (out_block (out_block out_rPost)) ?_
       refine m_store (i := 2) (cs' := [.int .i64 2]) se o1 t1 rfl rfl rfl rfl rfl sz27 rfl rfl rfl (fun p1 n1 j1 q1 => ?_)
       refine wpList_nil ?_
       refine x_block_n ?_
       refine x_block_n ?_
       have j1 : St w0 Z none_ n1 [.box i0 3 [.int .i64 ((clamp (b)))], .box d0 3 [.int .i64 ((max 0 ((clamp (fr)))))], .box b0 27 [.int .i64 2], .row Ao ((((foldS (clamp b) (max 0 (clamp fr)) (t, chk t) pre).1).set (xi) (⟨(nth ((foldS (clamp b) (max 0 (clamp fr)) (t, chk t) pre).1) xi).K, (((nth ((foldS (clamp b) (max 0 (clamp fr)) (t, chk t) pre).1) xi).N) + (clamp (b))), (nth ((foldS (clamp b) (max 0 (clamp fr)) (t, chk t) pre).1) xi).M, (nth ((foldS (clamp b) (max 0 (clamp fr)) (t, chk t) pre).1) xi).S⟩ : Nd)).length) co 39 4 (encNs (((foldS (clamp b) (max 0 (clamp fr)) (t, chk t) pre).1).set (xi) (⟨(nth ((foldS (clamp b) (max 0 (clamp fr)) (t, chk t) pre).1) xi).K, (((nth ((foldS (clamp b) (max 0 (clamp fr)) (t, chk t) pre).1) xi).N) + (clamp (b))), (nth ((foldS (clamp b) (max 0 (clamp fr)) (t, chk t) pre).1) xi).M, (nth ((foldS (clamp b) (max 0 (clamp fr)) (t, chk t) pre).1) xi).S⟩ : Nd))), .box o0 22 [.slice Ao (((foldS (clamp b) (max 0 (clamp fr)) (t, chk t) pre).1).length) co]] [dShapes, dRow 4 tA t.length tc (encNs t), dAg c0 k0, dBox q0 [.slice tA t.length tc], dAg u0 (imm Z w0 [.box i0 3 [.int .i64 ((clamp (b)))], .box d0 3 [.int .i64 ((max 0 ((clamp (fr)))))], .box b0 27 [.int .i64 (((foldS (clamp b) (max 0 (clamp fr)) (t, chk t) pre).2))], .row Ao (((foldS (clamp b) (max 0 (clamp fr)) (t, chk t) pre).1).length) co 39 4 (encNs ((foldS (clamp b) (max 0 (clamp fr)) (t, chk t) pre).1)), .box o0 22 [.slice Ao (((foldS (clamp b) (max 0 (clamp fr)) (t, chk t) pre).1).length) co]] u0), dAg u0 h0, dAg d1 j0, dAg k1 i1] := q1
       exact ⟨_, _, 4, j1, rfl, _, _, (by rw [foldS_snoc, step_yes (by omega) (by omega)]; simp only [List.length_set]; (repeat' split) <;> first | rfl | (exfalso; omega))⟩
      ·
       have j1 := h1.setb (d := 64) (b := false) rfl (decide_eq_false u1)
       refine wpIn_cond_false (j1.ev rfl) ?_
       refine wpIn_skip ?_
       refine x_block_n ?_
       refine x_block_n ?_
       have j1 : St w0 Z none_ s1 [.box i0 3 [.int .i64 ((clamp (b)))], .box d0 3 [.int .i64 ((max 0 ((clamp (fr)))))], .box b0 27 [.int .i64 (((foldS (clamp b) (max 0 (clamp fr)) (t, chk t) pre).2))], .row Ao ((((foldS (clamp b) (max 0 (clamp fr)) (t, chk t) pre).1).set (xi) (⟨(nth ((foldS (clamp b) (max 0 (clamp fr)) (t, chk t) pre).1) xi).K, (((nth ((foldS (clamp b) (max 0 (clamp fr)) (t, chk t) pre).1) xi).N) + (clamp (b))), (nth ((foldS (clamp b) (max 0 (clamp fr)) (t, chk t) pre).1) xi).M, (nth ((foldS (clamp b) (max 0 (clamp fr)) (t, chk t) pre).1) xi).S⟩ : Nd)).length) co 39 4 (encNs (((foldS (clamp b) (max 0 (clamp fr)) (t, chk t) pre).1).set (xi) (⟨(nth ((foldS (clamp b) (max 0 (clamp fr)) (t, chk t) pre).1) xi).K, (((nth ((foldS (clamp b) (max 0 (clamp fr)) (t, chk t) pre).1) xi).N) + (clamp (b))), (nth ((foldS (clamp b) (max 0 (clamp fr)) (t, chk t) pre).1) xi).M, (nth ((foldS (clamp b) (max 0 (clamp fr)) (t, chk t) pre).1) xi).S⟩ : Nd))), .box o0 22 [.slice Ao (((foldS (clamp b) (max 0 (clamp fr)) (t, chk t) pre).1).length) co]] [dShapes, dRow 4 tA t.length tc (encNs t), dAg c0 k0, dBox q0 [.slice tA t.length tc], dAg u0 (imm Z w0 [.box i0 3 [.int .i64 ((clamp (b)))], .box d0 3 [.int .i64 ((max 0 ((clamp (fr)))))], .box b0 27 [.int .i64 (((foldS (clamp b) (max 0 (clamp fr)) (t, chk t) pre).2))], .row Ao (((foldS (clamp b) (max 0 (clamp fr)) (t, chk t) pre).1).length) co 39 4 (encNs ((foldS (clamp b) (max 0 (clamp fr)) (t, chk t) pre).1)), .box o0 22 [.slice Ao (((foldS (clamp b) (max 0 (clamp fr)) (t, chk t) pre).1).length) co]] u0), dAg u0 h0, dAg d1 j0, dAg k1 i1] := t1
       exact ⟨_, _, 4, j1, rfl, _, _, (by rw [foldS_snoc, step_yes (by omega) (by omega)]; simp only [List.length_set]; (repeat' split) <;> first | rfl | (exfalso; omega))⟩
   ·
    have j1 := z0.setb (d := 37) (b := true) rfl (by rw [(decide_eq_false b1)]; rfl)
    refine dp 6 rfl x0 j1 (wff j1) t0 (fun b1 z0 => ?_)
    refine dp 7 rfl x0 z0 (wff z0) t0 (fun b1 j1 => ?_)
    refine dp 8 rfl x0 j1 (wff j1) t0 (fun b1 z0 => ?_)
    refine dp 9 rfl x0 z0 (wff z0) t0 (fun b1 j1 => ?_)
    refine dp 10 rfl x0 j1 (wff j1) t0 (fun b1 z0 => ?_)
    refine dp 11 rfl x0 z0 (wff z0) t0 (fun b1 j1 => ?_)
    refine dp 12 rfl x0 j1 (wff j1) t0 (fun b1 z0 => ?_)
    refine dp 13 rfl x0 z0 (wff z0) t0 (fun b1 j1 => ?_)
    refine dt 14 rfl x0 j1 (want_n rfl) (fun x hx => r_pick_t (sy j1) j1 rfl rfl rfl rfl (by decide) gt) t0 (fun b1 z0 => ?_)
    refine wpAnyH_done (by kernel_rfl) (c1 _ _ ?_) _
    refine x_then_n (v0 _ _ ?_)
    refine wpIn_cond_true (z0.ev rfl) ?_
    refine wpIn_exit ?_
    refine x_then_e ?_
    refine x_block_eq ?_
    have z0 : St w0 Z none_ d1 [.box i0 3 [.int .i64 ((clamp (b)))], .box d0 3 [.int .i64 ((max 0 ((clamp (fr)))))], .box b0 27 [.int .i64 (((foldS (clamp b) (max 0 (clamp fr)) (t, chk t) pre).2))], .row Ao (((foldS (clamp b) (max 0 (clamp fr)) (t, chk t) pre).1).length) co 39 4 (encNs ((foldS (clamp b) (max 0 (clamp fr)) (t, chk t) pre).1)), .box o0 22 [.slice Ao (((foldS (clamp b) (max 0 (clamp fr)) (t, chk t) pre).1).length) co]] [dShapes, dRow 4 tA t.length tc (encNs t), dAg c0 k0, dBox q0 [.slice tA t.length tc], dAg u0 (imm Z w0 [.box i0 3 [.int .i64 ((clamp (b)))], .box d0 3 [.int .i64 ((max 0 ((clamp (fr)))))], .box b0 27 [.int .i64 (((foldS (clamp b) (max 0 (clamp fr)) (t, chk t) pre).2))], .row Ao (((foldS (clamp b) (max 0 (clamp fr)) (t, chk t) pre).1).length) co 39 4 (encNs ((foldS (clamp b) (max 0 (clamp fr)) (t, chk t) pre).1)), .box o0 22 [.slice Ao (((foldS (clamp b) (max 0 (clamp fr)) (t, chk t) pre).1).length) co]] u0), dAg u0 h0] := f1
    exact ⟨_, _, 4, z0, rfl, _, _, (by rw [foldS_snoc, step_no (by omega)])⟩
  ·
   rintro z0 m1 f1 ⟨Ao, co, rfl⟩ d1
   have h0 := Reg.marked y0 z0
   refine x_block_n ?_
   refine x_then_n (p0 _ _ ?_)
   refine wp_seq_k (fun p0 y0 => ?_)
   refine wsc (fun p0 u0 => ?_)
   refine m_load (i := 2) sv h0 d1 rfl rfl rfl rfl rfl Tryd.underlying27 rfl (by decide) (fun p0 v0 => ?_)
   refine r_neq sv v0 rfl rfl rfl rfl (by decide) (fun p0 h0 => ?_)
   refine wpList_nil (x_then_n (u0 _ _ ?_))
   rcases Decidable.em (((((foldS (clamp b) (max 0 (clamp fr)) (t, chk t) (nodesL t)).2))) = 0) with u0 | u0
   ·
    have p0 := h0.setb (d := 71) (b := false) rfl (by rw [(decide_eq_true u0)]; rfl)
    refine wp_cond_false (p0.ev rfl) ?_
    refine wp_skip ?_
    refine x_then_n (y0 _ _ ?_)
    refine wsc (fun y0 v0 => ?_)
    refine m_load (i := 4) sv p0 d1 rfl rfl rfl rfl rfl Tryd.underlying22 rfl (by decide) (fun y0 c1 => ?_)
    refine asg c1 (fun y0 p0 => ?_)
    refine asg p0 (fun y0 c1 => ?_)
    refine wpList_nil (x_then_n (v0 _ _ ?_))
    refine wp_ret ?_
    have v0 : St w0 Z none_ f1 [.box i0 3 [.int .i64 ((clamp (b)))], .box d0 3 [.int .i64 ((max 0 ((clamp (fr)))))], .box b0 27 [.int .i64 ((((foldS (clamp b) (max 0 (clamp fr)) (t, chk t) (nodesL t)).2)))], .row Ao (((foldS (clamp b) (max 0 (clamp fr)) (t, chk t) (nodesL t)).1).length) co 39 4 (encNs ((foldS (clamp b) (max 0 (clamp fr)) (t, chk t) (nodesL t)).1)), .box o0 22 [.slice Ao (((foldS (clamp b) (max 0 (clamp fr)) (t, chk t) (nodesL t)).1).length) co]] [dShapes, dRow 4 tA t.length tc (encNs t), dAg c0 k0, dBox q0 [.slice tA t.length tc], dMark w0.heap.size z0] := d1
    obtain ⟨y0, p0⟩ := v0.shut (i := 4) rfl [] (fun _ h => by cases h)
    refine m_mark (.inl rfl) c1 rfl y0 (res2 c1 rfl rfl rfl _) ?_
    have y0 : sfA t b fr = (foldS (clamp b) (max 0 (clamp fr)) (t, chk t) (nodesL t)).1 := (sfE_prog hc).2 (by rw [(sfE_prog hc).1]; assumption)
    rw [y0]
    refine ⟨Ao, co, ?_, p0.fr, (p0.res (i := 3) rfl), (p0.fresh (i := 3) rfl)⟩
    exact ret_t2 rfl (ret_i (by first | exact (sfE_prog hc).1.symm | (rw [(sfE_prog hc).1]; symm; assumption)))
   ·
    have p0 := h0.setb (d := 71) (b := true) rfl (by rw [(decide_eq_false u0)]; rfl)
    refine wp_cond_true (p0.ev rfl) ?_
    refine wp_seq_k (fun u0 h0 => ?_)
    obtain ⟨u0, y0, c1⟩ := d1.agree
    refine d_reg3 (n := 3) c1 5 (pc 2 0 pn) (pan_then (pan_then pan_bodyM)) (fun y0 d1 v0 b1 j1 t0 => ?_)
    refine dtC 0 0 d1 p0 t0 Tryd.underlying27 (fun y0 c1 => ?_)
    refine dtA 1 d1 c1 t0 (fun y0 p0 => ?_)
    refine dtA 2 d1 p0 t0 (fun y0 c1 => ?_)
    refine wpAnyH_done (by kernel_rfl) (v0 _ _ ?_) _
    refine x_then_n (h0 _ _ ?_)
    refine wp_ret ?_
    refine x_then_r ?_
    have h0 : St w0 Z none_ b1 [.box i0 3 [.int .i64 ((clamp (b)))], .box d0 3 [.int .i64 ((max 0 ((clamp (fr)))))], .box b0 27 [.int .i64 ((((foldS (clamp b) (max 0 (clamp fr)) (t, chk t) (nodesL t)).2)))], .row Ao (((foldS (clamp b) (max 0 (clamp fr)) (t, chk t) (nodesL t)).1).length) co 39 4 (encNs ((foldS (clamp b) (max 0 (clamp fr)) (t, chk t) (nodesL t)).1)), .box o0 22 [.slice Ao (((foldS (clamp b) (max 0 (clamp fr)) (t, chk t) (nodesL t)).1).length) co]] [dShapes, dRow 4 tA t.length tc (encNs t), dAg c0 k0, dBox q0 [.slice tA t.length tc], dMark w0.heap.size z0, dAg f1 u0] := j1
    obtain ⟨j1, b1⟩ := h0.shut (i := 4) rfl [] (fun _ h => by cases h)
    refine m_mark (.inl rfl) c1 rfl j1 (res2 c1 rfl rfl rfl _) ?_
    have j1 : sfA t b fr = [] := sf_bad (by rw [(sfE_prog hc).1]; assumption)
    rw [j1]
    refine ⟨none, 0, ?_, b1.fr, nil_row1, nil_row2⟩
    exact ret_t2 rfl (ret_i (by first | exact (sfE_prog hc).1.symm | (rw [(sfE_prog hc).1]; symm; assumption)))
  ·
   rintro _ _ _ _ _ _ h _
   exact h.elim
 ·
  have b1 := f0.setb (d := 16) (b := true) rfl (by rw [(decide_eq_false n0)]; rfl)
  refine wp_cond_true (b1.ev rfl) ?_
  refine wp_seq_k (fun n0 f0 => ?_)
  obtain ⟨n0, j1, c1⟩ := m0.agree
  refine d_reg3 (n := 3) c1 2 (pc 2 0 pn) (pan_then (pan_then pan_bodyM)) (fun j1 n0 m0 h0 u0 f1 => ?_)
  refine dtC 0 0 n0 b1 f1 Tryd.underlying27 (fun h0 j1 => ?_)
  refine dtA 1 n0 j1 f1 (fun h0 b1 => ?_)
  refine dtA 2 n0 b1 f1 (fun h0 j1 => ?_)
  refine wpAnyH_done (by kernel_rfl) (m0 _ _ ?_) _
  refine x_then_n (f0 _ _ ?_)
  refine wp_ret ?_
  refine x_then_r ?_
  refine m_none (.inl rfl) j1 rfl (res2 j1 rfl rfl rfl _) ?_
  have j1 : sfA t b fr = [] := (sfE_no (by assumption)).2
  rw [j1]
  refine ⟨none, 0, ?_, u0.fr, nil_row1, nil_row2⟩
  exact ret_t2 rfl (ret_i (by exact (sfE_no (by assumption)).1.symm))
end Go.Proofs.YtcfponnkfhkbdaaDoor
/- Contracts of functions, one theorem each: what the call returns, and that nothing old is changed. Printed by gen.py. -/
namespace Go.Proofs.YtcfponnkfhkbdaaDoor
open Go Go.RowKit
set_option linter.unusedSimpArgs false
set_option linter.unusedVariables false
set_option maxRecDepth 100000 in
set_option maxHeartbeats 1000000 in
theorem backwardMk_calls (w0 : World) (Z : Nat → Prop) (hZ : ∀ k, Z k → k < w0.heap.size) (tA : Option Addr) (tc : Nat) (t : List Nd) (ht : (dRow 4 tA t.length tc (encNs t)).φ w0 Z) (hl : t.length ≤ 1000000 := by first | assumption | omega | (simp; done) | (simp; omega)) :
    Calls Tryd.prog 132 [.slice tA t.length tc].toArray w0 (fun e w' => ∃ q0 : Nat, e = .returned (.func (.func 136) #[] #[.pointer (some ⟨q0, 0, none⟩)]) ∧ Fr none_ w0 w' ∧ (Res.box q0 22 [.slice tA t.length tc]).holds w' ∧ (∀ k, (Res.box q0 22 [.slice tA t.length tc]).blk = some k → w0.heap.size ≤ k)) := by
 have b0 := s0 (M := none_) hZ (zc ht zn)
 refine c_enter Tryd.func132 rfl Tryd.ntmps132 rfl (fun c0 d0 => ?_)
 refine wsc (fun c0 f0 => ?_)
 refine m_box (cs := [.slice tA t.length tc]) sv d0 b0 rfl rfl rfl rfl (by decide) (fun c0 h0 i0 j0 k0 => ?_)
 refine asg j0 (fun h0 c0 => ?_)
 refine wpList_nil (x_then_n (f0 _ _ ?_))
 refine wsc (fun f0 h0 => ?_)
 refine r_makeFunc sv c0 rfl rfl rfl (by decide) (fun f0 j0 => ?_)
 refine asg j0 (fun f0 c0 => ?_)
 refine wpList_nil (x_then_n (h0 _ _ ?_))
 refine wp_ret ?_
 refine e_ret1 c0 rfl rfl rfl ?_
 refine ⟨i0, ?_, k0.fr, (k0.res (i := 0) rfl), (k0.fresh (i := 0) rfl)⟩
 exact congrArg Ending.returned rfl
end Go.Proofs.YtcfponnkfhkbdaaDoor
/- Contracts of functions, one theorem each: what the call returns, and that nothing old is changed. Printed by gen.py. -/
namespace Go.Proofs.YtcfponnkfhkbdaaDoor
open Go Go.RowKit
set_option linter.unusedSimpArgs false
set_option linter.unusedVariables false
set_option maxRecDepth 100000 in
set_option maxHeartbeats 1000000 in
theorem snodes_yields (w0 : World) (Z : Nat → Prop) (tg : Nat) (tA : Option Addr) (tc : Nat) (t : List Nd) (hShp : Shapes w0 Z) (ht : (dRow 4 tA t.length tc (encNs t)).φ w0 Z) (htb : (dBox tg [.slice tA t.length tc]).φ w0 Z) (hl : t.length ≤ 1000000) (hsm : sml t) (hc : chk t = 0) :
    Yields Tryd.prog 131 [.pointer (some ⟨tg, 0, none⟩)].toArray (fun x : Nd × Int => #[.agg (encN x.1).toArray, .int .i64 x.2]) (nodesN t) Z w0 := by
 refine yields_ofM Tryd.func131 rfl Tryd.ntmps131 rfl [dShapes, dRow 4 tA t.length tc (encNs t), dBox tg [.slice tA t.length tc]] (by
  intro d hd
  simp only [List.mem_cons, List.not_mem_nil, or_false] at hd
  rcases hd with rfl | rfl | rfl
  · exact hShp
  · exact ht
  · exact htb
  ) (fun lp jf jx w0 C0 M0 hY hds b0 c0 d0 => ?_)
 refine wsc (fun b0 f0 => ?_)
 refine m_box (cs := [.func (.yield lp) #[] #[]]) sv c0 d0 rfl rfl rfl rfl (by decide) (fun b0 h0 i0 j0 k0 => ?_)
 refine wpList_nil (x_then_n (f0 _ _ ?_))
 refine wsc (fun f0 h0 => ?_)
 refine mbs [(0, .const (.int .i64 0))] [.int .i64 0] sv j0 k0 Tryd.underlying79 zi3 (fun f0 b0 d0 c0 m0 => ?_)
 refine m_alloc (cs := [.slice none 0 0]) sv c0 m0 rfl rfl ze79 rfl (by decide) (fun b0 f0 k0 j0 n0 => ?_)
 refine m_store (i := 2) (cs' := [.slice (some ⟨d0, 0, none⟩) 1 1]) se j0 n0 rfl rfl rfl rfl rfl sz79 rfl rfl rfl (fun f0 b0 m0 c0 => ?_)
 refine wpList_nil (x_then_n (h0 _ _ ?_))
 refine wsc (fun h0 b0 => ?_)
 refine m_loadC sv m0 rfl rfl rfl (dbox_cell (c0.get (i := 3) rfl) rfl) Tryd.underlying22 rfl (by decide) (fun h0 f0 => ?_)
 have h0 := c0.nf
 refine k_call (xs := [.tmp 12]) se f0 rfl rfl rfl (by decide) ok132 (backwardMk_calls _ _ h0.il _ _ _ (h0.g 2)) ?_
 rintro f0 c0 ⟨m0, rfl, n0, j0, o0⟩
 have c0 := h0.callO n0 j0 o0
 refine ⟨_, rfl, fun o0 j0 => ?_⟩
 refine wpList_nil (x_then_n (b0 _ _ ?_))
 refine wp_block ?_
 have b0 := c0.nf
 have c0 : Reg o0 50 [(1000000, .bool false), (2, .pointer (some ⟨i0, 0, none⟩)), (3, .pointer (some ⟨k0, 0, none⟩)), (13, .func (.func 136) #[] #[.pointer (some ⟨m0, 0, none⟩)])] := (j0.sub (rc rfl (rc rfl (rc rfl (rc rfl rnl)))))
 refine w_rangeP (jx := jx) (xs := bwL t) (encs := (fun x : Int × Nd => #[.int .i64 x.1, .agg (encN x.2).toArray])) (i := 0) (ds0 := [dShapes, dRow 4 tA t.length tc (encNs t), dBox tg [.slice tA t.length tc]]) (c0.ev rfl) ok136 (backward_pure m0 tA tc t (by omega)) (fun _ => rfl) b0 rfl hY.zd hds (fun (pre : List (Int × Nd)) (sb : List (Nd × Int)) (mm : List Res) => ∃ k : Nat, ∃ Ts : List T, ∃ us : List Int, ∃ Ao : Option Addr, ∃ co : Nat, mm = [.box i0 145 [.func (.yield lp) #[] #[]], .row Ao ((us).length) co 3 1 (encIs us), .box k0 79 [.slice Ao ((us).length) co], .box m0 22 [.slice tA t.length tc]] ∧ sb = (nodesN t).take k ∧ pre = (bwL t).take k ∧ (k ≤ t.length) ∧ (VInv t k Ts us)) (fun cc (sb : List (Nd × Int)) (mm : List Res) => cc = Code.ret ∧ sb <+: nodesN t) ⟨0, [treeOf t], [0], (some ⟨d0, 0, none⟩), 1, rfl, rfl, rfl, by omega, VInv.zero hc⟩ ?_ ?_ ?_ ?_
 ·
  rintro _ _ _ W ⟨k, Ts, us, Ao, co, rfl, rfl, rfl, hk, hv⟩ hm hd
  exact ⟨box_cell (hm _ (List.mem_of_getElem? (i := 3) rfl)) rfl, fun k hk => nds_elem (hd _ (List.mem_of_getElem? (i := 1) rfl)).2 hk⟩
 ·
  rintro b0 d0 j0 pre x sb o0 m1 hp ⟨k, Ts, us, Ao, co, rfl, rfl, rfl, hk, hv⟩ n0
  obtain ⟨hkl, rfl, hbs⟩ := bwL_next hk hp
  obtain ⟨hvr, hu0, hul, hub, hpre, Ts', hv'⟩ := hv.step hkl
  have hpn := nodesN_step (n := t.length - (k + 1)) hpre (by omega)
  refine (?_ : ∀ j0, Reg j0 50 [(15, .agg #[.int .i64 (((nth t (t.length - (k + 1))).K)), .int .i64 (((nth t (t.length - (k + 1))).N)), .int .i64 (((nth t (t.length - (k + 1))).M)), .string ((nth t (t.length - (k + 1))).S)]), (14, .int .i64 ((t.length - (k + 1) : Nat) : Int)), (1000000, .bool false), (2, .pointer (some ⟨i0, 0, none⟩)), (3, .pointer (some ⟨k0, 0, none⟩)), (13, .func (.func 136) #[] #[.pointer (some ⟨m0, 0, none⟩)])] → Code.wpIn (rI b0) 0 _ _ _ j0 o0) _ (Reg.round2n c0 (by decide) (by decide) rfl)
  intro j0 o0
  refine ci_region (by kernel_rfl) (out_then (fun _ _ h => h)) ?_
  refine m_alloc (cs := [.int .i64 0, .int .i64 0, .int .i64 0, .string (⟨#[]⟩ : ByteArray)]) sv o0 n0 rfl rfl ze39 rfl (by decide) (fun j0 h0 f0 p0 q0 => ?_)
  refine m_store (i := 4) (cs' := [.int .i64 (((nth t (t.length - (k + 1))).K)), .int .i64 (((nth t (t.length - (k + 1))).N)), .int .i64 (((nth t (t.length - (k + 1))).M)), .string ((nth t (t.length - (k + 1))).S)]) se p0 q0 rfl rfl rfl rfl rfl sz39 rfl rfl rfl (fun h0 j0 o0 n0 => ?_)
  refine wpList_nil ?_
  have j0 := n0.nf
  refine x_then_n ⟨_, _, j0, fun n0 h0 q0 => ?_⟩
  refine wpIn_block ?_
  refine wpIn_seq_k (fun h0 j0 => ?_)
  refine ci_region (by kernel_rfl) (out_then (out_block out_rPostP)) ?_
  refine m_load (i := 2) sv o0 q0 rfl rfl rfl rfl rfl Tryd.underlying79 rfl (by decide) (fun h0 p0 => ?_)
  refine m_load (i := 2) sv p0 q0 rfl rfl rfl rfl rfl Tryd.underlying79 rfl (by decide) (fun h0 o0 => ?_)
  refine r_len sv o0 rfl rfl rfl rfl Tryd.underlying79 (by decide) (fun h0 p0 => ?_)
  refine r_sub (z := ((((us).length : Nat) : Int) - 1)) sv p0 rfl rfl rfl rfl (by decide) (by omega) (by omega) (by omega) (fun h0 o0 => ?_)
  refine m_index (i := ((us).length) - (1)) (j := (((us).length) - (1)) * 1) sv o0 rfl rfl rfl rfl Tryd.underlying79 sz3 (by omega) (by omega) (own_ints (t := us) (k := ((us).length) - (1)) (q0.res (i := 1) rfl) (by omega)).some_ rfl (by decide) (fun h0 p0 => ?_)
  refine m_loadE sv p0 rfl rfl rfl 0 ((((us).length) - (1)) * 1) (own_ints (t := us) (k := ((us).length) - (1)) (q0.res (i := 1) rfl) (by omega)) rfl rfl Tryd.underlying3 rfl (by decide) (fun h0 o0 => ?_)
  refine asg o0 (fun h0 p0 => ?_)
  refine wpList_nil (x_then_n (j0 _ _ ?_))
  refine wpIn_seq_k (fun j0 h0 => ?_)
  refine ci_region (by kernel_rfl) (out_then (out_block out_rPostP)) ?_
  refine m_load (i := 2) sv p0 q0 rfl rfl rfl rfl rfl Tryd.underlying79 rfl (by decide) (fun j0 o0 => ?_)
  refine m_load (i := 2) sv o0 q0 rfl rfl rfl rfl rfl Tryd.underlying79 rfl (by decide) (fun j0 p0 => ?_)
  refine r_len sv p0 rfl rfl rfl rfl Tryd.underlying79 (by decide) (fun j0 o0 => ?_)
  refine r_sub (z := ((((us).length : Nat) : Int) - 1)) sv o0 rfl rfl rfl rfl (by decide) (by omega) (by omega) (by omega) (fun j0 p0 => ?_)
  have j0 := own_cap (q0.res (i := 1) rfl)
  refine m_sliceP (q := ((us).length) - (1)) sv p0 rfl rfl rfl rfl (by omega) Tryd.underlying79 sz3 (by omega) (by decide) (fun j0 o0 => ?_)
  have j0 := q0.trim encI_len (i := 1) (L := us) rfl (((us).length) - (1)) (by omega)
  have q0 := Reg.cons o0 o0 (rs (i := 26) (n' := ((us).take (((us).length) - (1))).length) rfl (by rw [List.length_take]; omega))
  refine m_store (i := 2) (cs' := [.slice Ao (((us).take (((us).length) - (1))).length) co]) se q0 j0 rfl rfl rfl rfl rfl sz79 rfl rfl rfl (fun o0 p0 s0 t0 => ?_)
  refine wpList_nil (x_then_n (h0 _ _ ?_))
  refine wpIn_seq_k (fun h0 p0 => ?_)
  refine wpIn_seq_k (fun h0 o0 => ?_)
  refine cyi_region ?_
  refine m_load (i := 0) (st_listInV rfl rfl) s0 t0 rfl rfl rfl rfl rfl Tryd.underlying145 rfl (by decide) (fun h0 q0 => ?_)
  refine m_loadN (i := 4) (vs := [.int .i64 (((nth t (t.length - (k + 1))).K)), .int .i64 (((nth t (t.length - (k + 1))).N)), .int .i64 (((nth t (t.length - (k + 1))).M)), .string ((nth t (t.length - (k + 1))).S)]) (st_listInV rfl rfl) q0 t0 rfl rfl rfl rfl rfl Tryd.underlying39 rfl sz39 (by decide) (fun h0 s0 => ?_)
  refine r_move (st_listInV rfl rfl) s0 rfl rfl rfl (by decide) (fun h0 q0 => ?_)
  have h0 := t0.nf
  refine y_callX (t := .tmp 27) (xs := [.tmp 28, .tmp 29]) (pre := (nodesN t).take k) (i := 0) (ds0 := [dShapes, dRow 4 tA t.length tc (encNs t), dBox tg [.slice tA t.length tc]]) hY rfl q0 h0 rfl rfl rfl rfl (by decide) ((((nth t (t.length - (k + 1))), ((nthI us (((us).length) - (1))))) : Nd × Int)) rfl rfl (nodesN_pre hpn) hds (fun t0 s0 j0 u0 => ?_) (fun t0 s0 j0 u0 => ?_)
  ·
   refine r_not (st_listInV rfl rfl) j0 rfl rfl rfl (by decide) (fun s0 t0 => ?_)
   refine li_nil ?_
   refine x_then_n (o0 _ _ ?_)
   refine wpIn_cond_false (t0.ev rfl) ?_
   refine wpIn_skip ?_
   refine x_then_n (p0 _ _ ?_)
   refine wpIn_seq_k (fun p0 s0 => ?_)
   refine ci_region (by kernel_rfl) (out_then (out_block out_rPostP)) ?_
   refine m_loadN (i := 4) (vs := [.int .i64 (((nth t (t.length - (k + 1))).K)), .int .i64 (((nth t (t.length - (k + 1))).N)), .int .i64 (((nth t (t.length - (k + 1))).M)), .string ((nth t (t.length - (k + 1))).S)]) sv t0 u0 rfl rfl rfl rfl rfl Tryd.underlying39 rfl sz39 (by decide) (fun p0 h0 => ?_)
   have p0 := u0.nf
   refine k_call (xs := [.tmp 33]) se h0 rfl rfl rfl (by decide) ok129 (binds_calls _ _ p0.il (nth t (t.length - (k + 1))) (p0.g 1) (hs := (hsm _ (by omega)))) ?_
   rintro h0 t0 ⟨q0, v0, rfl, x0, y0⟩
   have t0 := p0.below x0.below
   have x0 := p0.dN t0 y0
   refine ⟨_, rfl, fun t0 y0 => ?_⟩
   refine mv y0 (fun t0 p0 => ?_)
   refine r_extract sv p0 rfl rfl rfl rfl (by decide) (fun t0 y0 => ?_)
   refine r_extract sv y0 rfl rfl rfl rfl (by decide) (fun t0 p0 => ?_)
   refine asg p0 (fun t0 y0 => ?_)
   refine asg y0 (fun t0 p0 => ?_)
   refine wpList_nil (x_then_n (s0 _ _ ?_))
   refine wpIn_seq_k (fun s0 t0 => ?_)
   refine ci_region (by kernel_rfl) (out_then (out_block out_rPostP)) ?_
   refine mv p0 (fun s0 y0 => ?_)
   refine r_len sv y0 rfl rfl rfl rfl Tryd.underlying79 (by decide) (fun s0 p0 => ?_)
   refine mv p0 (fun s0 y0 => ?_)
   refine wpList_nil (x_then_n (t0 _ _ ?_))
   refine wpIn_block ?_
   have t0 : (us).take (((us).length) - (1)) = us.take (us.length - 1) ++ ((bindsR (nth t (t.length - (k + 1)))).take 0).map (nthI us (us.length - 1) + ·) := by simp
   have s0 := x0
   try simp only [List.set_cons_zero, List.set_cons_succ, List.set_nil] at s0
   rw [t0] at s0
   refine wpIn_loop_ghost (fun gn ga gw => ∃ j : Nat, ∃ Al : Option Addr, ∃ cl : Nat, (Reg ga 50 [(3, .pointer (some ⟨k0, 0, none⟩)), (1000000, .bool false), (6, .int .i64 ((nthI us (((us).length) - (1))))), (37, .slice q0 ((bindsR (nth t (t.length - (k + 1)))).length) v0), (38, .int .i64 (((bindsR (nth t (t.length - (k + 1)))).length : Nat) : Int)), (39, .int .i64 ((j : Nat) : Int))]) ∧ (St w0 (oldB w0) M0 gw [.box i0 145 [.func (.yield lp) #[] #[]], .row Al ((us.take (us.length - 1) ++ ((bindsR (nth t (t.length - (k + 1)))).take j).map (nthI us (us.length - 1) + ·)).length) cl 3 1 (encIs (us.take (us.length - 1) ++ ((bindsR (nth t (t.length - (k + 1)))).take j).map (nthI us (us.length - 1) + ·))), .box k0 79 [.slice Al ((us.take (us.length - 1) ++ ((bindsR (nth t (t.length - (k + 1)))).take j).map (nthI us (us.length - 1) + ·)).length) cl], .box m0 22 [.slice tA t.length tc], .box f0 39 [.int .i64 (((nth t (t.length - (k + 1))).K)), .int .i64 (((nth t (t.length - (k + 1))).N)), .int .i64 (((nth t (t.length - (k + 1))).M)), .string ((nth t (t.length - (k + 1))).S)]] [dJX jf ((nodesN t).take k ++ [((((nth t (t.length - (k + 1))), ((nthI us (((us).length) - (1))))) : Nd × Int))]) C0 M0 w0.heap.size b0 d0 n0, dShapes, dRow 4 tA t.length tc (encNs t), dBox tg [.slice tA t.length tc], dRow 1 q0 ((bindsR (nth t (t.length - (k + 1)))).length) v0 (encIs (bindsR (nth t (t.length - (k + 1)))))]) ∧ (j ≤ (bindsR (nth t (t.length - (k + 1)))).length) ∧ ((bindsR (nth t (t.length - (k + 1)))).length - j) = gn) _ ⟨0, Ao, co, (y0.sub (rc rfl (rc rfl (rc rfl (rc rfl (rc rfl (rc rfl rnl))))))), s0, by omega, rfl⟩ ?_
   rintro s0 y0 v0 ⟨j, Al, cl, q0, n0, hj, f0⟩
   have hbl := bindsR_le (nth t (t.length - (k + 1)))
   have hbj := bindsR_nth (n := nth t (t.length - (k + 1))) j
   have hjl : (us.take (us.length - 1) ++ ((bindsR (nth t (t.length - (k + 1)))).take j).map (nthI us (us.length - 1) + ·)).length ≤ t.length + 8 := by have := bindsR_le (nth t (t.length - (k + 1))); rw [List.length_append, List.length_take, List.length_map, List.length_take]; omega
   refine wpIn_seq_k (fun f0 v0 => ?_)
   refine ci_region (by kernel_rfl) (out_then (out_then (out_block (out_block out_rPostP)))) ?_
   refine r_lss sv q0 rfl rfl rfl rfl (by decide) (fun f0 y0 => ?_)
   refine wpList_nil (x_then_n (v0 _ _ ?_))
   refine wpIn_seq_k (fun v0 f0 => ?_)
   rcases Decidable.em (((j : Nat) : Int) < (((bindsR (nth t (t.length - (k + 1)))).length : Nat) : Int)) with v0 | v0
   ·
    have q0 := y0.setb (d := 40) (b := true) rfl (decide_eq_true v0)
    refine wpIn_cond_true (q0.ev rfl) ?_
    refine wpIn_skip ?_
    refine x_then_n (f0 _ _ ?_)
    refine wpIn_seq_k (fun f0 s0 => ?_)
    refine wpIn_block ?_
    refine wpIn_seq_k (fun f0 d0 => ?_)
    refine ci_region (by kernel_rfl) (out_then (out_block (out_then (out_then (out_block (out_block out_rPostP)))))) ?_
    refine m_index (i := j) (j := j * 1) sv q0 rfl rfl rfl rfl Tryd.underlying79 sz3 (by omega) (by omega) (ints_elem (t := bindsR (nth t (t.length - (k + 1)))) (k := j) (n0.row (i := 4) rfl).2 (by omega)).some_ rfl (by decide) (fun f0 b0 => ?_)
    refine m_loadE sv b0 rfl rfl rfl 0 (j * 1) (ints_elem (t := bindsR (nth t (t.length - (k + 1)))) (k := j) (n0.row (i := 4) rfl).2 (by omega)) rfl rfl Tryd.underlying3 rfl (by decide) (fun f0 q0 => ?_)
    refine asg q0 (fun f0 b0 => ?_)
    refine wpList_nil (x_then_n (d0 _ _ ?_))
    refine ci_region (by kernel_rfl) (out_block (out_then (out_then (out_block (out_block out_rPostP))))) ?_
    refine m_load (i := 2) sv b0 n0 rfl rfl rfl rfl rfl Tryd.underlying79 rfl (by decide) (fun d0 f0 => ?_)
    refine mv f0 (fun d0 b0 => ?_)
    refine mv b0 (fun d0 f0 => ?_)
    refine r_add (z := ((nthI us (((us).length) - (1))) + (nthI (bindsR (nth t (t.length - (k + 1)))) j))) sv f0 rfl rfl rfl rfl (by decide) (by omega) (by omega) (by omega) (fun d0 b0 => ?_)
    refine mbs [(0, .tmp 46)] [.int .i64 ((nthI us (((us).length) - (1))) + (nthI (bindsR (nth t (t.length - (k + 1)))) j))] sv b0 n0 Tryd.underlying79 zi3 (fun d0 f0 q0 m0 k0 => ?_)
    refine m_appendF (f := encI) (i := 1) (us.take (us.length - 1) ++ ((bindsR (nth t (t.length - (k + 1)))).take j).map (nthI us (us.length - 1) + ·)) ([((nthI us (((us).length) - (1))) + (nthI (bindsR (nth t (t.length - (k + 1)))) j))]) sv m0 k0 rfl rfl rfl rfl rfl encI_len (encI_one _) Tryd.underlying79 zi3 rfl rfl (own_lnews (f := encI) (k0.res (i := 5) rfl)) rfl (by first | omega | (simp only [List.length_cons, List.length_nil]; omega)) (by decide) (fun q0 f0 d0 b0 i0 t0 x0 => ?_)
    have i0 : ((us.take (us.length - 1) ++ ((bindsR (nth t (t.length - (k + 1)))).take j).map (nthI us (us.length - 1) + ·)) ++ ([((nthI us (((us).length) - (1))) + (nthI (bindsR (nth t (t.length - (k + 1)))) j))]) : List Int).length = (us.take (us.length - 1) ++ ((bindsR (nth t (t.length - (k + 1)))).take j).map (nthI us (us.length - 1) + ·)).length + 1 := by (simp only [List.length_append, List.length_take, List.length_cons, List.length_nil]; done)
    have i0 := x0.erase 5
    refine m_store (i := 2) (cs' := [.slice d0 (((us.take (us.length - 1) ++ ((bindsR (nth t (t.length - (k + 1)))).take j).map (nthI us (us.length - 1) + ·)) ++ ([((nthI us (((us).length) - (1))) + (nthI (bindsR (nth t (t.length - (k + 1)))) j))]) : List Int).length) b0]) se t0 i0 rfl rfl rfl rfl rfl sz79 rfl rfl rfl (fun x0 f0 q0 k0 => ?_)
    refine wpList_nil ?_
    refine x_block_n ?_
    refine x_then_n (s0 _ _ ?_)
    refine ci_region (by kernel_rfl) (out_then (out_block (out_block out_rPostP))) ?_
    refine r_add (z := ((j + 1 : Nat) : Int)) sv q0 rfl rfl rfl rfl (by decide) (by omega) (by omega) (by omega) (fun s0 f0 => ?_)
    refine mv f0 (fun s0 q0 => ?_)
    refine wpList_nil ?_
    have s0 : (us.take (us.length - 1) ++ ((bindsR (nth t (t.length - (k + 1)))).take j).map (nthI us (us.length - 1) + ·)) ++ ([((nthI us (((us).length) - (1))) + (nthI (bindsR (nth t (t.length - (k + 1)))) j))]) = us.take (us.length - 1) ++ ((bindsR (nth t (t.length - (k + 1)))).take (j + 1)).map (nthI us (us.length - 1) + ·) := by rw [map_step (by omega), ← List.append_assoc]
    have f0 := k0
    rw [s0] at f0
    exact ⟨_, by omega, j + 1, d0, b0, (q0.sub (rc rfl (rc rfl (rc rfl (rc rfl (rc rfl (rc rfl rnl))))))), f0, by omega, rfl⟩
   ·
    have f0 := y0.setb (d := 40) (b := false) rfl (decide_eq_false v0)
    refine wpIn_cond_false (f0.ev rfl) ?_
    refine wpIn_exit ?_
    refine x_then_e ?_
    refine x_then_e ?_
    refine x_block_eq ?_
    refine x_block_n ?_
    have f0 := n0.nf
    have n0 := f0.erase 4
    have f0 : us.take (us.length - 1) ++ ((bindsR (nth t (t.length - (k + 1)))).take j).map (nthI us (us.length - 1) + ·) = us.take (us.length - 1) ++ (bindsR (nth t (t.length - (k + 1)))).map (nthI us (us.length - 1) + ·) := by rw [show j = (bindsR (nth t (t.length - (k + 1)))).length by omega, List.take_length]
    have v0 := n0
    rw [f0] at v0
    exact ⟨_, _, _, v0, k + 1, Ts', _, _, _, rfl, hpn, hbs, by omega, hv'⟩
  ·
   refine r_not (st_listInV rfl rfl) j0 rfl rfl rfl (by decide) (fun v0 f0 => ?_)
   refine li_nil ?_
   refine x_then_n (o0 _ _ ?_)
   refine wpIn_cond_true (f0.ev rfl) ?_
   refine wpIn_ret ?_
   refine x_then_r ?_
   refine x_block_r ?_
   have f0 := u0.nf
   exact ⟨_, _, _, f0, rfl, nodesN_pre hpn⟩
 ·
  rintro f0 u0 o0 sb m1 v0 hDn ⟨k, Ts, us, Ao, co, rfl, rfl, hpe, hk, hv⟩ j0
  have v0 := Reg.marked c0 u0
  have hkf := bwL_full hk hpe
  refine x_block_n ?_
  have u0 := j0.nf
  exact m_allX (.inr rfl) v0 rfl rfl u0 hDn (nodesN_all (hv.all (by omega)))
 ·
  rintro u0 v0 j0 cc sb m1 o0 hDn ⟨rfl, hsp⟩ f0
  have o0 := Reg.marked c0 v0
  refine wp_ret ?_
  refine x_block_r ?_
  exact m_stopX (.inl rfl) o0 rfl rfl f0 hDn (hsp)
end Go.Proofs.YtcfponnkfhkbdaaDoor
/- Contracts of functions, one theorem each: what the call returns, and that nothing old is changed. Printed by gen.py. -/
namespace Go.Proofs.YtcfponnkfhkbdaaDoor
open Go Go.RowKit
set_option linter.unusedSimpArgs false
set_option linter.unusedVariables false
set_option maxRecDepth 100000 in
set_option maxHeartbeats 1000000 in
theorem snodesMk_calls (w0 : World) (Z : Nat → Prop) (hZ : ∀ k, Z k → k < w0.heap.size) (tA : Option Addr) (tc : Nat) (t : List Nd) (ht : (dRow 4 tA t.length tc (encNs t)).φ w0 Z) (hl : t.length ≤ 1000000 := by first | assumption | omega | (simp; done) | (simp; omega)) :
    Calls Tryd.prog 125 [.slice tA t.length tc].toArray w0 (fun e w' => ∃ q0_0 : Nat, e = .returned (.func (.func 131) #[] #[.pointer (some ⟨q0_0, 0, none⟩)]) ∧ Fr none_ w0 w' ∧ (dBox q0_0 [.slice tA t.length tc]).φ w' (nxt Z w0 w')) := by
 have b0 := s0 (M := none_) hZ (zc ht zn)
 refine c_enter Tryd.func125 rfl Tryd.ntmps125 rfl (fun c0 d0 => ?_)
 refine wsc (fun c0 f0 => ?_)
 refine m_box (cs := [.slice tA t.length tc]) sv d0 b0 rfl rfl rfl rfl (by decide) (fun c0 h0 i0 j0 k0 => ?_)
 refine asg j0 (fun h0 c0 => ?_)
 refine wpList_nil (x_then_n (f0 _ _ ?_))
 refine wsc (fun f0 h0 => ?_)
 refine r_makeFunc sv c0 rfl rfl rfl (by decide) (fun f0 j0 => ?_)
 refine asg j0 (fun f0 c0 => ?_)
 refine wpList_nil (x_then_n (h0 _ _ ?_))
 refine wp_ret ?_
 refine e_ret1 c0 rfl rfl rfl ?_
 obtain ⟨c0, h0⟩ := k0.box_data (i := 0) rfl (fun _ h => h)
 have k0 := c0.data (dBox i0 [.slice tA t.length tc]) h0
 refine ⟨i0, ?_, k0.fr, ((k0.get (i := 1) rfl).imp imm_nxt id)⟩
 exact congrArg Ending.returned rfl
set_option maxRecDepth 100000 in
set_option maxHeartbeats 1000000 in
theorem revN_calls (w0 : World) (Z : Nat → Prop) (hZ : ∀ k, Z k → k < w0.heap.size) (tA : Option Addr) (tc : Nat) (t : List Nd) (ht : (Res.row tA (t).length tc 39 4 (encNs t)).holds w0) (htz : ∀ k, rM tA k → ¬ Z k) (hl : t.length ≤ 1000000 := by first | assumption | omega | (simp; done) | (simp; omega)) :
    Calls Tryd.prog 126 [.slice tA t.length tc].toArray w0 (fun e w' => e = .returned (.tuple #[]) ∧ Fr (rM tA) w0 w' ∧ (Res.row tA (t.reverse).length tc 39 4 (encNs t.reverse)).holds w') := by
 have hstart : ∀ k, Z k → imm Z w0 [.row tA ((t).length) tc 39 4 (encNs t)] w0 k ∧ w0.heap[k]? = w0.heap[k]? := fun k hk => imm_startR hZ htz hk
 have b0 : St w0 Z (rM tA) w0 [.row tA ((t).length) tc 39 4 (encNs t)] [] := St.startR w0 Z _ _ _ _ _ _ _ ht (by
  intro d hd
  cases hd
  )
 refine c_enter Tryd.func126 rfl Tryd.ntmps126 rfl (fun c0 d0 => ?_)
 refine wsc (fun c0 f0 => ?_)
 refine mv d0 (fun c0 h0 => ?_)
 refine r_len sv h0 rfl rfl rfl rfl Tryd.underlying22 (by decide) (fun c0 d0 => ?_)
 refine r_sub (z := (((t.length : Nat) : Int) - 1)) sv d0 rfl rfl rfl rfl (by decide) (by omega) (by omega) (by omega) (fun c0 h0 => ?_)
 refine asg h0 (fun c0 d0 => ?_)
 refine asg d0 (fun c0 h0 => ?_)
 refine wpList_nil (x_then_n (f0 _ _ ?_))
 refine wp_block ?_
 refine wp_loop_ghost (fun gn ga gw => ∃ k : Nat, ∃ R : List Nd, (Reg ga 28 [(1000000, .bool false), (0, .slice tA t.length tc), (2, .int .i64 ((k : Nat) : Int)), (3, .int .i64 (((t.length : Nat) : Int) - ((k : Nat) : Int) - 1))]) ∧ (St w0 Z (rM tA) gw [.row tA ((R).length) tc 39 4 (encNs R)] []) ∧ (RevN t R k) ∧ (2 * k ≤ t.length + 1) ∧ (t.length - k) = gn) _ ⟨0, t, (h0.sub (rc rfl (rc rfl (rc rfl (rc rfl rnl))))), b0, RevN.zero t, by omega, rfl⟩ ?_
 rintro h0 b0 f0 ⟨k, R, c0, d0, hr, hkn, i0⟩
 have hrl := hr.len
 refine wp_seq_k (fun i0 b0 => ?_)
 refine wsc (fun i0 h0 => ?_)
 refine mv c0 (fun i0 j0 => ?_)
 refine mv j0 (fun i0 c0 => ?_)
 refine r_lss sv c0 rfl rfl rfl rfl (by decide) (fun i0 j0 => ?_)
 refine wpList_nil (x_then_n (h0 _ _ ?_))
 rcases Decidable.em (((k : Nat) : Int) < (((t.length : Nat) : Int) - ((k : Nat) : Int) - 1)) with h0 | h0
 ·
  have i0 := j0.setb (d := 9) (b := true) rfl (decide_eq_true h0)
  refine wp_cond_true (i0.ev rfl) ?_
  refine wp_skip ?_
  refine x_then_n (b0 _ _ ?_)
  refine wp_seq_k (fun b0 c0 => ?_)
  refine wp_block ?_
  obtain ⟨b0, k0, m0⟩ := d0.agree
  refine dl_region2 (S := (sW f0 b0 [(Res.row tA ((R).length) tc 39 4 (encNs R)).holds])) (n := 16) [13, 14, 15] mixed rfl m0 (pan_block (pan_then (pan_then (pan_block pan_body)))) (fun k0 n0 o0 p0 q0 => ?_)
  have p0 := sWI q0 0 (pr 0 pn)
  refine dl_takeA (i := 0) rfl (by kernel_rfl) (by kernel_rfl) (by kernel_rfl) (fun c a w h => n0 c _ _ _ _ h) rfl (by decide) i0 (want_n rfl) (fun x => r_move (sy i0) i0 rfl rfl rfl (by decide) gt) (fun k0 m0 => ?_)
  refine dl_takeA (i := 1) rfl (by kernel_rfl) (by kernel_rfl) (by kernel_rfl) (fun c a w h => n0 c _ _ _ _ h) rfl (by decide) m0 (want_n rfl) (fun x => r_move (sy m0) m0 rfl rfl rfl (by decide) gt) (fun k0 i0 => ?_)
  refine dl_takeA (i := 2) rfl (by kernel_rfl) (by kernel_rfl) (by kernel_rfl) (fun c a w h => n0 c _ _ _ _ h) rfl (by decide) i0 (want_n rfl) (fun x => r_move (sy i0) i0 rfl rfl rfl (by decide) gt) (fun k0 m0 => ?_)
  refine dl_takeA (i := 3) rfl (by kernel_rfl) (by kernel_rfl) (by kernel_rfl) (fun c a w h => n0 c _ _ _ _ h) rfl (by decide) m0 (want_n rfl) (fun x => r_move (sy m0) m0 rfl rfl rfl (by decide) gt) (fun k0 i0 => ?_)
  refine dl_takeA (i := 4) rfl (by kernel_rfl) (by kernel_rfl) (by kernel_rfl) (fun c a w h => n0 c _ _ _ _ h) rfl (by decide) i0 (want_n rfl) (fun x => r_move (sy i0) i0 rfl rfl rfl (by decide) gt) (fun k0 m0 => ?_)
  refine dl_takeA (i := 5) rfl (by kernel_rfl) (by kernel_rfl) (by kernel_rfl) (fun c a w h => n0 c _ _ _ _ h) rfl (by decide) m0 (want_n rfl) (fun x => r_move (sy m0) m0 rfl rfl rfl (by decide) gt) (fun k0 i0 => ?_)
  refine dl_takeA (i := 6) rfl (by kernel_rfl) (by kernel_rfl) (by kernel_rfl) (fun c a w h => n0 c _ _ _ _ h) rfl (by decide) i0 (want_n rfl) (fun x => m_index (i := (t.length) - (k + 1)) (j := ((t.length) - (k + 1)) * 4) (sy i0) i0 rfl rfl rfl rfl Tryd.underlying22 sz39 (by omega) (by omega) (own_nds (t := R) (k := (t.length) - (k + 1)) (q0.res (i := 0) rfl) (by omega)).some_ rfl (by decide) gt) (fun k0 m0 => ?_)
  refine dl_take (i := 7) rfl (by kernel_rfl) (by kernel_rfl) (by kernel_rfl) (by kernel_rfl) (fun c a w h => n0 c _ _ _ _ h) rfl (by decide) m0 (want_n rfl) (fun x hx => m_loadEN (sy m0) m0 rfl rfl rfl (own_nds (t := R) (k := (t.length) - (k + 1)) (hx.r 0) (by omega)) Tryd.underlying39 rfl sz39 (by decide) gt) p0 (fun k0 i0 => ?_)
  refine dl_takeA (i := 8) rfl (by kernel_rfl) (by kernel_rfl) (by kernel_rfl) (fun c a w h => n0 c _ _ _ _ h) rfl (by decide) i0 (want_n rfl) (fun x => r_move (sy i0) i0 rfl rfl rfl (by decide) gt) (fun k0 m0 => ?_)
  refine dl_takeA (i := 9) rfl (by kernel_rfl) (by kernel_rfl) (by kernel_rfl) (fun c a w h => n0 c _ _ _ _ h) rfl (by decide) m0 (want_n rfl) (fun x => r_move (sy m0) m0 rfl rfl rfl (by decide) gt) (fun k0 i0 => ?_)
  refine dl_takeA (i := 10) rfl (by kernel_rfl) (by kernel_rfl) (by kernel_rfl) (fun c a w h => n0 c _ _ _ _ h) rfl (by decide) i0 (want_n rfl) (fun x => m_index (i := k) (j := k * 4) (sy i0) i0 rfl rfl rfl rfl Tryd.underlying22 sz39 (by omega) (by omega) (own_nds (t := R) (k := k) (q0.res (i := 0) rfl) (by omega)).some_ rfl (by decide) gt) (fun k0 m0 => ?_)
  refine dl_take (i := 11) rfl (by kernel_rfl) (by kernel_rfl) (by kernel_rfl) (by kernel_rfl) (fun c a w h => n0 c _ _ _ _ h) rfl (by decide) m0 (want_n rfl) (fun x hx => m_loadEN (sy m0) m0 rfl rfl rfl (own_nds (t := R) (k := k) (hx.r 0) (by omega)) Tryd.underlying39 rfl sz39 (by decide) gt) p0 (fun k0 i0 => ?_)
  refine dl_takeA (i := 12) rfl (by kernel_rfl) (by kernel_rfl) (by kernel_rfl) (fun c a w h => n0 c _ _ _ _ h) rfl (by decide) i0 (want_n rfl) (fun x => m_index (i := k) (j := k * 4) (sy i0) i0 rfl rfl rfl rfl Tryd.underlying22 sz39 (by omega) (by omega) (own_nds (t := R) (k := k) (q0.res (i := 0) rfl) (by omega)).some_ rfl (by decide) gt) (fun k0 m0 => ?_)
  refine dl_one (i := 13) (by kernel_rfl) ?_
  refine m_storeE (f := encN) (i := 0) (k := k) (L := R) (z := (nth R ((t.length) - (k + 1)))) (st_op rfl (want_n rfl)) m0 q0 rfl rfl rfl rfl rfl rfl (by omega) encN_len (one1 (f := encN) encN_one) rfl sz39 (fun k0 i0 p0 b0 => ?_)
  have i0 : (R.set (k) (nth R ((t.length) - (k + 1)))).length = (R).length := by simp
  refine ⟨fun h => absurd h (by decide), ?_⟩
  refine dl_takeA (i := 14) rfl (by kernel_rfl) (by kernel_rfl) (by kernel_rfl) (fun c a w h => n0 c _ _ _ _ h) rfl (by decide) p0 (want_n rfl) (fun x => m_index (i := (t.length) - (k + 1)) (j := ((t.length) - (k + 1)) * 4) (sy p0) p0 rfl rfl rfl rfl Tryd.underlying22 sz39 (by omega) (by omega) (own_nds (t := R.set (k) (nth R ((t.length) - (k + 1)))) (k := (t.length) - (k + 1)) (b0.res (i := 0) rfl) (by omega)).some_ rfl (by decide) gt) (fun i0 k0 => ?_)
  refine dl_one (i := 15) (by kernel_rfl) ?_
  refine m_storeE (f := encN) (i := 0) (k := (t.length) - (k + 1)) (L := (R.set (k) (nth R ((t.length) - (k + 1))))) (z := (nth R k)) (st_op rfl (want_n rfl)) k0 b0 rfl rfl rfl rfl rfl rfl (by omega) encN_len (one1 (f := encN) encN_one) rfl sz39 (fun i0 p0 n0 m0 => ?_)
  have p0 : ((R.set (k) (nth R ((t.length) - (k + 1)))).set ((t.length) - (k + 1)) (nth R k)).length = (R.set (k) (nth R ((t.length) - (k + 1)))).length := by simp
  refine ⟨fun h => absurd h (by decide), ?_⟩
  refine dl_done (by kernel_rfl) (o0 _ _ ?_) _
  refine x_block_n ?_
  refine x_then_n (c0 _ _ ?_)
  refine c_region ?_
  refine mv n0 (fun c0 o0 => ?_)
  refine r_add (z := ((k + 1 : Nat) : Int)) sv o0 rfl rfl rfl rfl (by decide) (by omega) (by omega) (by omega) (fun c0 n0 => ?_)
  refine mv n0 (fun c0 o0 => ?_)
  refine r_sub (z := (((t.length : Nat) : Int) - ((k : Nat) : Int) - 2)) sv o0 rfl rfl rfl rfl (by decide) (by omega) (by omega) (by omega) (fun c0 n0 => ?_)
  refine asg n0 (fun c0 o0 => ?_)
  refine asg o0 (fun c0 n0 => ?_)
  refine wpList_nil ?_
  have c0 := m0.forget 0
  exact ⟨_, by omega, k + 1, (R.set (k) (nth R ((t.length) - (k + 1)))).set ((t.length) - (k + 1)) (nth R k), (n0.sub (rc rfl (rc rfl (rc rfl (rc (ri rfl (by omega)) rnl))))), c0, RevN.step hr (by omega) (by omega) rfl rfl, by omega, rfl⟩
 ·
  have c0 := j0.setb (d := 9) (b := false) rfl (decide_eq_false h0)
  refine wp_cond_false (c0.ev rfl) ?_
  refine wp_exit ?_
  refine x_then_e ?_
  refine x_then_e ?_
  refine x_block_eq ?_
  refine e_end0 c0 rfl rfl ?_
  have c0 : R = t.reverse := hr.done (by omega)
  have h0 := d0
  rw [c0] at h0
  refine ⟨?_, h0.fr, h0.res (i := 0) rfl⟩
  rfl
set_option maxRecDepth 100000 in
set_option maxHeartbeats 1000000 in
theorem instP_calls (w0 : World) (Z : Nat → Prop) (hZ : ∀ k, Z k → k < w0.heap.size) (v : Int) (u : Int) (psg : Nat) (psA : Option Addr) (psc : Nat) (ps : List Sl) (hps : (dRow 1 psA ps.length psc (encSs ps)).φ w0 Z) (hpss : (dAll ps).φ w0 Z) (hpsb : (dBox psg [.slice psA ps.length psc]).φ w0 Z) (hv : 0 ≤ v := by first | assumption | omega | (simp; done) | (simp; omega)) (hl0 : ps.length ≤ 1000 := by first | assumption | omega | (simp; done) | (simp; omega)) (hne : ∀ s ∈ ps, s.2.2 ≠ [] := by first | assumption | omega | (simp; done) | (simp; omega)) :
    Calls Tryd.prog 114 [.int .i64 v, .int .i64 u, .pointer (some ⟨psg, 0, none⟩)].toArray w0 (fun e w' => ∃ (rA0 : Option Addr) (rc0 : Nat), e = .returned (.tuple #[.slice rA0 ((if v < ps.length then (nthS ps v.toNat).2.2 else [])).length rc0, .int .i64 ((if v < ps.length then u else ps.length))]) ∧ Fr none_ w0 w' ∧ (dRow 4 rA0 (((if v < ps.length then (nthS ps v.toNat).2.2 else [])).length) rc0 (encNs (if v < ps.length then (nthS ps v.toNat).2.2 else []))).φ w' (nxt Z w0 w') ∧ ((if v < ps.length then (nthS ps v.toNat).2.2 else []) = [] → rA0 = none)) := by
 have b0 := s0 (M := none_) hZ (zc hps (zc hpss (zc hpsb zn)))
 refine c_enter Tryd.func114 rfl Tryd.ntmps114 rfl (fun c0 d0 => ?_)
 refine wsc (fun c0 f0 => ?_)
 refine asg d0 (fun c0 h0 => ?_)
 refine asg h0 (fun c0 d0 => ?_)
 refine wpList_nil (x_then_n (f0 _ _ ?_))
 refine wp_seq_k (fun f0 c0 => ?_)
 refine wsc (fun f0 h0 => ?_)
 refine mv d0 (fun f0 i0 => ?_)
 refine m_loadC sv i0 rfl rfl rfl (dbox_cell (b0.get (i := 2) rfl) rfl) Tryd.underlying42 rfl (by decide) (fun f0 d0 => ?_)
 refine r_len sv d0 rfl rfl rfl rfl Tryd.underlying42 (by decide) (fun f0 i0 => ?_)
 refine r_lss sv i0 rfl rfl rfl rfl (by decide) (fun f0 d0 => ?_)
 refine wpList_nil (x_then_n (h0 _ _ ?_))
 rcases Decidable.em ((v) < ((ps.length : Nat) : Int)) with h0 | h0
 ·
  have f0 := d0.setb (d := 10) (b := true) rfl (decide_eq_true h0)
  refine wp_cond_true (f0.ev rfl) ?_
  refine wsc (fun i0 j0 => ?_)
  refine m_loadC sv f0 rfl rfl rfl (dbox_cell (b0.get (i := 2) rfl) rfl) Tryd.underlying42 rfl (by decide) (fun i0 k0 => ?_)
  refine mv k0 (fun i0 f0 => ?_)
  refine m_index (i := ((v)).toNat) (j := (((v)).toNat) * 1) sv f0 rfl rfl rfl rfl Tryd.underlying42 sz22 (by omega) (by omega) (ss_elem (t := ps) (k := ((v)).toNat) (b0.row (i := 0) rfl).2 (by omega)).some_ rfl (by decide) (fun i0 k0 => ?_)
  refine m_loadE sv k0 rfl rfl rfl 0 ((((v)).toNat) * 1) (ss_elem (t := ps) (k := ((v)).toNat) (b0.row (i := 0) rfl).2 (by omega)) rfl rfl Tryd.underlying22 rfl (by decide) (fun i0 f0 => ?_)
  have i0 := b0.data (dRow 4 ((nthS ps (((v)).toNat)).1) ((nthS ps (((v)).toNat)).2.2.length) ((nthS ps (((v)).toNat)).2.1) (encNs ((nthS ps (((v)).toNat)).2.2))) (all_at (t := ps) (k := ((v)).toNat) (b0.get (i := 1) rfl) (by omega))
  refine mv f0 (fun k0 m0 => ?_)
  refine asg m0 (fun k0 f0 => ?_)
  refine asg f0 (fun k0 m0 => ?_)
  refine wpList_nil (x_then_n (j0 _ _ ?_))
  refine wp_ret ?_
  refine x_then_r ?_
  refine e_ret2 m0 rfl rfl rfl rfl ?_
  have m0 : (if v < ps.length then (nthS ps v.toNat).2.2 else []) = (nthS ps (((v)).toNat)).2.2 := if_pos (by omega)
  rw [m0]
  refine ⟨((nthS ps (((v)).toNat)).1), ((nthS ps (((v)).toNat)).2.1), ?_, i0.fr, i0.rx 3, (fun h => absurd h (hne _ (nthS_mem (by omega))))⟩
  exact ret_t2 rfl (ret_i (by first | exact (if_pos (by omega)).symm | exact (if_neg (by omega)).symm))
 ·
  have i0 := d0.setb (d := 10) (b := false) rfl (decide_eq_false h0)
  refine wp_cond_false (i0.ev rfl) ?_
  refine wp_skip ?_
  refine x_then_n (c0 _ _ ?_)
  refine wp_seq_k (fun c0 h0 => ?_)
  obtain ⟨c0, d0, m0⟩ := b0.agree
  refine d_reg3 (n := 4) m0 3 pn (pan_then pan_body) (fun c0 b0 j0 k0 f0 n0 => ?_)
  refine dt 0 rfl b0 i0 (want_n rfl) (fun x hx => m_loadC (sy i0) i0 rfl rfl rfl (dbox_cell (sdat (d0 2 _ rfl) hx.ag) rfl) Tryd.underlying42 rfl (by decide) gt) n0 (fun k0 c0 => ?_)
  refine dt 1 rfl b0 c0 (want_n rfl) (fun x hx => r_len (sy c0) c0 rfl rfl rfl rfl Tryd.underlying42 (by decide) gt) n0 (fun k0 d0 => ?_)
  refine dtA 2 b0 d0 n0 (fun k0 c0 => ?_)
  refine dtA 3 b0 c0 n0 (fun k0 d0 => ?_)
  refine wpAnyH_done (by kernel_rfl) (j0 _ _ ?_) _
  refine x_then_n (h0 _ _ ?_)
  refine wp_ret ?_
  refine e_ret2 d0 rfl rfl rfl rfl ?_
  have d0 : (if v < ps.length then (nthS ps v.toNat).2.2 else []) = [] := if_neg (by omega)
  rw [d0]
  refine ⟨none, 0, ?_, f0.fr, ⟨Nat.le_refl _, RowI.nil _ _ _ _⟩, (fun _ => rfl)⟩
  exact ret_t2 rfl (ret_i (by first | exact (if_pos (by omega)).symm | exact (if_neg (by omega)).symm))
set_option maxRecDepth 100000 in
set_option maxHeartbeats 1000000 in
theorem put_calls (w0 : World) (Z : Nat → Prop) (hZ : ∀ k, Z k → k < w0.heap.size) (tA : Option Addr) (tc : Nat) (t : List Nd) (psg : Nat) (psA : Option Addr) (psc : Nat) (ps : List Sl) (hShp : Shapes w0 Z) (ht : (dRow 4 tA t.length tc (encNs t)).φ w0 Z) (hps : (dRow 1 psA ps.length psc (encSs ps)).φ w0 Z) (hpss : (dAll ps).φ w0 Z) (hpsb : (dBox psg [.slice psA ps.length psc]).φ w0 Z) (hsm : sml t := by first | assumption | omega | (simp; done) | (simp; omega)) (hl : t.length ≤ 1000000 := by first | assumption | omega | (simp; done) | (simp; omega)) (hc : chk t = 0 := by first | assumption | omega | (simp; done) | (simp; omega)) (hok : oks (lsts ps) := by first | assumption | omega | (simp; done) | (simp; omega)) (hls : ∀ x ∈ lsts ps, sml x := by first | assumption | omega | (simp; done) | (simp; omega)) (hl0 : ps.length ≤ 1000 := by first | assumption | omega | (simp; done) | (simp; omega)) :
    Calls Tryd.prog 113 [.slice tA t.length tc, .func (.func 114) #[] #[.pointer (some ⟨psg, 0, none⟩)]].toArray w0 (fun e w' => ∃ (rA0 : Option Addr) (rc0 : Nat), e = .returned (.tuple #[.slice rA0 (poA t 0 (lsts ps)).length rc0, .int .i64 (poE t 0 (lsts ps))]) ∧ Fr none_ w0 w' ∧ (dRow 4 rA0 ((poA t 0 (lsts ps)).length) rc0 (encNs (poA t 0 (lsts ps)))).φ w' (nxt Z w0 w')) := by
 have b0 := s0 (M := none_) hZ (zc (d := dShapes) hShp (zc ht (zc hps (zc hpss (zc hpsb zn)))))
 have hne : ∀ s ∈ ps, s.2.2 ≠ [] := fun s hs e => by have c0 := hok s.2.2 (List.mem_map_of_mem hs); rw [e] at c0; have := chk_pos c0; simp at this
 refine c_enterM Tryd.func113 rfl Tryd.ntmps113 rfl (fun c0 d0 => ?_)
 refine wsc (fun c0 f0 => ?_)
 refine m_box (cs := [.func (.func 114) #[] #[.pointer (some ⟨psg, 0, none⟩)]]) sv d0 b0 rfl rfl rfl rfl (by decide) (fun c0 h0 i0 j0 k0 => ?_)
 refine m_alloc (cs := [.slice none 0 0]) sv j0 k0 rfl rfl ze22 rfl (by decide) (fun h0 c0 d0 b0 m0 => ?_)
 refine m_alloc (cs := [.int .i64 0]) sv b0 m0 rfl rfl ze27 rfl (by decide) (fun c0 h0 k0 j0 n0 => ?_)
 refine wpList_nil (x_then_n (f0 _ _ ?_))
 refine wsc (fun f0 h0 => ?_)
 refine m_alloc (cs := [.slice none 0 0]) sv j0 n0 rfl rfl ze22 rfl (by decide) (fun f0 c0 m0 b0 o0 => ?_)
 refine wpList_nil (x_then_n (h0 _ _ ?_))
 refine wp_seq_k (fun h0 c0 => ?_)
 refine wsc (fun h0 f0 => ?_)
 refine mv b0 (fun h0 n0 => ?_)
 have h0 := o0.nf
 refine k_call (xs := [.tmp 14]) se n0 rfl rfl rfl (by decide) ok125 (snodesMk_calls _ _ h0.il _ _ _ (h0.g 1)) ?_
 rintro n0 o0 ⟨b0, rfl, j0, p0⟩
 have o0 := h0.below j0.below
 have j0 := h0.dN o0 p0
 refine ⟨_, rfl, fun o0 p0 => ?_⟩
 refine wpList_nil (x_then_n (f0 _ _ ?_))
 refine wp_block ?_
 have f0 := j0.nf
 have j0 := f0.nilrow 39 4
 have f0 := j0.nf
 have j0 : Reg o0 82 [(1000000, .bool false), (3, .pointer (some ⟨i0, 0, none⟩)), (4, .pointer (some ⟨d0, 0, none⟩)), (5, .pointer (some ⟨k0, 0, none⟩)), (6, .pointer (some ⟨m0, 0, none⟩)), (15, .func (.func 131) #[] #[.pointer (some ⟨b0, 0, none⟩)])] := (p0.sub (rc rfl (rc rfl (rc rfl (rc rfl (rc rfl (rc rfl rnl)))))))
 refine w_range (xs := nodesN t) (encs := (fun x : Nd × Int => #[.agg (encN x.1).toArray, .int .i64 x.2])) (j0.ev rfl) ok131 (snodes_yields _ (imm Z w0 [.box i0 131 [.func (.func 114) #[] #[.pointer (some ⟨psg, 0, none⟩)]], .box d0 22 [.slice none 0 0], .box k0 27 [.int .i64 0], .box m0 22 [.slice none 0 0], .row none 0 0 39 4 (encNs ([]))] _) b0 tA tc t (f0.get (i := 0) rfl) (f0.get (i := 1) rfl) (f0.get (i := 5) rfl) (by first | assumption | omega | (simp; done) | (simp; omega)) (by first | assumption | omega | (simp; done) | (simp; omega)) (by first | assumption | omega | (simp; done) | (simp; omega))) (fun _ => rfl) f0 (fun _ h => h) (fun (pre : List (Nd × Int)) (mm : List Res) => ∃ O : List Nd, ∃ ev : Int, ∃ Ao : Option Addr, ∃ co : Nat, mm = [.box i0 131 [.func (.func 114) #[] #[.pointer (some ⟨psg, 0, none⟩)]], .box d0 22 [.slice none 0 0], .box k0 27 [.int .i64 (ev)], .box m0 22 [.slice Ao ((O).length) co], .row Ao ((O).length) co 39 4 (encNs O)] ∧ (OutI (lsts ps) pre O) ∧ (ev = 0)) (fun cc (pre : List (Nd × Int)) (mm : List Res) => cc = Code.ret ∧ ∃ O : List Nd, ∃ ev : Int, ∃ Ao : Option Addr, ∃ co : Nat, mm = [.box i0 131 [.func (.func 114) #[] #[.pointer (some ⟨psg, 0, none⟩)]], .box d0 22 [.slice none 0 0], .box k0 27 [.int .i64 (ev)], .box m0 22 [.slice Ao ((O).length) co], .row Ao ((O).length) co 39 4 (encNs O)] ∧ (poE t 0 (lsts ps) = ev ∧ poA t 0 (lsts ps) = [])) ⟨[], 0, none, 0, rfl, OutI.nil _, rfl⟩ ?_ ?_ ?_
 ·
  rintro f0 pre x p0 m1 hp ⟨O, ev, Ao, co, rfl, hO, hev⟩ o0
  obtain ⟨hxm, hxr, hx0, hx1, hx2, hx3, hx4⟩ := nodesN_at hc hp
  have hOl := hO.len hc (List.IsPrefix.trans (List.prefix_append _ _) hp)
  have hct := (treeOf_ok hc).2.2.2
  refine (?_ : ∀ h0, Reg h0 82 [(17, .int .i64 (x.2)), (16, .agg #[.int .i64 (x.1.K), .int .i64 (x.1.N), .int .i64 (x.1.M), .string x.1.S]), (1000000, .bool false), (3, .pointer (some ⟨i0, 0, none⟩)), (4, .pointer (some ⟨d0, 0, none⟩)), (5, .pointer (some ⟨k0, 0, none⟩)), (6, .pointer (some ⟨m0, 0, none⟩)), (15, .func (.func 131) #[] #[.pointer (some ⟨b0, 0, none⟩)])] → Code.wpIn (rI f0) 0 _ _ _ h0 p0) _ (Reg.round2n j0 (by decide) (by decide) rfl)
  intro h0 p0
  refine wpIn_seq_k (fun h0 f0 => ?_)
  refine ci_region (by kernel_rfl) (out_then (out_then (fun _ _ h => h))) ?_
  refine m_alloc (cs := [.int .i64 0, .int .i64 0, .int .i64 0, .string (⟨#[]⟩ : ByteArray)]) sv p0 o0 rfl rfl ze39 rfl (by decide) (fun h0 n0 q0 t0 u0 => ?_)
  refine m_store (i := 5) (cs' := [.int .i64 (x.1.K), .int .i64 (x.1.N), .int .i64 (x.1.M), .string x.1.S]) se t0 u0 rfl rfl rfl rfl rfl sz39 rfl rfl rfl (fun n0 h0 p0 o0 => ?_)
  refine wpList_nil (x_then_n (f0 _ _ ?_))
  refine ci_region (by kernel_rfl) (out_then (fun _ _ h => h)) ?_
  refine asg p0 (fun f0 h0 => ?_)
  refine wpList_nil ?_
  have f0 := o0.nf
  refine x_then_n ⟨_, _, 6, f0, rfl, (fun _ h => False.elim h), (fun _ h => False.elim h), fun o0 p0 => ?_⟩
  refine wpIn_block ?_
  refine wpIn_seq_k (fun f0 n0 => ?_)
  refine wpIn_seq_k (fun f0 u0 => ?_)
  refine ci_region (by kernel_rfl) (out_then (out_then (out_block out_rPost))) ?_
  refine m_field (j' := 0) sv h0 rfl rfl rfl Tryd.underlying39 rfl sz3 rfl rfl (by decide) (fun f0 t0 => ?_)
  refine m_load (i := 5) sv t0 p0 rfl rfl rfl rfl rfl Tryd.underlying3 rfl (by decide) (fun f0 h0 => ?_)
  refine r_neq sv h0 rfl rfl rfl rfl (by decide) (fun f0 t0 => ?_)
  refine mv t0 (fun f0 h0 => ?_)
  refine l_join (fun ga gw => Reg ga 82 [(3, .pointer (some ⟨i0, 0, none⟩)), (4, .pointer (some ⟨d0, 0, none⟩)), (5, .pointer (some ⟨k0, 0, none⟩)), (6, .pointer (some ⟨m0, 0, none⟩)), (7, .pointer (some ⟨q0, 0, none⟩)), (8, .int .i64 (x.2)), (26, .bool ((!(decide ((x.1.K) = 0))) || (decide ((x.1.N) < (x.2))))), (1000000, .bool false)] ∧ St w0 Z none_ gw [.box i0 131 [.func (.func 114) #[] #[.pointer (some ⟨psg, 0, none⟩)]], .box d0 22 [.slice none 0 0], .box k0 27 [.int .i64 (ev)], .box m0 22 [.slice Ao ((O).length) co], .row Ao ((O).length) co 39 4 (encNs O), .box q0 39 [.int .i64 (x.1.K), .int .i64 (x.1.N), .int .i64 (x.1.M), .string x.1.S]] [dShapes, dRow 4 tA t.length tc (encNs t), dRow 1 psA ps.length psc (encSs ps), dAll ps, dBox psg [.slice psA ps.length psc], dBox b0 [.slice tA t.length tc], dAg o0 (imm Z w0 [.box i0 131 [.func (.func 114) #[] #[.pointer (some ⟨psg, 0, none⟩)]], .box d0 22 [.slice none 0 0], .box k0 27 [.int .i64 (ev)], .box m0 22 [.slice Ao ((O).length) co], .row Ao ((O).length) co 39 4 (encNs O), .box q0 39 [.int .i64 (x.1.K), .int .i64 (x.1.N), .int .i64 (x.1.M), .string x.1.S]] o0)]) 5 ?_ ?_
  ·
   rcases Decidable.em ((x.1.K) = 0) with o0 | o0
   ·
    have q0 := h0.setb (d := 21) (b := false) rfl (by rw [(decide_eq_true o0)]; rfl)
    refine m_field (j' := 1) (st_listV_w (wt q0)) q0 rfl rfl rfl Tryd.underlying39 rfl sz3 rfl rfl (by decide) (fun b0 f0 => ?_)
    refine m_load (i := 5) (st_listV_w (wt f0)) f0 p0 rfl rfl rfl rfl rfl Tryd.underlying3 rfl (by decide) (fun b0 q0 => ?_)
    refine r_move (st_listV_w (wt q0)) q0 rfl rfl rfl (by decide) (fun b0 f0 => ?_)
    refine r_lss (st_listV_w (wt f0)) f0 rfl rfl rfl rfl (by decide) (fun b0 q0 => ?_)
    refine r_pick_f sv q0 rfl rfl rfl rfl (by decide) (fun b0 f0 => ?_)
    refine wpList_nil ?_
    exact x_then_n ⟨(f0.sub (rc rfl (rc rfl (rc rfl (rc rfl (rc rfl (rc rfl (rc (rb rfl (by (simp only [decide_eq_true o0, if_pos o0, bl]; done))) (rc rfl rnl))))))))), p0⟩
   ·
    have f0 := h0.setb (d := 21) (b := true) rfl (by rw [(decide_eq_false o0)]; rfl)
    refine sps f0 (wff f0) (fun h0 b0 => ?_)
    refine sps b0 (wff b0) (fun h0 f0 => ?_)
    refine sps f0 (wff f0) (fun h0 b0 => ?_)
    refine sps b0 (wff b0) (fun h0 f0 => ?_)
    refine r_pick_t sv f0 rfl rfl rfl rfl (by decide) (fun h0 b0 => ?_)
    refine wpList_nil ?_
    exact x_then_n ⟨(b0.sub (rc rfl (rc rfl (rc rfl (rc rfl (rc rfl (rc rfl (rc (rb rfl (by (simp only [decide_eq_false o0, if_neg o0, bl]; done))) (rc rfl rnl))))))))), p0⟩
  rintro b0 o0 ⟨p0, h0⟩
  refine wpList_nil (x_then_n (u0 _ _ ?_))
  rcases Bool.eq_false_or_eq_true (((!(decide ((x.1.K) = 0))) || (decide ((x.1.N) < (x.2))))) with u0 | u0
  ·
   have o0 := u0
   try simp only [Bool.or_eq_true, Bool.and_eq_true, Bool.not_eq_true', Bool.not_eq_false', decide_eq_true_eq, decide_eq_false_iff_not, Bool.or_eq_false_iff, Bool.and_eq_false_iff] at o0
   have o0 := p0.setb (d := 26) (b := true) rfl u0
   refine wpIn_cond_true (o0.ev rfl) ?_
   refine wpIn_seq_k (fun b0 f0 => ?_)
   refine ci_region (by kernel_rfl) (out_then (out_then (out_block out_rPost))) ?_
   refine m_load (i := 3) sv o0 h0 rfl rfl rfl rfl rfl Tryd.underlying22 rfl (by decide) (fun b0 q0 => ?_)
   refine m_loadN (i := 5) (vs := [.int .i64 (x.1.K), .int .i64 (x.1.N), .int .i64 (x.1.M), .string x.1.S]) sv q0 h0 rfl rfl rfl rfl rfl Tryd.underlying39 rfl sz39 (by decide) (fun b0 o0 => ?_)
   refine mbs [(0, .tmp 28)] [.int .i64 (x.1.K), .int .i64 (x.1.N), .int .i64 (x.1.M), .string x.1.S] sv o0 h0 Tryd.underlying22 zi39 (fun b0 q0 t0 v0 x0 => ?_)
   refine m_appendF (f := encN) (i := 4) (O) ([x.1]) sv v0 x0 rfl rfl rfl rfl rfl encN_len (encN_one _) Tryd.underlying22 zi39 rfl rfl (own_lnews (f := encN) (x0.res (i := 6) rfl)) rfl (by first | omega | (simp only [List.length_cons, List.length_nil]; omega)) (by decide) (fun t0 q0 b0 o0 y0 z0 b1 => ?_)
   have y0 : (O ++ ([x.1]) : List Nd).length = (O).length + 1 := by (simp only [List.length_append, List.length_take, List.length_cons, List.length_nil]; done)
   have y0 := b1.erase 6
   refine m_store (i := 3) (cs' := [.slice b0 ((O ++ ([x.1]) : List Nd).length) o0]) se z0 y0 rfl rfl rfl rfl rfl sz22 rfl rfl rfl (fun b1 q0 t0 x0 => ?_)
   refine wpList_nil (x_then_n (f0 _ _ ?_))
   refine wpIn_exit ?_
   refine x_then_e ?_
   refine x_block_eq ?_
   have f0 := x0.nf
   have x0 := f0.erase 5
   exact ⟨_, _, 6, x0, rfl, O ++ ([x.1]), _, _, _, rfl, hO.step (x := x) (re_keep (by omega)).1 (re_keep (by omega)).2 (.inr rfl), hev⟩
  ·
   have x0 := or_fl u0
   have f0 := not_f x0
   have x0 := of_decide_eq_true f0
   have x0 := or_fr u0
   have f0 := of_decide_eq_false x0
   have f0 := p0.setb (d := 26) (b := false) rfl u0
   refine wpIn_cond_false (f0.ev rfl) ?_
   refine wpIn_skip ?_
   refine x_then_n (n0 _ _ ?_)
   refine wpIn_seq_k (fun n0 u0 => ?_)
   refine ci_region (by kernel_rfl) (out_then (out_block out_rPost)) ?_
   refine m_load (i := 0) sv f0 h0 rfl rfl rfl rfl rfl Tryd.underlying131 rfl (by decide) (fun n0 p0 => ?_)
   refine m_field (j' := 1) sv p0 rfl rfl rfl Tryd.underlying39 rfl sz3 rfl rfl (by decide) (fun n0 f0 => ?_)
   refine m_load (i := 5) sv f0 h0 rfl rfl rfl rfl rfl Tryd.underlying3 rfl (by decide) (fun n0 p0 => ?_)
   refine mv p0 (fun n0 f0 => ?_)
   refine r_sub (z := (x.1.N - x.2)) sv f0 rfl rfl rfl rfl (by decide) (by omega) (by omega) (by omega) (fun n0 p0 => ?_)
   refine mv p0 (fun n0 f0 => ?_)
   have n0 := h0.nf
   refine k_callV (xs := [.tmp 36, .tmp 37]) se f0 rfl rfl rfl rfl (by decide) ok114 (instP_calls _ _ n0.il (x.1.N - x.2) (x.2) psg psA psc ps (n0.g 2) (n0.g 3) (n0.g 4) (hv := (by omega)) (hl0 := hl0) (hne := hne)) ?_
   rintro f0 h0 ⟨p0, x0, rfl, t0, q0, b1⟩
   have x0 := n0.below t0.below
   have t0 := n0.dN x0 q0
   refine ⟨_, rfl, fun x0 q0 => ?_⟩
   refine mv q0 (fun x0 n0 => ?_)
   refine r_extract sv n0 rfl rfl rfl rfl (by decide) (fun x0 q0 => ?_)
   refine r_extract sv q0 rfl rfl rfl rfl (by decide) (fun x0 n0 => ?_)
   refine asg n0 (fun x0 q0 => ?_)
   refine asg q0 (fun x0 n0 => ?_)
   refine wpList_nil (x_then_n (u0 _ _ ?_))
   refine wpIn_seq_k (fun u0 x0 => ?_)
   refine wpIn_seq_k (fun u0 q0 => ?_)
   refine ci_region (by kernel_rfl) (out_then (out_then (out_block out_rPost))) ?_
   refine mv n0 (fun u0 h0 => ?_)
   refine r_eqlNil sv h0 rfl rfl rfl rfl Tryd.underlying22 (by decide) (fun u0 n0 => ?_)
   refine wpList_nil (x_then_n (q0 _ _ ?_))
   rcases Bool.eq_false_or_eq_true (Option.isNone p0) with q0 | q0
   ·
    have hz : (if x.1.N - x.2 < (ps.length : Int) then (nthS ps (x.1.N - x.2).toNat).2.2 else []).length = 0 := nil_len (t0.get (i := 7) rfl) q0
    have hvl : ¬ x.1.N - x.2 < (ps.length : Int) := fun q => by rw [if_pos q] at hz; have := hne _ (nthS_mem (t := ps) (k := (x.1.N - x.2).toNat) (by omega)); exact this (List.eq_nil_of_length_eq_zero hz)
    have hlv : (if x.1.N - x.2 < (ps.length : Int) then x.2 else (ps.length : Int)) = ps.length := if_neg hvl
    have p0 := n0.setb (d := 42) (b := true) rfl q0
    refine wpIn_cond_true (p0.ev rfl) ?_
    refine wpIn_seq_k (fun u0 h0 => ?_)
    refine ci_region (by kernel_rfl) (out_then (out_then (out_block out_rPost))) ?_
    refine m_field (j' := 1) sv p0 rfl rfl rfl Tryd.underlying39 rfl sz3 rfl rfl (by decide) (fun u0 f0 => ?_)
    refine m_load (i := 5) sv f0 t0 rfl rfl rfl rfl rfl Tryd.underlying3 rfl (by decide) (fun u0 p0 => ?_)
    refine mv p0 (fun u0 f0 => ?_)
    refine r_sub (z := (x.1.N - (if (x.1.N - x.2) < ps.length then (x.2) else ps.length))) sv f0 rfl rfl rfl rfl (by decide) (by omega) (by omega) (by omega) (fun u0 p0 => ?_)
    refine m_field (j' := 1) sv p0 rfl rfl rfl Tryd.underlying39 rfl sz3 rfl rfl (by decide) (fun u0 f0 => ?_)
    refine m_store (i := 5) (cs' := [.int .i64 (x.1.K), .int .i64 (x.1.N - (if (x.1.N - x.2) < ps.length then (x.2) else ps.length)), .int .i64 (x.1.M), .string x.1.S]) se f0 t0 rfl rfl rfl rfl rfl sz3 rfl rfl rfl (fun u0 p0 y0 z0 => ?_)
    refine wpList_nil (x_then_n (h0 _ _ ?_))
    refine wpIn_seq_k (fun h0 p0 => ?_)
    refine ci_region (by kernel_rfl) (out_then (out_then (out_block out_rPost))) ?_
    refine m_load (i := 3) sv y0 z0 rfl rfl rfl rfl rfl Tryd.underlying22 rfl (by decide) (fun h0 u0 => ?_)
    refine m_loadN (i := 5) (vs := [.int .i64 (x.1.K), .int .i64 (x.1.N - (if (x.1.N - x.2) < ps.length then (x.2) else ps.length)), .int .i64 (x.1.M), .string x.1.S]) sv u0 z0 rfl rfl rfl rfl rfl Tryd.underlying39 rfl sz39 (by decide) (fun h0 y0 => ?_)
    refine mbs [(0, .tmp 49)] [.int .i64 (x.1.K), .int .i64 (x.1.N - (if (x.1.N - x.2) < ps.length then (x.2) else ps.length)), .int .i64 (x.1.M), .string x.1.S] sv y0 z0 Tryd.underlying22 zi39 (fun h0 u0 f0 o0 b0 => ?_)
    refine m_appendF (f := encN) (i := 4) (O) ([(⟨(x.1.K), (x.1.N - (if (x.1.N - x.2) < ps.length then (x.2) else ps.length)), (x.1.M), x.1.S⟩ : Nd)]) sv o0 b0 rfl rfl rfl rfl rfl encN_len (encN_one _) Tryd.underlying22 zi39 rfl rfl (own_lnews (f := encN) (b0.res (i := 6) rfl)) rfl (by first | omega | (simp only [List.length_cons, List.length_nil]; omega)) (by decide) (fun f0 u0 h0 y0 z0 v0 c1 => ?_)
    have z0 : (O ++ ([(⟨(x.1.K), (x.1.N - (if (x.1.N - x.2) < ps.length then (x.2) else ps.length)), (x.1.M), x.1.S⟩ : Nd)]) : List Nd).length = (O).length + 1 := by (simp only [List.length_append, List.length_take, List.length_cons, List.length_nil]; done)
    have z0 := c1.erase 6
    refine m_store (i := 3) (cs' := [.slice h0 ((O ++ ([(⟨(x.1.K), (x.1.N - (if (x.1.N - x.2) < ps.length then (x.2) else ps.length)), (x.1.M), x.1.S⟩ : Nd)]) : List Nd).length) y0]) se v0 z0 rfl rfl rfl rfl rfl sz22 rfl rfl rfl (fun c1 u0 f0 b0 => ?_)
    refine wpList_nil (x_then_n (p0 _ _ ?_))
    refine wpIn_exit ?_
    refine x_then_e ?_
    refine x_block_eq ?_
    have p0 := b0.nf
    have b0 := p0.erase 5
    exact ⟨_, _, 6, b0, rfl, O ++ ([(⟨(x.1.K), (x.1.N - (if (x.1.N - x.2) < ps.length then (x.2) else ps.length)), (x.1.M), x.1.S⟩ : Nd)]), _, _, _, rfl, hO.step (x := x) (re_out hxr (by omega) (by omega) (by rw [lsts_len]; exact hvl)).1 (by rw [show reL (lsts ps) x = _ from (re_out hxr (by omega) (by omega) (by rw [lsts_len]; exact hvl)).2, lsts_len, hlv]; rfl) (.inr rfl), hev⟩
   ·
    have hvl : x.1.N - x.2 < (ps.length : Int) := Decidable.byContradiction fun q => by have := b1 (if_neg q); rw [this] at q0; cases q0
    have hle : (if x.1.N - x.2 < (ps.length : Int) then (nthS ps (x.1.N - x.2).toNat).2.2 else []) = nthL (lsts ps) (x.1.N - x.2).toNat := by rw [if_pos hvl, lsts_nth]
    have hlu : (if x.1.N - x.2 < (ps.length : Int) then x.2 else (ps.length : Int)) = x.2 := if_pos hvl
    have hlm : nthL (lsts ps) (x.1.N - x.2).toNat ∈ lsts ps := nthL_mem (by rw [lsts_len]; omega)
    have hlc := hok _ hlm
    have hlb := (treeOf_ok hlc).2.2.2
    obtain ⟨hre, hrl⟩ := re_in (l := lsts ps) (n := x.1) (u := x.2) (by omega) (by omega) (by rw [lsts_len]; omega)
    have b1 := n0.setb (d := 42) (b := false) rfl q0
    refine wpIn_cond_false (b1.ev rfl) ?_
    refine wpIn_skip ?_
    refine x_then_n (x0 _ _ ?_)
    refine wpIn_seq_k (fun x0 q0 => ?_)
    refine ci_region (by kernel_rfl) (out_then (out_block out_rPost)) ?_
    refine mv b1 (fun x0 n0 => ?_)
    refine mv n0 (fun x0 b1 => ?_)
    have x0 := t0.nf
    refine k_call (xs := [.tmp 53, .tmp 54, .const (.int .i64 0)]) se b1 rfl rfl rfl (by decide) ok110 (shift_calls _ _ x0.il _ _ (if (x.1.N - x.2) < ps.length then (nthS ps (x.1.N - x.2).toNat).2.2 else []) ((if (x.1.N - x.2) < ps.length then (x.2) else ps.length)) 0 (x0.g 0) (x0.g 7) (hsm := (by rw [hle]; exact hls _ hlm)) (hl := (by rw [hle]; omega))) ?_
    rintro b1 t0 ⟨n0, b0, rfl, p0, f0, u0⟩
    have t0 := x0.callO p0 f0 u0
    refine ⟨_, rfl, fun u0 f0 => ?_⟩
    refine mv f0 (fun u0 p0 => ?_)
    refine r_extract sv p0 rfl rfl rfl rfl (by decide) (fun u0 f0 => ?_)
    refine r_extract sv f0 rfl rfl rfl rfl (by decide) (fun u0 p0 => ?_)
    refine asg p0 (fun u0 f0 => ?_)
    refine asg f0 (fun u0 p0 => ?_)
    refine wpList_nil (x_then_n (q0 _ _ ?_))
    refine wpIn_seq_k (fun q0 u0 => ?_)
    refine wpIn_seq_k (fun q0 f0 => ?_)
    refine ci_region (by kernel_rfl) (out_then (out_then (out_block out_rPost))) ?_
    refine mv p0 (fun q0 x0 => ?_)
    refine r_neq sv x0 rfl rfl rfl rfl (by decide) (fun q0 p0 => ?_)
    refine wpList_nil (x_then_n (f0 _ _ ?_))
    rcases Decidable.em (((sfE (if (x.1.N - x.2) < ps.length then (nthS ps (x.1.N - x.2).toNat).2.2 else []) ((if (x.1.N - x.2) < ps.length then (x.2) else ps.length)) 0)) = 0) with f0 | f0
    ·
     have hse0 := f0
     rw [hle, hlu] at hse0
     have hre0 : reE (lsts ps) x = 0 := (show reE (lsts ps) x = _ from hre).trans hse0
     have hSe := hrl hse0
     have hSe2 : (sfA (if x.1.N - x.2 < (ps.length : Int) then (nthS ps (x.1.N - x.2).toNat).2.2 else []) (if x.1.N - x.2 < (ps.length : Int) then x.2 else (ps.length : Int)) 0).reverse = (reL (lsts ps) x).reverse := by rw [show reL (lsts ps) x = _ from hSe, hle, hlu]
     have hsl : (sfA (if x.1.N - x.2 < (ps.length : Int) then (nthS ps (x.1.N - x.2).toNat).2.2 else []) (if x.1.N - x.2 < (ps.length : Int) then x.2 else (ps.length : Int)) 0).reverse.length ≤ 4000 := by rw [List.length_reverse]; exact Nat.le_trans (sfA_len _ _ _) (by rw [hle]; omega)
     have hsl2 : (sfA (if x.1.N - x.2 < (ps.length : Int) then (nthS ps (x.1.N - x.2).toNat).2.2 else []) (if x.1.N - x.2 < (ps.length : Int) then x.2 else (ps.length : Int)) 0).length ≤ 4000 := Nat.le_trans (sfA_len _ _ _) (by rw [hle]; omega)
     have q0 := p0.setb (d := 59) (b := false) rfl (by rw [(decide_eq_true f0)]; rfl)
     refine wpIn_cond_false (q0.ev rfl) ?_
     refine wpIn_skip ?_
     refine x_then_n (u0 _ _ ?_)
     refine wpIn_seq_k (fun u0 x0 => ?_)
     refine ci_region (by kernel_rfl) (out_then (out_block out_rPost)) ?_
     refine mv q0 (fun u0 b1 => ?_)
     have u0 := t0.nf
     refine k_call (xs := [.tmp 61]) se b1 rfl rfl rfl (by decide) ok126 (revN_calls _ _ u0.il n0 b0 (sfA (if (x.1.N - x.2) < ps.length then (nthS ps (x.1.N - x.2).toNat).2.2 else []) ((if (x.1.N - x.2) < ps.length then (x.2) else ps.length)) 0) (u0.z 6) (imm_row (i := 6) rfl)) ?_
     rintro b1 b0 ⟨rfl, n0, q0⟩
     have b0 := u0.callR (i := 6) rfl n0 q0
     refine ⟨_, rfl, fun q0 n0 => ?_⟩
     have q0 := (Reg.cons n0 (Reg.cons n0 (Reg.cons n0 n0 (rs (i := 56) (n' := ((sfA (if (x.1.N - x.2) < ps.length then (nthS ps (x.1.N - x.2).toNat).2.2 else []) ((if (x.1.N - x.2) < ps.length then (x.2) else ps.length)) 0).reverse).length) rfl (by simp only [List.length_reverse, List.set_cons_succ, List.set_cons_zero]))) (rs (i := 11) (n' := ((sfA (if (x.1.N - x.2) < ps.length then (nthS ps (x.1.N - x.2).toNat).2.2 else []) ((if (x.1.N - x.2) < ps.length then (x.2) else ps.length)) 0).reverse).length) rfl (by simp only [List.length_reverse, List.set_cons_succ, List.set_cons_zero]))) (rs (i := 61) (n' := ((sfA (if (x.1.N - x.2) < ps.length then (nthS ps (x.1.N - x.2).toNat).2.2 else []) ((if (x.1.N - x.2) < ps.length then (x.2) else ps.length)) 0).reverse).length) rfl (by simp only [List.length_reverse, List.set_cons_succ, List.set_cons_zero])))
     refine wpList_nil (x_then_n (x0 _ _ ?_))
     refine wpIn_seq_k (fun x0 n0 => ?_)
     refine ci_region (by kernel_rfl) (out_then (out_block out_rPost)) ?_
     refine m_load (i := 3) sv q0 b0 rfl rfl rfl rfl rfl Tryd.underlying22 rfl (by decide) (fun x0 u0 => ?_)
     refine mv u0 (fun x0 q0 => ?_)
     refine m_appendF (f := encN) (i := 4) (O) ((sfA (if (x.1.N - x.2) < ps.length then (nthS ps (x.1.N - x.2).toNat).2.2 else []) ((if (x.1.N - x.2) < ps.length then (x.2) else ps.length)) 0).reverse) sv q0 b0 rfl rfl rfl rfl rfl encN_len (encN_one _) Tryd.underlying22 zi39 rfl rfl (own_lnews (f := encN) (b0.res (i := 6) rfl)) rfl (by first | omega | (simp only [List.length_cons, List.length_nil]; omega)) (by decide) (fun x0 u0 b1 c1 z0 v0 y0 => ?_)
     have z0 : (O ++ ((sfA (if (x.1.N - x.2) < ps.length then (nthS ps (x.1.N - x.2).toNat).2.2 else []) ((if (x.1.N - x.2) < ps.length then (x.2) else ps.length)) 0).reverse) : List Nd).length = (O).length + ((sfA (if (x.1.N - x.2) < ps.length then (nthS ps (x.1.N - x.2).toNat).2.2 else []) ((if (x.1.N - x.2) < ps.length then (x.2) else ps.length)) 0).reverse).length := by (simp only [List.length_append, List.length_take, List.length_cons, List.length_nil]; done)
     have z0 := y0.erase 6
     refine m_store (i := 3) (cs' := [.slice b1 ((O ++ ((sfA (if (x.1.N - x.2) < ps.length then (nthS ps (x.1.N - x.2).toNat).2.2 else []) ((if (x.1.N - x.2) < ps.length then (x.2) else ps.length)) 0).reverse) : List Nd).length) c1]) se v0 z0 rfl rfl rfl rfl rfl sz22 rfl rfl rfl (fun y0 u0 x0 q0 => ?_)
     refine wpList_nil (x_then_n (n0 _ _ ?_))
     refine wpIn_seq_k (fun n0 u0 => ?_)
     refine ci_region (by kernel_rfl) (out_then (out_block out_rPost)) ?_
     refine m_load (i := 3) sv x0 q0 rfl rfl rfl rfl rfl Tryd.underlying22 rfl (by decide) (fun n0 y0 => ?_)
     refine r_len sv y0 rfl rfl rfl rfl Tryd.underlying22 (by decide) (fun n0 x0 => ?_)
     refine r_gtr sv x0 rfl rfl rfl rfl (by decide) (fun n0 y0 => ?_)
     refine wpList_nil (x_then_n (u0 _ _ ?_))
     rcases Decidable.em (16000 < (((O ++ ((sfA (if (x.1.N - x.2) < ps.length then (nthS ps (x.1.N - x.2).toNat).2.2 else []) ((if (x.1.N - x.2) < ps.length then (x.2) else ps.length)) 0).reverse) : List Nd).length : Nat) : Int)) with u0 | u0
     ·
      have n0 := y0.setb (d := 68) (b := true) rfl (decide_eq_true u0)
      refine wpIn_cond_true (n0.ev rfl) ?_
      refine ci_region (by kernel_rfl) (out_block out_rPost) ?_
      refine m_load (i := 3) sv n0 q0 rfl rfl rfl rfl rfl Tryd.underlying22 rfl (by decide) (fun x0 z0 => ?_)
      have x0 := own_cap (q0.res (i := 4) rfl)
      refine m_sliceP (q := 8000) sv z0 rfl rfl rfl rfl (by omega) Tryd.underlying22 sz39 (by omega) (by decide) (fun x0 n0 => ?_)
      have x0 := q0.trim encN_len (i := 4) (L := (O ++ ((sfA (if (x.1.N - x.2) < ps.length then (nthS ps (x.1.N - x.2).toNat).2.2 else []) ((if (x.1.N - x.2) < ps.length then (x.2) else ps.length)) 0).reverse))) rfl (8000) (by omega)
      have z0 := Reg.cons n0 n0 (rs (i := 70) (n' := ((O ++ ((sfA (if (x.1.N - x.2) < ps.length then (nthS ps (x.1.N - x.2).toNat).2.2 else []) ((if (x.1.N - x.2) < ps.length then (x.2) else ps.length)) 0).reverse)).take (8000)).length) rfl (by rw [List.length_take]; omega))
      refine m_store (i := 3) (cs' := [.slice b1 (((O ++ ((sfA (if (x.1.N - x.2) < ps.length then (nthS ps (x.1.N - x.2).toNat).2.2 else []) ((if (x.1.N - x.2) < ps.length then (x.2) else ps.length)) 0).reverse)).take (8000)).length) c1]) se z0 x0 rfl rfl rfl rfl rfl sz22 rfl rfl rfl (fun n0 v0 b0 h0 => ?_)
      refine wpList_nil ?_
      refine x_block_n ?_
      have b0 := h0.nf
      have h0 := b0.erase 5
      exact ⟨_, _, 6, h0, rfl, (O ++ ((sfA (if (x.1.N - x.2) < ps.length then (nthS ps (x.1.N - x.2).toNat).2.2 else []) ((if (x.1.N - x.2) < ps.length then (x.2) else ps.length)) 0).reverse)).take (8000), _, _, _, rfl, hO.cut (x := x) hre0 hSe2 (by omega), hev⟩
     ·
      have h0 := y0.setb (d := 68) (b := false) rfl (decide_eq_false u0)
      refine wpIn_cond_false (h0.ev rfl) ?_
      refine wpIn_skip ?_
      refine x_block_n ?_
      have h0 := q0.nf
      have q0 := h0.erase 5
      exact ⟨_, _, 6, q0, rfl, O ++ ((sfA (if (x.1.N - x.2) < ps.length then (nthS ps (x.1.N - x.2).toNat).2.2 else []) ((if (x.1.N - x.2) < ps.length then (x.2) else ps.length)) 0).reverse), _, _, _, rfl, hO.step (x := x) hre0 hSe2 (.inl (by omega)), hev⟩
    ·
     have hpe0 := f0
     rw [hle, hlu] at hpe0
     have hpe := poE_err hc hok hxm (fun q => hpe0 ((show reE (lsts ps) x = _ from hre).symm.trans q))
     have q0 : sfE (if x.1.N - x.2 < (ps.length : Int) then (nthS ps (x.1.N - x.2).toNat).2.2 else []) (if x.1.N - x.2 < (ps.length : Int) then x.2 else (ps.length : Int)) 0 = 2 := by rw [hle, hlu]; exact (sf_max hlc hx0).resolve_left hpe0
     have h0 := p0.setb (d := 59) (b := true) rfl (by rw [(decide_eq_false f0)]; rfl)
     refine wpIn_cond_true (h0.ev rfl) ?_
     refine wpIn_seq_k (fun f0 p0 => ?_)
     refine ci_region (by kernel_rfl) (out_then (out_then (out_block out_rPost))) ?_
     refine mv h0 (fun f0 u0 => ?_)
     refine m_store (i := 1) (cs' := [.slice none 0 0]) se u0 t0 rfl rfl rfl rfl rfl sz22 rfl rfl rfl (fun f0 h0 y0 b0 => ?_)
     refine m_store (i := 2) (cs' := [.int .i64 ((sfE (if (x.1.N - x.2) < ps.length then (nthS ps (x.1.N - x.2).toNat).2.2 else []) ((if (x.1.N - x.2) < ps.length then (x.2) else ps.length)) 0))]) se y0 b0 rfl rfl rfl rfl rfl sz27 rfl rfl rfl (fun h0 f0 u0 t0 => ?_)
     refine wpList_nil (x_then_n (p0 _ _ ?_))
     refine wpIn_ret ?_
     refine x_then_r ?_
     refine x_block_r ?_
     have p0 := t0.nf
     have t0 := p0.erase 6
     have p0 := t0.erase 5
     exact ⟨_, _, 6, p0, rfl, rfl, _, _, _, _, rfl, ⟨hpe.1.trans q0.symm, hpe.2⟩⟩
 ·
  rintro p0 m1 q0 ⟨O, ev, Ao, co, rfl, hO, hev⟩ t0
  have q0 := Reg.marked j0 p0
  have hOl := hO.len hc (List.prefix_refl _)
  refine x_block_n ?_
  refine x_then_n (c0 _ _ ?_)
  refine wp_seq_k (fun c0 p0 => ?_)
  refine wsc (fun c0 u0 => ?_)
  refine m_load (i := 3) sv q0 t0 rfl rfl rfl rfl rfl Tryd.underlying22 rfl (by decide) (fun c0 f0 => ?_)
  refine r_len sv f0 rfl rfl rfl rfl Tryd.underlying22 (by decide) (fun c0 q0 => ?_)
  refine r_gtr sv q0 rfl rfl rfl rfl (by decide) (fun c0 f0 => ?_)
  refine wpList_nil (x_then_n (u0 _ _ ?_))
  rcases Decidable.em (4000 < (((O).length : Nat) : Int)) with u0 | u0
  ·
   obtain ⟨c0, q0⟩ := put_big hc hO (by omega)
   have h0 := f0.setb (d := 73) (b := true) rfl (decide_eq_true u0)
   refine wp_cond_true (h0.ev rfl) ?_
   refine wsc (fun b0 y0 => ?_)
   refine m_store (i := 1) (cs' := [.slice none 0 0]) se h0 t0 rfl rfl rfl rfl rfl sz22 rfl rfl rfl (fun b0 v0 n0 z0 => ?_)
   refine m_store (i := 2) (cs' := [.int .i64 21]) se n0 z0 rfl rfl rfl rfl rfl sz27 rfl rfl rfl (fun v0 b0 h0 x0 => ?_)
   refine wpList_nil (x_then_n (y0 _ _ ?_))
   refine wp_ret ?_
   refine x_then_r ?_
   have y0 := x0.nf
   obtain ⟨x0, b0⟩ := y0.shut (i := 6) rfl [] (fun _ h => by cases h)
   refine m_mark (.inl rfl) h0 rfl x0 (res2c h0 rfl rfl rfl (box_cell (b0.res (i := 1) rfl) rfl) (box_cell (b0.res (i := 2) rfl) rfl) Tryd.underlying22 rfl Tryd.underlying27 rfl) ?_
   have x0 : poA t 0 (lsts ps) = [] := by exact q0
   rw [x0]
   refine ⟨none, 0, ?_, b0.fr, ⟨Nat.le_refl _, RowI.nil _ _ _ _⟩⟩
   exact ret_t2 rfl (ret_i (by exact c0.symm))
  ·
   obtain ⟨c0, q0⟩ := put_all hc hO (by omega)
   have hrs := put_sml hc hsm hls hO (by omega)
   have hrl : O.reverse.length = O.length := List.length_reverse
   have b0 := f0.setb (d := 73) (b := false) rfl (decide_eq_false u0)
   refine wp_cond_false (b0.ev rfl) ?_
   refine wp_skip ?_
   refine x_then_n (p0 _ _ ?_)
   refine wsc (fun p0 u0 => ?_)
   refine m_load (i := 3) sv b0 t0 rfl rfl rfl rfl rfl Tryd.underlying22 rfl (by decide) (fun p0 f0 => ?_)
   have p0 := t0.nf
   refine k_call (xs := [.tmp 74]) se f0 rfl rfl rfl (by decide) ok126 (revN_calls _ _ p0.il Ao co O (p0.z 4) (imm_row (i := 4) rfl)) ?_
   rintro f0 t0 ⟨rfl, b0, x0⟩
   have t0 := p0.callR (i := 4) rfl b0 x0
   have x0 := St.cast (m' := [.box i0 131 [.func (.func 114) #[] #[.pointer (some ⟨psg, 0, none⟩)]], .box d0 22 [.slice none 0 0], .box k0 27 [.int .i64 (ev)], .box m0 22 [.slice Ao ((O.reverse).length) co], .row Ao ((O.reverse).length) co 39 4 (encNs O.reverse)]) t0 (by simp only [List.length_reverse, List.set_cons_succ, List.set_cons_zero])
   refine ⟨_, rfl, fun t0 m0 => ?_⟩
   have t0 := (Reg.cons m0 (Reg.cons m0 m0 (rs (i := 71) (n' := (O.reverse).length) rfl (by simp only [List.length_reverse, List.set_cons_succ, List.set_cons_zero]))) (rs (i := 74) (n' := (O.reverse).length) rfl (by simp only [List.length_reverse, List.set_cons_succ, List.set_cons_zero])))
   refine wpList_nil (x_then_n (u0 _ _ ?_))
   refine wp_seq_k (fun u0 m0 => ?_)
   refine wsc (fun u0 k0 => ?_)
   refine m_load (i := 3) sv t0 x0 rfl rfl rfl rfl rfl Tryd.underlying22 rfl (by decide) (fun u0 d0 => ?_)
   have u0 := x0.nf
   have x0 := own_cap (u0.res (i := 4) rfl)
   obtain ⟨t0, i0⟩ := u0.row_data (i := 4) rfl (fun _ h => h)
   have u0 := t0.data (dRow 4 Ao ((O.reverse).length) co (encNs O.reverse)) ⟨x0, i0⟩
   refine k_call (xs := [.tmp 76]) se d0 rfl rfl rfl (by decide) ok40 (check_calls _ _ u0.il _ _ _ (u0.g 0) (u0.g 7) (hsm := hrs) (hl := (by omega))) ?_
   rintro d0 i0 ⟨rfl, t0⟩
   have i0 := u0.below t0.below
   refine ⟨_, rfl, fun t0 u0 => ?_⟩
   refine asg u0 (fun t0 d0 => ?_)
   refine wpList_nil (x_then_n (k0 _ _ ?_))
   refine wsc (fun k0 t0 => ?_)
   refine mv d0 (fun k0 u0 => ?_)
   refine r_neq sv u0 rfl rfl rfl rfl (by decide) (fun k0 d0 => ?_)
   refine wpList_nil (x_then_n (t0 _ _ ?_))
   rcases Decidable.em (((chk O.reverse)) = 0) with t0 | t0
   ·
    have k0 := d0.setb (d := 79) (b := false) rfl (by rw [(decide_eq_true t0)]; rfl)
    refine wp_cond_false (k0.ev rfl) ?_
    refine wp_skip ?_
    refine x_then_n (m0 _ _ ?_)
    refine wsc (fun m0 u0 => ?_)
    refine m_load (i := 3) sv k0 i0 rfl rfl rfl rfl rfl Tryd.underlying22 rfl (by decide) (fun m0 x0 => ?_)
    refine m_store (i := 1) (cs' := [.slice Ao ((O.reverse).length) co]) se x0 i0 rfl rfl rfl rfl rfl sz22 rfl rfl rfl (fun m0 k0 b0 p0 => ?_)
    refine m_store (i := 2) (cs' := [.int .i64 0]) se b0 p0 rfl rfl rfl rfl rfl sz27 rfl rfl rfl (fun k0 m0 x0 f0 => ?_)
    refine wpList_nil (x_then_n (u0 _ _ ?_))
    refine wp_ret ?_
    have u0 := f0.nf
    obtain ⟨f0, m0⟩ := u0.shut (i := 6) rfl [dRow 4 Ao ((O.reverse).length) co (encNs O.reverse)] (by intro d hd; simp only [List.mem_cons, List.not_mem_nil, or_false] at hd; rcases hd with rfl; exact ⟨List.mem_of_getElem? (i := 7) rfl, datC_row (by decide) _ _ _ _⟩)
    refine m_mark (.inl rfl) x0 rfl f0 (res2c x0 rfl rfl rfl (box_cell (m0.res (i := 1) rfl) rfl) (box_cell (m0.res (i := 2) rfl) rfl) Tryd.underlying22 rfl Tryd.underlying27 rfl) ?_
    have f0 : poA t 0 (lsts ps) = O.reverse := by rw [q0, if_pos (by assumption)]
    rw [f0]
    refine ⟨Ao, co, ?_, m0.fr, m0.rx 0⟩
    exact ret_t2 rfl (ret_i (by first | exact c0.symm | (rw [c0]; symm; assumption)))
   ·
    have m0 := d0.setb (d := 79) (b := true) rfl (by rw [(decide_eq_false t0)]; rfl)
    refine wp_cond_true (m0.ev rfl) ?_
    refine wsc (fun t0 d0 => ?_)
    refine mv m0 (fun t0 f0 => ?_)
    refine m_store (i := 1) (cs' := [.slice none 0 0]) se f0 i0 rfl rfl rfl rfl rfl sz22 rfl rfl rfl (fun t0 m0 x0 u0 => ?_)
    refine m_store (i := 2) (cs' := [.int .i64 ((chk O.reverse))]) se x0 u0 rfl rfl rfl rfl rfl sz27 rfl rfl rfl (fun m0 t0 f0 i0 => ?_)
    refine wpList_nil (x_then_n (d0 _ _ ?_))
    refine wp_ret ?_
    refine x_then_r ?_
    have d0 := i0.nf
    obtain ⟨i0, t0⟩ := d0.shut (i := 6) rfl [] (fun _ h => by cases h)
    refine m_mark (.inl rfl) f0 rfl i0 (res2c f0 rfl rfl rfl (box_cell (t0.res (i := 1) rfl) rfl) (box_cell (t0.res (i := 2) rfl) rfl) Tryd.underlying22 rfl Tryd.underlying27 rfl) ?_
    have i0 : poA t 0 (lsts ps) = [] := by (rw [q0, if_neg (by assumption)])
    rw [i0]
    refine ⟨none, 0, ?_, t0.fr, ⟨Nat.le_refl _, RowI.nil _ _ _ _⟩⟩
    exact ret_t2 rfl (ret_i (by first | exact c0.symm | (rw [c0]; symm; assumption)))
 ·
  rintro c0 cc pre m1 t0 hpre ⟨rfl, O, ev, Ao, co, rfl, hev⟩ i0
  have t0 := Reg.marked j0 c0
  refine wp_ret ?_
  refine x_block_r ?_
  refine x_then_r ?_
  have c0 := i0.nf
  obtain ⟨i0, j0⟩ := c0.shut (i := 6) rfl [] (fun _ h => by cases h)
  refine m_mark (.inl rfl) t0 rfl i0 (res2c t0 rfl rfl rfl (box_cell (j0.res (i := 1) rfl) rfl) (box_cell (j0.res (i := 2) rfl) rfl) Tryd.underlying22 rfl Tryd.underlying27 rfl) ?_
  have i0 : poA t 0 (lsts ps) = [] := by exact hev.2
  rw [i0]
  refine ⟨none, 0, ?_, j0.fr, ⟨Nat.le_refl _, RowI.nil _ _ _ _⟩⟩
  exact ret_t2 rfl (ret_i (by exact hev.1.symm))
end Go.Proofs.YtcfponnkfhkbdaaDoor
/- Contracts of functions, one theorem each: what the call returns, and that nothing old is changed. Printed by gen.py. -/
namespace Go.Proofs.YtcfponnkfhkbdaaDoor
open Go Go.RowKit
set_option linter.unusedSimpArgs false
set_option linter.unusedVariables false
set_option maxRecDepth 100000 in
set_option maxHeartbeats 1000000 in
theorem inst_calls (w0 : World) (Z : Nat → Prop) (hZ : ∀ k, Z k → k < w0.heap.size) (tA : Option Addr) (tc : Nat) (t : List Nd) (psA : Option Addr) (psc : Nat) (ps : List Sl) (hShp : Shapes w0 Z) (ht : (dRow 4 tA t.length tc (encNs t)).φ w0 Z) (hps : (dRow 1 psA ps.length psc (encSs ps)).φ w0 Z) (hpss : (dAll ps).φ w0 Z) (hsm : sml t := by first | assumption | omega | (simp; done) | (simp; omega)) (hl : t.length ≤ 1000000 := by first | assumption | omega | (simp; done) | (simp; omega)) (hls : ∀ x ∈ lsts ps, sml x := by first | assumption | omega | (simp; done) | (simp; omega)) (hlb : ∀ x ∈ lsts ps, x.length ≤ 1000000 := by first | assumption | omega | (simp; done) | (simp; omega)) (hl0 : ps.length ≤ 1000 := by first | assumption | omega | (simp; done) | (simp; omega)) :
    Calls Tryd.prog 87 [.slice tA t.length tc, .slice psA ps.length psc].toArray w0 (fun e w' => ∃ (rA0 : Option Addr) (rc0 : Nat), e = .returned (.tuple #[.slice rA0 (inA t (lsts ps)).length rc0, .int .i64 (inE t (lsts ps))]) ∧ Fr none_ w0 w' ∧ (dRow 4 rA0 ((inA t (lsts ps)).length) rc0 (encNs (inA t (lsts ps)))).φ w' (nxt Z w0 w')) := by
 have b0 := s0 (M := none_) hZ (zc (d := dShapes) hShp (zc ht (zc hps (zc hpss zn))))
 refine c_enter Tryd.func87 rfl Tryd.ntmps87 rfl (fun c0 d0 => ?_)
 refine wsc (fun c0 f0 => ?_)
 refine m_box (cs := [.slice psA ps.length psc]) sv d0 b0 rfl rfl rfl rfl (by decide) (fun c0 h0 i0 j0 k0 => ?_)
 refine asg j0 (fun h0 c0 => ?_)
 refine asg c0 (fun h0 j0 => ?_)
 refine wpList_nil (x_then_n (f0 _ _ ?_))
 refine wp_seq_k (fun f0 h0 => ?_)
 refine wsc (fun f0 c0 => ?_)
 refine mv j0 (fun f0 d0 => ?_)
 have f0 := k0.data (dAll [((tA, tc, t) : Sl)]) (all_cons (k0.get (i := 1) rfl) all_nil)
 refine mbs [(0, .tmp 9)] [.slice tA t.length tc] sv d0 f0 Tryd.underlying42 zi22 (fun k0 j0 b0 m0 n0 => ?_)
 refine m_load (i := 0) sv m0 n0 rfl rfl rfl rfl rfl Tryd.underlying42 rfl (by decide) (fun b0 j0 => ?_)
 refine m_appendF (f := encS) (i := 1) ([((tA, tc, t) : Sl)]) (ps) sv j0 n0 rfl rfl rfl rfl rfl encS_len (encS_one _) Tryd.underlying42 zi22 rfl rfl (n0.row (i := 2) rfl).2.news rfl (by first | omega | (simp only [List.length_cons, List.length_nil]; omega)) (by decide) (fun b0 m0 k0 f0 d0 o0 p0 => ?_)
 have d0 : (([((tA, tc, t) : Sl)]) ++ ps : List Sl).length = ps.length + 1 := by (simp only [List.length_append, List.length_take, List.length_cons, List.length_nil]; omega)
 have d0 := p0.data (dAll (([((tA, tc, t) : Sl)]) ++ ps)) (all_append (p0.get (i := 4) rfl) (p0.get (i := 3) rfl))
 refine r_len sv o0 rfl rfl rfl rfl Tryd.underlying42 (by decide) (fun p0 m0 => ?_)
 refine mv m0 (fun p0 o0 => ?_)
 refine wpList_nil (x_then_n (c0 _ _ ?_))
 refine wp_block ?_
 refine wp_loop_ghost (fun gn ga gw => ∃ k : Nat, (Reg ga 29 [(1000000, .bool false), (0, .slice tA t.length tc), (3, .pointer (some ⟨i0, 0, none⟩)), (12, .slice k0 ((([((tA, tc, t) : Sl)]) ++ ps : List Sl).length) f0), (13, .int .i64 (((([((tA, tc, t) : Sl)]) ++ ps : List Sl).length : Nat) : Int)), (14, .int .i64 ((k : Nat) : Int))]) ∧ (St w0 Z none_ gw [.box i0 42 [.slice psA ps.length psc], .row k0 ((([((tA, tc, t) : Sl)]) ++ ps : List Sl).length) f0 22 1 (encSs (([((tA, tc, t) : Sl)]) ++ ps))] [dShapes, dRow 4 tA t.length tc (encNs t), dRow 1 psA ps.length psc (encSs ps), dAll ps, dAll [((tA, tc, t) : Sl)], dAll (([((tA, tc, t) : Sl)]) ++ ps)]) ∧ (k ≤ ps.length + 1) ∧ (∀ i, i < k → chk (nthL (t :: lsts ps) i) = 0) ∧ (ps.length + 1 - k) = gn) _ ⟨0, (o0.sub (rc rfl (rc rfl (rc rfl (rc rfl (rc rfl (rc rfl rnl))))))), d0, by omega, (fun _ h => by omega), rfl⟩ ?_
 rintro o0 d0 f0 ⟨k, k0, c0, hk, hck, p0⟩
 have hLl : (t :: lsts ps).length = ps.length + 1 := by rw [List.length_cons, lsts_len]
 refine wsc (fun p0 f0 => ?_)
 refine r_lss sv k0 rfl rfl rfl rfl (by decide) (fun p0 d0 => ?_)
 refine wpList_nil (x_then_n (f0 _ _ ?_))
 refine wp_seq_k (fun f0 p0 => ?_)
 rcases Decidable.em (((k : Nat) : Int) < (((([((tA, tc, t) : Sl)]) ++ ps : List Sl).length : Nat) : Int)) with f0 | f0
 ·
  have hne : (nthS ([((tA, tc, t) : Sl)] ++ ps) k).2.2 = nthL (t :: lsts ps) k := nthS_cons _ _ _
  have hmm : nthL (t :: lsts ps) k = t ∨ nthL (t :: lsts ps) k ∈ lsts ps := by have := nthL_mem (l := t :: lsts ps) (k := k) (by rw [List.length_cons, lsts_len]; omega); simpa using this
  have hms : sml (nthS ([((tA, tc, t) : Sl)] ++ ps) k).2.2 := by rw [hne]; rcases hmm with q | q; rw [q]; exact hsm; exact hls _ q
  have hml : (nthS ([((tA, tc, t) : Sl)] ++ ps) k).2.2.length ≤ 1000000 := by rw [hne]; rcases hmm with q | q; rw [q]; exact hl; exact hlb _ q
  have k0 := d0.setb (d := 15) (b := true) rfl (decide_eq_true f0)
  refine wp_cond_true (k0.ev rfl) ?_
  refine wp_skip ?_
  refine x_then_n (p0 _ _ ?_)
  refine wp_seq_k (fun p0 o0 => ?_)
  refine wp_block ?_
  refine wsc (fun p0 m0 => ?_)
  refine m_index (i := k) (j := k * 1) sv k0 rfl rfl rfl rfl Tryd.underlying42 sz22 (by omega) (by omega) (own_ss (t := ([((tA, tc, t) : Sl)]) ++ ps) (k := k) (c0.res (i := 1) rfl) (by omega)).some_ rfl (by decide) (fun p0 b0 => ?_)
  refine m_loadE sv b0 rfl rfl rfl 0 (k * 1) (own_ss (t := ([((tA, tc, t) : Sl)]) ++ ps) (k := k) (c0.res (i := 1) rfl) (by omega)) rfl rfl Tryd.underlying22 rfl (by decide) (fun p0 k0 => ?_)
  have p0 := c0.data (dRow 4 ((nthS (([((tA, tc, t) : Sl)]) ++ ps) k).1) ((nthS (([((tA, tc, t) : Sl)]) ++ ps) k).2.2.length) ((nthS (([((tA, tc, t) : Sl)]) ++ ps) k).2.1) (encNs ((nthS (([((tA, tc, t) : Sl)]) ++ ps) k).2.2))) (all_at (t := ([((tA, tc, t) : Sl)]) ++ ps) (k := k) (c0.get (i := 5) rfl) (by omega))
  refine asg k0 (fun b0 j0 => ?_)
  refine wpList_nil (x_then_n (m0 _ _ ?_))
  refine wsc (fun m0 b0 => ?_)
  refine mv j0 (fun m0 k0 => ?_)
  have m0 := p0.nf
  refine k_call (xs := [.tmp 18]) se k0 rfl rfl rfl (by decide) ok40 (check_calls _ _ m0.il _ _ ((nthS (([((tA, tc, t) : Sl)]) ++ ps) k).2.2) (m0.g 0) (m0.g 6)) ?_
  rintro k0 p0 ⟨rfl, j0⟩
  have p0 := m0.below j0.below
  refine ⟨_, rfl, fun j0 m0 => ?_⟩
  refine asg m0 (fun j0 k0 => ?_)
  refine wpList_nil (x_then_n (b0 _ _ ?_))
  refine wsc (fun b0 j0 => ?_)
  refine mv k0 (fun b0 m0 => ?_)
  refine r_neq sv m0 rfl rfl rfl rfl (by decide) (fun b0 k0 => ?_)
  refine wpList_nil (x_then_n (j0 _ _ ?_))
  rcases Decidable.em (((chk ((nthS (([((tA, tc, t) : Sl)]) ++ ps) k).2.2))) = 0) with j0 | j0
  ·
   have b0 := k0.setb (d := 21) (b := false) rfl (by rw [(decide_eq_true j0)]; rfl)
   refine wp_cond_false (b0.ev rfl) ?_
   refine wp_skip ?_
   refine x_block_n ?_
   refine x_then_n (o0 _ _ ?_)
   refine c_region ?_
   refine r_add (z := ((k + 1 : Nat) : Int)) sv b0 rfl rfl rfl rfl (by decide) (by omega) (by omega) (by omega) (fun o0 m0 => ?_)
   refine mv m0 (fun o0 b0 => ?_)
   refine wpList_nil ?_
   have o0 := p0.forget 6
   exact ⟨_, by omega, k + 1, (b0.sub (rc rfl (rc rfl (rc rfl (rc rfl (rc rfl (rc rfl rnl))))))), o0, by omega, hyp_step hck (by rw [← hne]; assumption), rfl⟩
  ·
   have o0 := k0.setb (d := 21) (b := true) rfl (by rw [(decide_eq_false j0)]; rfl)
   refine wp_cond_true (o0.ev rfl) ?_
   refine wsc (fun j0 k0 => ?_)
   refine mv o0 (fun j0 b0 => ?_)
   refine asg b0 (fun j0 o0 => ?_)
   refine asg o0 (fun j0 b0 => ?_)
   refine wpList_nil (x_then_n (k0 _ _ ?_))
   refine wp_ret ?_
   refine x_block_r ?_
   refine x_then_r ?_
   refine x_then_r ?_
   refine x_block_r ?_
   refine x_then_r ?_
   refine e_ret2 b0 rfl rfl rfl rfl ?_
   have b0 : inA t (lsts ps) = [] := (in_err (by rw [ckE_at hck (by rw [List.length_cons, lsts_len]; omega) (by rw [← hne]; assumption), ← hne]; assumption)).2
   rw [b0]
   refine ⟨none, 0, ?_, p0.fr, ⟨Nat.le_refl _, RowI.nil _ _ _ _⟩⟩
   exact ret_t2 rfl (ret_i (by (rw [(in_err (by rw [ckE_at hck (by rw [List.length_cons, lsts_len]; omega) (by rw [← hne]; assumption), ← hne]; assumption)).1, ckE_at hck (by rw [List.length_cons, lsts_len]; omega) (by rw [← hne]; assumption), hne]; done)))
 ·
  obtain ⟨hca, hco⟩ := ckE_all hck (by rw [List.length_cons, lsts_len]; omega)
  have hct : chk t = 0 := hco t (by simp)
  have hol : oks (lsts ps) := fun p hp => hco p (by simp [hp])
  have p0 := d0.setb (d := 15) (b := false) rfl (decide_eq_false f0)
  refine wp_cond_false (p0.ev rfl) ?_
  refine wp_exit ?_
  refine x_then_e ?_
  refine x_then_e ?_
  refine x_block_eq ?_
  refine x_then_n (h0 _ _ ?_)
  refine wsc (fun h0 f0 => ?_)
  refine mv p0 (fun h0 d0 => ?_)
  refine r_makeFunc sv d0 rfl rfl rfl (by decide) (fun h0 p0 => ?_)
  have h0 := c0.nf
  obtain ⟨c0, d0⟩ := h0.box_data (i := 0) rfl (fun _ h => h)
  have h0 := c0.data (dBox i0 [.slice psA ps.length psc]) d0
  refine k_call (xs := [.tmp 24, .tmp 25]) se p0 rfl rfl rfl (by decide) ok113 (put_calls _ _ h0.il _ _ _ i0 psA psc ps (h0.g 0) (h0.g 1) (h0.g 2) (h0.g 3) (h0.g 6) (hsm := hsm) (hl := hl) (hc := hct) (hok := hol) (hls := hls) (hl0 := hl0)) ?_
  rintro p0 i0 ⟨d0, c0, rfl, b0, k0⟩
  have i0 := h0.below b0.below
  have b0 := h0.dN i0 k0
  refine ⟨_, rfl, fun i0 k0 => ?_⟩
  refine r_extract sv k0 rfl rfl rfl rfl (by decide) (fun i0 h0 => ?_)
  refine r_extract sv h0 rfl rfl rfl rfl (by decide) (fun i0 k0 => ?_)
  refine asg k0 (fun i0 h0 => ?_)
  refine asg h0 (fun i0 k0 => ?_)
  refine wpList_nil (x_then_n (f0 _ _ ?_))
  refine wp_ret ?_
  refine e_ret2 k0 rfl rfl rfl rfl ?_
  have k0 : inA t (lsts ps) = poA t 0 (lsts ps) := (in_ok hca).2
  rw [k0]
  refine ⟨d0, c0, ?_, b0.fr, b0.rx 7⟩
  exact ret_t2 rfl (ret_i (by exact (in_ok hca).1.symm))
end Go.Proofs.YtcfponnkfhkbdaaDoor
/- Contracts of functions, one theorem each: what the call returns, and that nothing old is changed. Printed by gen.py. -/
namespace Go.Proofs.YtcfponnkfhkbdaaDoor
open Go Go.RowKit
set_option linter.unusedSimpArgs false
set_option linter.unusedVariables false
set_option maxRecDepth 100000 in
set_option maxHeartbeats 1000000 in
theorem done_calls (w0 : World) (Z : Nat → Prop) (hZ : ∀ k, Z k → k < w0.heap.size) (mg : Nat) (mt : TypeId) (me : Int) (mr : List Value) (tA : Option Addr) (tc : Nat) (t : List Nd) (hShp : Shapes w0 Z) (hm : (Res.box mg mt (.int .i64 me :: mr)).holds w0) (hmz : ¬ Z mg) (ht : (dRow 4 tA t.length tc (encNs t)).φ w0 Z) (hsm : sml t := by first | assumption | omega | (simp; done) | (simp; omega)) (hl : t.length ≤ 1000000 := by first | assumption | omega | (simp; done) | (simp; omega)) :
    Calls Tryd.prog 36 [.pointer (some ⟨mg, 0, none⟩), .slice tA t.length tc].toArray w0 (fun e w' => ∃ (rA0 : Option Addr) (rc0 : Nat), e = .returned (.tuple #[.slice rA0 ((if (if me = 0 then chk t else me) = 0 then t else [])).length rc0, .int .i64 ((if me = 0 then chk t else me))]) ∧ Fr (· = mg) w0 w' ∧ (Res.box mg mt (.int .i64 (if me = 0 then chk t else me) :: mr)).holds w' ∧ (dRow 4 rA0 (((if (if me = 0 then chk t else me) = 0 then t else [])).length) rc0 (encNs (if (if me = 0 then chk t else me) = 0 then t else []))).φ w' (nxt Z w0 w')) := by
 have b0 := sM hm hmz hZ (zc (d := dShapes) hShp (zc ht zn))
 refine c_enter Tryd.func36 rfl Tryd.ntmps36 rfl (fun c0 d0 => ?_)
 refine wsc (fun c0 f0 => ?_)
 refine asg d0 (fun c0 h0 => ?_)
 refine asg h0 (fun c0 d0 => ?_)
 refine wpList_nil (x_then_n (f0 _ _ ?_))
 refine c_join (fun ga gw => Reg ga 26 [(0, .pointer (some ⟨mg, 0, none⟩)), (1, .slice tA t.length tc), (4, .slice none 0 0), (5, .int .i64 0), (1000000, .bool false)] ∧ St w0 Z (· = mg) gw [.box mg mt (.int .i64 ((if ((me) = 0) then ((chk t)) else (me))) :: mr)] [dShapes, dRow 4 tA t.length tc (encNs t)]) ?_ ?_
 ·
  refine wsc (fun f0 c0 => ?_)
  refine mv d0 (fun f0 h0 => ?_)
  refine r_nilCheck sv h0 rfl rfl rfl (by decide) (fun f0 d0 => ?_)
  refine m_field (j' := 0) sv d0 rfl rfl rfl Tryd.underlying59 rfl sz27 rfl rfl (by decide) (fun f0 h0 => ?_)
  refine m_load (i := 0) sv h0 b0 rfl rfl rfl rfl rfl Tryd.underlying27 rfl (by decide) (fun f0 d0 => ?_)
  refine r_eql sv d0 rfl rfl rfl rfl (by decide) (fun f0 h0 => ?_)
  refine wpList_nil (x_then_n (c0 _ _ ?_))
  rcases Decidable.em ((me) = 0) with c0 | c0
  ·
   have f0 := h0.setb (d := 10) (b := true) rfl (decide_eq_true c0)
   refine wp_cond_true (f0.ev rfl) ?_
   refine c_region ?_
   refine mv f0 (fun d0 i0 => ?_)
   refine mv i0 (fun d0 f0 => ?_)
   have d0 := b0.nf
   refine k_call (xs := [.tmp 12]) se f0 rfl rfl rfl (by decide) ok40 (check_calls _ _ d0.il _ _ _ (d0.g 0) (d0.g 1)) ?_
   rintro f0 i0 ⟨rfl, j0⟩
   have i0 := d0.below j0.below
   refine ⟨_, rfl, fun j0 d0 => ?_⟩
   refine r_nilCheck sv d0 rfl rfl rfl (by decide) (fun j0 f0 => ?_)
   refine m_field (j' := 0) sv f0 rfl rfl rfl Tryd.underlying59 rfl sz27 rfl rfl (by decide) (fun j0 d0 => ?_)
   refine m_store (i := 0) (cs' := (.int .i64 ((chk t)) :: mr)) se d0 i0 rfl rfl rfl rfl rfl sz27 rfl rfl rfl (fun j0 f0 k0 m0 => ?_)
   refine wpList_nil ?_
   have hSj := m0
   exact x_then_n ⟨(k0.sub (rc rfl (rc rfl (rc rfl (rc rfl (rc rfl rnl)))))), by rw [(show (((if ((me) = 0) then ((chk t)) else (me))) : Int) = ((chk t)) by (simp only [decide_eq_true c0, if_pos c0, bl]; done))]; exact hSj⟩
  ·
   have k0 := h0.setb (d := 10) (b := false) rfl (decide_eq_false c0)
   refine wp_cond_false (k0.ev rfl) ?_
   refine wp_skip ?_
   have hSj := b0
   exact x_then_n ⟨(k0.sub (rc rfl (rc rfl (rc rfl (rc rfl (rc rfl rnl)))))), by rw [(show (((if ((me) = 0) then ((chk t)) else (me))) : Int) = (me) by (simp only [decide_eq_false c0, if_neg c0, bl]; done))]; exact hSj⟩
 rintro k0 c0 ⟨b0, h0⟩
 refine wp_seq_k (fun c0 k0 => ?_)
 refine wsc (fun c0 m0 => ?_)
 refine mv b0 (fun c0 f0 => ?_)
 refine r_nilCheck sv f0 rfl rfl rfl (by decide) (fun c0 b0 => ?_)
 refine m_field (j' := 0) sv b0 rfl rfl rfl Tryd.underlying59 rfl sz27 rfl rfl (by decide) (fun c0 f0 => ?_)
 refine m_load (i := 0) sv f0 h0 rfl rfl rfl rfl rfl Tryd.underlying27 rfl (by decide) (fun c0 b0 => ?_)
 refine r_neq sv b0 rfl rfl rfl rfl (by decide) (fun c0 f0 => ?_)
 refine wpList_nil (x_then_n (m0 _ _ ?_))
 rcases Decidable.em (((if ((me) = 0) then ((chk t)) else (me))) = 0) with m0 | m0
 ·
  have c0 := f0.setb (d := 20) (b := false) rfl (by rw [(decide_eq_true m0)]; rfl)
  refine wp_cond_false (c0.ev rfl) ?_
  refine wp_skip ?_
  refine x_then_n (k0 _ _ ?_)
  refine wsc (fun k0 b0 => ?_)
  refine mv c0 (fun k0 j0 => ?_)
  refine asg j0 (fun k0 c0 => ?_)
  refine asg c0 (fun k0 j0 => ?_)
  refine wpList_nil (x_then_n (b0 _ _ ?_))
  refine wp_ret ?_
  refine e_ret2 j0 rfl rfl rfl rfl ?_
  have j0 : (if (if me = 0 then chk t else me) = 0 then t else []) = t := by simp [m0]
  rw [j0]
  refine ⟨tA, tc, ?_, h0.fr, (by rw [show (if me = 0 then chk t else me : Int) = ((if ((me) = 0) then ((chk t)) else (me))) by (simp [m0]; done)]; exact h0.res (i := 0) rfl), h0.rx 1⟩
  exact ret_t2 rfl (ret_i (by (simp [m0]; done)))
 ·
  have j0 := f0.setb (d := 20) (b := true) rfl (by rw [(decide_eq_false m0)]; rfl)
  refine wp_cond_true (j0.ev rfl) ?_
  refine wp_seq_k (fun f0 b0 => ?_)
  obtain ⟨f0, k0, c0⟩ := h0.agree
  refine d_reg3 (n := 6) c0 2 (pc 0 0 pn) (pan_then (pan_then pan_body)) (fun k0 f0 h0 d0 i0 n0 => ?_)
  refine dtM 0 f0 j0 n0 (fun d0 k0 => ?_)
  refine dtN 1 f0 k0 n0 (fun d0 j0 => ?_)
  refine dtF 2 0 f0 j0 n0 Tryd.underlying59 sz27 (fun d0 k0 => ?_)
  refine dtC 3 0 f0 k0 n0 Tryd.underlying27 (fun d0 j0 => ?_)
  refine dtA 4 f0 j0 n0 (fun d0 k0 => ?_)
  refine dtA 5 f0 k0 n0 (fun d0 j0 => ?_)
  refine wpAnyH_done (by kernel_rfl) (h0 _ _ ?_) _
  refine x_then_n (b0 _ _ ?_)
  refine wp_ret ?_
  refine x_then_r ?_
  refine e_ret2 j0 rfl rfl rfl rfl ?_
  have j0 : (if (if me = 0 then chk t else me) = 0 then t else []) = [] := by simp [m0]
  rw [j0]
  refine ⟨none, 0, ?_, i0.fr, (by rw [show (if me = 0 then chk t else me : Int) = ((if ((me) = 0) then ((chk t)) else (me))) by (simp [m0]; done)]; exact i0.res (i := 0) rfl), ⟨Nat.le_refl _, RowI.nil _ _ _ _⟩⟩
  exact ret_t2 rfl (ret_i (by (simp [m0]; done)))
set_option maxRecDepth 100000 in
set_option maxHeartbeats 1000000 in
theorem node_calls (w0 : World) (Z : Nat → Prop) (hZ : ∀ k, Z k → k < w0.heap.size) (mg : Nat) (mt : TypeId) (me : Int) (mr : List Value) (n : Nd) (pA : Option Addr) (pc : Nat) (p : List Sl) (hm : (Res.box mg mt (.int .i64 me :: mr)).holds w0) (hmz : ¬ Z mg) (hp : (dRow 1 pA p.length pc (encSs p)).φ w0 Z) (hps : (dAll p).φ w0 Z) (hl : p.length ≤ 100 := by first | assumption | omega | (simp; done) | (simp; omega)) (hb : ∀ s ∈ p, s.2.2.length ≤ 100000 := by first | assumption | omega | (simp; done) | (simp; omega)) :
    Calls Tryd.prog 72 [.pointer (some ⟨mg, 0, none⟩), .agg #[.int .i64 (n.K), .int .i64 (n.N), .int .i64 (n.M), .string n.S], .slice pA p.length pc].toArray w0 (fun e w' => ∃ (rA0 : Option Addr) (rc0 : Nat) (rL0 : List Nd), e = .returned (.slice rA0 rL0.length rc0) ∧ Fr (· = mg) w0 w' ∧ (Res.box mg mt (.int .i64 (me) :: mr)).holds w' ∧ (dRow 4 rA0 rL0.length rc0 (encNs rL0)).φ w' (nxt Z w0 w') ∧ rL0 = noL me n (lsts p)) := by
 have b0 := sM hm hmz hZ (zc hp (zc hps zn))
 refine c_enter Tryd.func72 rfl Tryd.ntmps72 rfl (fun c0 d0 => ?_)
 refine wsc (fun c0 f0 => ?_)
 refine m_box (cs := [.int .i64 (n.K), .int .i64 (n.N), .int .i64 (n.M), .string n.S]) sv d0 b0 rfl rfl rfl rfl (by decide) (fun c0 h0 i0 j0 k0 => ?_)
 refine asg j0 (fun h0 c0 => ?_)
 refine wpList_nil (x_then_n (f0 _ _ ?_))
 refine wp_seq_k (fun f0 h0 => ?_)
 refine wsc (fun f0 j0 => ?_)
 refine mv c0 (fun f0 d0 => ?_)
 refine r_nilCheck sv d0 rfl rfl rfl (by decide) (fun f0 c0 => ?_)
 refine m_field (j' := 0) sv c0 rfl rfl rfl Tryd.underlying59 rfl sz27 rfl rfl (by decide) (fun f0 d0 => ?_)
 refine m_load (i := 0) sv d0 k0 rfl rfl rfl rfl rfl Tryd.underlying27 rfl (by decide) (fun f0 c0 => ?_)
 refine r_neq sv c0 rfl rfl rfl rfl (by decide) (fun f0 d0 => ?_)
 refine wpList_nil (x_then_n (j0 _ _ ?_))
 rcases Decidable.em ((me) = 0) with j0 | j0
 ·
  have f0 := d0.setb (d := 14) (b := false) rfl (by rw [(decide_eq_true j0)]; rfl)
  refine wp_cond_false (f0.ev rfl) ?_
  refine wp_skip ?_
  refine x_then_n (h0 _ _ ?_)
  refine wsc (fun h0 c0 => ?_)
  refine asg f0 (fun h0 b0 => ?_)
  refine wpList_nil (x_then_n (c0 _ _ ?_))
  refine wp_seq_k (fun c0 h0 => ?_)
  refine wsc (fun c0 f0 => ?_)
  refine mv b0 (fun c0 m0 => ?_)
  refine r_len sv m0 rfl rfl rfl rfl Tryd.underlying42 (by decide) (fun c0 b0 => ?_)
  refine mv b0 (fun c0 m0 => ?_)
  refine wpList_nil (x_then_n (f0 _ _ ?_))
  refine wp_block ?_
  have f0 := k0.nilrow 39 4
  refine wp_loop_ghost (fun gn ga gw => ∃ k : Nat, ∃ Ao : Option Addr, ∃ co : Nat, (Reg ga 29 [(1000000, .bool false), (4, .pointer (some ⟨i0, 0, none⟩)), (6, .slice none 0 0), (15, .slice pA p.length pc), (16, .int .i64 ((p.length : Nat) : Int)), (17, .int .i64 ((k : Nat) : Int)), (7, .slice Ao (((lsts (p.take k)).flatten).length) co)]) ∧ (St w0 Z (· = mg) gw [.box mg mt (.int .i64 (me) :: mr), .box i0 39 [.int .i64 (n.K), .int .i64 (n.N), .int .i64 (n.M), .string n.S], .row Ao (((lsts (p.take k)).flatten).length) co 39 4 (encNs ((lsts (p.take k)).flatten))] [dRow 1 pA p.length pc (encSs p), dAll p]) ∧ (k ≤ p.length) ∧ (p.length - k) = gn) _ ⟨0, none, 0, (m0.sub (rc rfl (rc rfl (rc rfl (rc rfl (rc rfl (rc rfl (rc rfl rnl)))))))), f0, by omega, rfl⟩ ?_
  rintro f0 m0 i0 ⟨k, Ao, co, c0, b0, hk, n0⟩
  have hfl := flat_le hb hk
  refine wsc (fun n0 i0 => ?_)
  refine r_lss sv c0 rfl rfl rfl rfl (by decide) (fun n0 m0 => ?_)
  refine wpList_nil (x_then_n (i0 _ _ ?_))
  refine wp_seq_k (fun i0 n0 => ?_)
  rcases Decidable.em (((k : Nat) : Int) < ((p.length : Nat) : Int)) with i0 | i0
  ·
   have c0 := m0.setb (d := 18) (b := true) rfl (decide_eq_true i0)
   refine wp_cond_true (c0.ev rfl) ?_
   refine wp_skip ?_
   refine x_then_n (n0 _ _ ?_)
   refine wp_seq_k (fun n0 f0 => ?_)
   refine wp_block ?_
   refine wsc (fun n0 o0 => ?_)
   refine m_index (i := k) (j := k * 1) sv c0 rfl rfl rfl rfl Tryd.underlying42 sz22 (by omega) (by omega) (ss_elem (t := p) (k := k) (b0.row (i := 0) rfl).2 (by omega)).some_ rfl (by decide) (fun n0 p0 => ?_)
   refine m_loadE sv p0 rfl rfl rfl 0 (k * 1) (ss_elem (t := p) (k := k) (b0.row (i := 0) rfl).2 (by omega)) rfl rfl Tryd.underlying22 rfl (by decide) (fun n0 c0 => ?_)
   have n0 := b0.data (dRow 4 ((nthS p k).1) ((nthS p k).2.2.length) ((nthS p k).2.1) (encNs ((nthS p k).2.2))) (all_at (t := p) (k := k) (b0.get (i := 1) rfl) (by omega))
   refine asg c0 (fun p0 q0 => ?_)
   refine wpList_nil (x_then_n (o0 _ _ (c_region ?_)))
   refine mv q0 (fun o0 p0 => ?_)
   refine mv p0 (fun o0 q0 => ?_)
   refine m_appendF (f := encN) (i := 2) ((lsts (p.take k)).flatten) ((nthS p k).2.2) sv q0 n0 rfl rfl rfl rfl rfl encN_len (encN_one _) Tryd.underlying22 zi39 rfl rfl (n0.row (i := 2) rfl).2.news rfl (by first | omega | (simp only [List.length_cons, List.length_nil]; omega)) (by decide) (fun o0 p0 c0 s0 t0 u0 v0 => ?_)
   have t0 : (((lsts (p.take k)).flatten) ++ ((nthS p k).2.2)).length = ((lsts (p.take k)).flatten).length + (nthS p k).2.2.length := by (simp only [List.length_append, List.length_take, List.length_cons, List.length_nil]; done)
   refine asg u0 (fun t0 p0 => ?_)
   refine wpList_nil ?_
   refine x_block_n ?_
   refine x_then_n (f0 _ _ ?_)
   refine c_region ?_
   refine r_add (z := ((k + 1 : Nat) : Int)) sv p0 rfl rfl rfl rfl (by decide) (by omega) (by omega) (by omega) (fun f0 t0 => ?_)
   refine mv t0 (fun f0 p0 => ?_)
   refine wpList_nil ?_
   have f0 : ((lsts (p.take k)).flatten) ++ ((nthS p k).2.2) = (lsts (p.take (k + 1))).flatten := (flat_step (by omega)).symm
   have t0 := p0
   have p0 := v0
   rw [f0] at t0 p0
   have f0 := p0.forget 2
   exact ⟨_, by omega, k + 1, c0, s0, (t0.sub (rc rfl (rc rfl (rc rfl (rc rfl (rc rfl (rc rfl (rc rfl rnl)))))))), f0, by omega, rfl⟩
  ·
   have f0 := m0.setb (d := 18) (b := false) rfl (decide_eq_false i0)
   refine wp_cond_false (f0.ev rfl) ?_
   refine wp_exit ?_
   refine x_then_e ?_
   refine x_then_e ?_
   refine x_block_eq ?_
   refine x_then_n (h0 _ _ ?_)
   refine wsc (fun h0 i0 => ?_)
   refine mv f0 (fun h0 m0 => ?_)
   refine m_loadN (i := 1) (vs := [.int .i64 (n.K), .int .i64 (n.N), .int .i64 (n.M), .string n.S]) sv m0 b0 rfl rfl rfl rfl rfl Tryd.underlying39 rfl sz39 (by decide) (fun h0 f0 => ?_)
   refine mbs [(0, .tmp 26)] [.int .i64 (n.K), .int .i64 (n.N), .int .i64 (n.M), .string n.S] sv f0 b0 Tryd.underlying22 zi39 (fun h0 m0 t0 s0 c0 => ?_)
   refine m_appendF (f := encN) (i := 2) ((lsts (p.take k)).flatten) ([n]) sv s0 c0 rfl rfl rfl rfl rfl encN_len (encN_one _) Tryd.underlying22 zi39 rfl rfl (own_lnews (f := encN) (c0.res (i := 3) rfl)) rfl (by first | omega | (simp only [List.length_cons, List.length_nil]; omega)) (by decide) (fun t0 m0 h0 f0 b0 p0 v0 => ?_)
   have b0 : (((lsts (p.take k)).flatten) ++ ([n]) : List Nd).length = ((lsts (p.take k)).flatten).length + 1 := by (simp only [List.length_append, List.length_take, List.length_cons, List.length_nil]; done)
   have b0 := v0.erase 3
   refine asg p0 (fun v0 m0 => ?_)
   refine wpList_nil (x_then_n (i0 _ _ ?_))
   refine wp_ret ?_
   refine e_ret1 m0 rfl rfl rfl ?_
   have m0 := own_cap (b0.res (i := 2) rfl)
   obtain ⟨i0, v0⟩ := b0.row_dataM (i := 2) rfl (j := 0) rfl (by decide)
   have b0 := i0.data (dRow 4 h0 ((((lsts (p.take k)).flatten) ++ ([n]) : List Nd).length) f0 (encNs (((lsts (p.take k)).flatten) ++ ([n])))) ⟨m0, v0⟩
   refine ⟨h0, f0, (((lsts (p.take k)).flatten) ++ ([n])), ?_, b0.fr, b0.res (i := 0) rfl, b0.rx 2, (by unfold noL; rw [if_pos (by assumption), List.take_of_length_le (by omega)])⟩
   exact congrArg Ending.returned (ret_s (by rfl))
 ·
  have b0 := d0.setb (d := 14) (b := true) rfl (by rw [(decide_eq_false j0)]; rfl)
  refine wp_cond_true (b0.ev rfl) ?_
  refine wsc (fun j0 d0 => ?_)
  refine asg b0 (fun j0 f0 => ?_)
  refine wpList_nil (x_then_n (d0 _ _ ?_))
  refine wp_ret ?_
  refine x_then_r ?_
  refine e_ret1 f0 rfl rfl rfl ?_
  refine ⟨none, 0, [], ?_, k0.fr, k0.res (i := 0) rfl, ⟨Nat.le_refl _, RowI.nil _ _ _ _⟩, (by unfold noL; rw [if_neg (by assumption)])⟩
  exact congrArg Ending.returned (ret_s (by rfl))
end Go.Proofs.YtcfponnkfhkbdaaDoor
