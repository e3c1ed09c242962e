import Derived.Test.YtcfponnkfhkbdaaDoorYxe
/- Contracts of functions, one theorem each: what the call returns, and that nothing old is changed. Printed by gen.py. -/
namespace Go.Proofs.YtcfponnkfhkbdaaDoor
open Go Go.RowKit
set_option linter.unusedSimpArgs false
set_option linter.unusedVariables false
set_option maxRecDepth 100000 in
set_option maxHeartbeats 1000000 in
theorem urule0_calls (w0 : World) (Z : Nat → Prop) (hZ : ∀ k, Z k → k < w0.heap.size) (tA : Option Addr) (tc : Nat) (t : List Nd) (hShp : Shapes w0 Z) (ht : (dRow 4 tA t.length tc (encNs t)).φ w0 Z) (hsm : sml t := by first | assumption | omega | (simp; done) | (simp; omega)) (hl : t.length ≤ 5000 := by first | assumption | omega | (simp; done) | (simp; omega)) (h27 : ¬ (nth t (t.length - 1)).K = 27 := by first | assumption | omega | (simp; done) | (simp; omega)) :
    Calls Tryd.prog 13 [.slice tA t.length tc, .slice none 0 0].toArray w0 (fun e w' => ∃ (rA0 : Option Addr) (rc0 : Nat), e = .returned (.tuple #[.slice rA0 (urA t).length rc0, .int .i64 (urE t)]) ∧ Fr none_ w0 w' ∧ (dRow 4 rA0 ((urA t).length) rc0 (encNs (urA t))).φ w' (nxt Z w0 w')) := by
 have b0 := s0 (M := none_) hZ (zc (d := dShapes) hShp (zc ht zn))
 refine c_enter Tryd.func13 rfl Tryd.ntmps13 rfl (fun c0 d0 => ?_)
 refine wsc (fun c0 f0 => ?_)
 refine asg d0 (fun c0 h0 => ?_)
 refine asg h0 (fun c0 d0 => ?_)
 refine wpList_nil (x_then_n (f0 _ _ ?_))
 refine wsc (fun f0 c0 => ?_)
 refine mv d0 (fun f0 h0 => ?_)
 have f0 := b0.nf
 refine k_call (xs := [.tmp 11]) se h0 rfl rfl rfl (by decide) ok33 (args_calls _ _ f0.il _ _ _ (f0.g 0) (f0.g 1)) ?_
 rintro h0 b0 ⟨d0, i0, j0, rfl, k0, m0, n0, o0⟩
 have b0 := f0.below k0.below
 have k0 := f0.dN b0 m0
 have b0 := f0.dN k0 n0
 refine ⟨_, rfl, fun k0 n0 => ?_⟩
 refine mv n0 (fun k0 f0 => ?_)
 refine r_extract sv f0 rfl rfl rfl rfl (by decide) (fun k0 n0 => ?_)
 refine r_extract sv n0 rfl rfl rfl rfl (by decide) (fun k0 f0 => ?_)
 refine asg f0 (fun k0 n0 => ?_)
 refine asg n0 (fun k0 f0 => ?_)
 refine wpList_nil (x_then_n (c0 _ _ ?_))
 refine wp_seq_k (fun c0 k0 => ?_)
 refine wsc (fun c0 n0 => ?_)
 refine mv f0 (fun c0 m0 => ?_)
 refine r_neq sv m0 rfl rfl rfl rfl (by decide) (fun c0 f0 => ?_)
 refine wpList_nil (x_then_n (n0 _ _ ?_))
 rcases Decidable.em (((chk t)) = 0) with n0 | n0
 ·
  have hct := n0
  have hpt := chk_pos hct
  have hrt := right_at (meas_chk hct) (show t.length - 1 < t.length by omega)
  have hM9 := right_M hrt
  have hsn := hsm (t.length - 1) (by omega)
  have c0 := f0.setb (d := 16) (b := false) rfl (by rw [(decide_eq_true n0)]; rfl)
  refine wp_cond_false (c0.ev rfl) ?_
  refine wp_skip ?_
  refine x_then_n (k0 _ _ ?_)
  refine wsc (fun k0 m0 => ?_)
  refine mv c0 (fun k0 h0 => ?_)
  have k0 := b0.nf
  refine k_call (xs := [.tmp 18]) se h0 rfl rfl rfl (by decide) ok34 (uroot_calls _ _ k0.il _ _ _ (k0.g 1)) ?_
  rintro h0 c0 ⟨rfl, p0⟩
  have c0 := k0.below p0.below
  refine ⟨_, rfl, fun p0 k0 => ?_⟩
  refine mv k0 (fun p0 h0 => ?_)
  refine mv h0 (fun p0 k0 => ?_)
  refine m_build (ps := [(1, .tmp 19), (3, .tmp 20), (5, .tmp 21)]) (v := .agg #[.int .i64 0, .int .i64 (((nth t (t.length - 1)).K)), .int .i64 (((nth t (t.length - 1)).N)), .int .i64 (((nth t (t.length - 1)).M)), .string ((nth t (t.length - 1)).S), .int .i64 0, .int .i64 0, .int .i64 0, .string (⟨#[]⟩ : ByteArray), .slice d0 j0.length i0, .slice none 0 0, .slice none 0 0]) sv k0 rfl rfl rfl (fun _ => by kernel_rfl) (by decide) (fun p0 h0 => ?_)
  refine m_box (cs := [.int .i64 0, .int .i64 (((nth t (t.length - 1)).K)), .int .i64 (((nth t (t.length - 1)).N)), .int .i64 (((nth t (t.length - 1)).M)), .string ((nth t (t.length - 1)).S), .int .i64 0, .int .i64 0, .int .i64 0, .string (⟨#[]⟩ : ByteArray), .slice d0 j0.length i0, .slice none 0 0, .slice none 0 0]) sv h0 c0 rfl rfl rfl rfl (by decide) (fun p0 k0 q0 t0 u0 => ?_)
  refine asg t0 (fun q0 k0 => ?_)
  refine wpList_nil (x_then_n (m0 _ _ ?_))
  refine wsc (fun m0 q0 => ?_)
  refine mv k0 (fun m0 t0 => ?_)
  refine r_nilCheck sv t0 rfl rfl rfl (by decide) (fun m0 k0 => ?_)
  refine m_field (j' := 1) sv k0 rfl rfl rfl Tryd.underlying61 rfl sz39 rfl rfl (by decide) (fun m0 t0 => ?_)
  refine m_loadN (i := 0) (vs := [.int .i64 (((nth t (t.length - 1)).K)), .int .i64 (((nth t (t.length - 1)).N)), .int .i64 (((nth t (t.length - 1)).M)), .string ((nth t (t.length - 1)).S)]) sv t0 u0 rfl rfl rfl rfl rfl Tryd.underlying39 rfl sz39 (by decide) (fun m0 k0 => ?_)
  have m0 := u0.nf
  refine k_call (xs := [.tmp 27]) se k0 rfl rfl rfl (by decide) ok35 (utarget_calls _ _ m0.il (nth t (t.length - 1))) ?_
  rintro k0 u0 ⟨rfl, t0⟩
  have u0 := m0.below t0.below
  refine ⟨_, rfl, fun t0 m0 => ?_⟩
  refine asg m0 (fun t0 k0 => ?_)
  refine wpList_nil (x_then_n (q0 _ _ ?_))
  refine wp_seq_k (fun q0 t0 => ?_)
  refine wsc (fun q0 m0 => ?_)
  refine mv k0 (fun q0 p0 => ?_)
  refine r_lss sv p0 rfl rfl rfl rfl (by decide) (fun q0 k0 => ?_)
  refine wpList_nil (x_then_n (m0 _ _ ?_))
  rcases Decidable.em (((tgK (nth t (t.length - 1)))) < 0) with m0 | m0
  ·
   have q0 := k0.setb (d := 30) (b := true) rfl (decide_eq_true m0)
   refine wp_cond_true (q0.ev rfl) ?_
   refine wsc (fun p0 h0 => ?_)
   refine asg q0 (fun p0 c0 => ?_)
   refine asg c0 (fun p0 q0 => ?_)
   refine wpList_nil (x_then_n (h0 _ _ ?_))
   refine wp_ret ?_
   refine x_then_r ?_
   refine e_ret2 q0 rfl rfl rfl rfl ?_
   have q0 : urA t = [] := (ur_neg hct m0).2
   rw [q0]
   refine ⟨none, 0, ?_, u0.fr, ⟨Nat.le_refl _, RowI.nil _ _ _ _⟩⟩
   exact ret_t2 rfl (ret_i (by exact (ur_neg hct m0).1.symm))
  ·
   have htn := m0
   have htm := tg_many hct htn
   have hcz := tg_ok hct htn
   obtain ⟨hpl, hp8⟩ := ag_len hct o0
   have hps := ag_all hct o0 hsm
   obtain ⟨hzl, hsz, hcz'⟩ := ag_nth hct o0 hsm htm
   have hpz := chk_pos hcz'
   have hz : (nthS j0 (tgK (nth t (t.length - 1))).toNat).2.2 = tgL t := by rw [lsts_nth, o0]; rfl
   have q0 := k0.setb (d := 30) (b := false) rfl (decide_eq_false m0)
   refine wp_cond_false (q0.ev rfl) ?_
   refine wp_skip ?_
   refine x_then_n (t0 _ _ ?_)
   refine wsc (fun t0 m0 => ?_)
   refine mv q0 (fun t0 k0 => ?_)
   refine mv k0 (fun t0 q0 => ?_)
   refine mv q0 (fun t0 k0 => ?_)
   refine m_index (i := (((tgK (nth t (t.length - 1))))).toNat) (j := ((((tgK (nth t (t.length - 1))))).toNat) * 1) sv k0 rfl rfl rfl rfl Tryd.underlying42 sz22 (by omega) (by omega) (ss_elem (t := j0) (k := (((tgK (nth t (t.length - 1))))).toNat) (u0.row (i := 2) rfl).2 (by omega)).some_ rfl (by decide) (fun t0 q0 => ?_)
   refine m_loadE sv q0 rfl rfl rfl 0 (((((tgK (nth t (t.length - 1))))).toNat) * 1) (ss_elem (t := j0) (k := (((tgK (nth t (t.length - 1))))).toNat) (u0.row (i := 2) rfl).2 (by omega)) rfl rfl Tryd.underlying22 rfl (by decide) (fun t0 k0 => ?_)
   have t0 := u0.data (dRow 4 ((nthS j0 ((((tgK (nth t (t.length - 1))))).toNat)).1) ((nthS j0 ((((tgK (nth t (t.length - 1))))).toNat)).2.2.length) ((nthS j0 ((((tgK (nth t (t.length - 1))))).toNat)).2.1) (encNs ((nthS j0 ((((tgK (nth t (t.length - 1))))).toNat)).2.2))) (all_at (t := j0) (k := (((tgK (nth t (t.length - 1))))).toNat) (u0.get (i := 3) rfl) (by omega))
   have u0 := t0.nf
   refine k_call (xs := [.tmp 35]) se k0 rfl rfl rfl (by decide) ok34 (uroot_calls _ _ u0.il _ _ ((nthS j0 ((((tgK (nth t (t.length - 1))))).toNat)).2.2) (u0.g 4)) ?_
   rintro k0 t0 ⟨rfl, q0⟩
   have t0 := u0.below q0.below
   refine ⟨_, rfl, fun q0 u0 => ?_⟩
   refine r_nilCheck sv u0 rfl rfl rfl (by decide) (fun q0 k0 => ?_)
   refine m_field (j' := 5) sv k0 rfl rfl rfl Tryd.underlying61 rfl sz39 rfl rfl (by decide) (fun q0 u0 => ?_)
   refine m_store (i := 0) (cs' := [.int .i64 0, .int .i64 (((nth t (t.length - 1)).K)), .int .i64 (((nth t (t.length - 1)).N)), .int .i64 (((nth t (t.length - 1)).M)), .string ((nth t (t.length - 1)).S), .int .i64 (((nth ((nthS j0 ((((tgK (nth t (t.length - 1))))).toNat)).2.2) (((nthS j0 ((((tgK (nth t (t.length - 1))))).toNat)).2.2).length - 1)).K)), .int .i64 (((nth ((nthS j0 ((((tgK (nth t (t.length - 1))))).toNat)).2.2) (((nthS j0 ((((tgK (nth t (t.length - 1))))).toNat)).2.2).length - 1)).N)), .int .i64 (((nth ((nthS j0 ((((tgK (nth t (t.length - 1))))).toNat)).2.2) (((nthS j0 ((((tgK (nth t (t.length - 1))))).toNat)).2.2).length - 1)).M)), .string ((nth ((nthS j0 ((((tgK (nth t (t.length - 1))))).toNat)).2.2) (((nthS j0 ((((tgK (nth t (t.length - 1))))).toNat)).2.2).length - 1)).S), .slice d0 j0.length i0, .slice none 0 0, .slice none 0 0]) se u0 t0 rfl rfl rfl rfl rfl sz39 rfl rfl rfl (fun q0 k0 h0 p0 => ?_)
   refine wpList_nil (x_then_n (m0 _ _ ?_))
   refine wsc (fun m0 k0 => ?_)
   refine mv h0 (fun m0 q0 => ?_)
   refine mv q0 (fun m0 h0 => ?_)
   refine mv h0 (fun m0 q0 => ?_)
   refine m_index (i := (((tgK (nth t (t.length - 1))))).toNat) (j := ((((tgK (nth t (t.length - 1))))).toNat) * 1) sv q0 rfl rfl rfl rfl Tryd.underlying42 sz22 (by omega) (by omega) (ss_elem (t := j0) (k := (((tgK (nth t (t.length - 1))))).toNat) (p0.row (i := 2) rfl).2 (by omega)).some_ rfl (by decide) (fun m0 h0 => ?_)
   refine m_loadE sv h0 rfl rfl rfl 0 (((((tgK (nth t (t.length - 1))))).toNat) * 1) (ss_elem (t := j0) (k := (((tgK (nth t (t.length - 1))))).toNat) (p0.row (i := 2) rfl).2 (by omega)) rfl rfl Tryd.underlying22 rfl (by decide) (fun m0 q0 => ?_)
   have m0 := p0.data (dRow 4 ((nthS j0 ((((tgK (nth t (t.length - 1))))).toNat)).1) ((nthS j0 ((((tgK (nth t (t.length - 1))))).toNat)).2.2.length) ((nthS j0 ((((tgK (nth t (t.length - 1))))).toNat)).2.1) (encNs ((nthS j0 ((((tgK (nth t (t.length - 1))))).toNat)).2.2))) (all_at (t := j0) (k := (((tgK (nth t (t.length - 1))))).toNat) (p0.get (i := 3) rfl) (by omega))
   have p0 := m0.nf
   refine k_call (xs := [.tmp 44]) se q0 rfl rfl rfl (by decide) ok33 (args_calls _ _ p0.il _ _ ((nthS j0 ((((tgK (nth t (t.length - 1))))).toNat)).2.2) (p0.g 0) (p0.g 5)) ?_
   rintro q0 m0 ⟨h0, u0, t0, rfl, c0, v0, x0, y0⟩
   have m0 := p0.below c0.below
   have c0 := p0.dN m0 v0
   have m0 := p0.dN c0 x0
   refine ⟨_, rfl, fun c0 x0 => ?_⟩
   obtain ⟨hql, c0⟩ := ag_len hcz' y0
   have hqs := ag_all hcz' y0 hsz
   refine mv x0 (fun c0 p0 => ?_)
   refine r_extract sv p0 rfl rfl rfl rfl (by decide) (fun c0 x0 => ?_)
   refine r_extract sv x0 rfl rfl rfl rfl (by decide) (fun c0 p0 => ?_)
   refine r_nilCheck sv p0 rfl rfl rfl (by decide) (fun c0 x0 => ?_)
   refine m_field (j' := 10) sv x0 rfl rfl rfl Tryd.underlying61 rfl sz42 rfl rfl (by decide) (fun c0 p0 => ?_)
   refine m_store (i := 0) (cs' := [.int .i64 0, .int .i64 (((nth t (t.length - 1)).K)), .int .i64 (((nth t (t.length - 1)).N)), .int .i64 (((nth t (t.length - 1)).M)), .string ((nth t (t.length - 1)).S), .int .i64 (((nth ((nthS j0 ((((tgK (nth t (t.length - 1))))).toNat)).2.2) (((nthS j0 ((((tgK (nth t (t.length - 1))))).toNat)).2.2).length - 1)).K)), .int .i64 (((nth ((nthS j0 ((((tgK (nth t (t.length - 1))))).toNat)).2.2) (((nthS j0 ((((tgK (nth t (t.length - 1))))).toNat)).2.2).length - 1)).N)), .int .i64 (((nth ((nthS j0 ((((tgK (nth t (t.length - 1))))).toNat)).2.2) (((nthS j0 ((((tgK (nth t (t.length - 1))))).toNat)).2.2).length - 1)).M)), .string ((nth ((nthS j0 ((((tgK (nth t (t.length - 1))))).toNat)).2.2) (((nthS j0 ((((tgK (nth t (t.length - 1))))).toNat)).2.2).length - 1)).S), .slice d0 j0.length i0, .slice h0 t0.length u0, .slice none 0 0]) se p0 m0 rfl rfl rfl rfl rfl sz42 rfl rfl rfl (fun c0 x0 v0 q0 => ?_)
   refine wpList_nil (x_then_n (k0 _ _ ?_))
   refine wp_seq_k (fun k0 x0 => ?_)
   obtain ⟨k0, c0, p0⟩ := q0.agree
   refine d_reg3 (n := 10) p0 8 (pB 0 1 pn) (pan_then pan_body) (fun c0 k0 q0 m0 u0 h0 => ?_)
   refine dtM 0 k0 v0 h0 (fun m0 c0 => ?_)
   refine dtN 1 k0 c0 h0 (fun m0 v0 => ?_)
   refine dtF 2 0 k0 v0 h0 Tryd.underlying61 sz59 (fun m0 c0 => ?_)
   refine dtM 3 k0 c0 h0 (fun m0 v0 => ?_)
   refine d1 4 ?_
   have m0 := u0.nf
   refine k_call (xs := [.tmp 53]) (st_op rfl (want_n rfl)) v0 rfl rfl rfl (by decide) ok37 (ureduct_calls _ _ m0.il _ _ (nth t (t.length - 1)) (nth ((nthS j0 ((((tgK (nth t (t.length - 1))))).toNat)).2.2) (((nthS j0 ((((tgK (nth t (t.length - 1))))).toNat)).2.2).length - 1)) _ _ _ _ _ _ (m0.g 0) (m0.z 0) (imm_box (i := 0) rfl) (m0.g 2) (m0.g 3) (m0.g 6) (m0.g 7)) ?_
   rintro v0 u0 ⟨c0, h0, p0, rfl, i0, d0, z0, b1⟩
   have h0 := m0.callM (i := 0) rfl i0 d0
   have d0 := m0.dM 0 h0 z0
   refine ⟨_, rfl, fun h0 z0 => ?_⟩
   obtain ⟨hrs, hrl⟩ : sml p0 ∧ p0.length ≤ 100000 := by rw [b1]; exact urR_sz hsn hps hqs
   have hof := ur_of hct htn (R := urR (nth t (t.length - 1)) (nth (nthS j0 (tgK (nth t (t.length - 1))).toNat).2.2 ((nthS j0 (tgK (nth t (t.length - 1))).toNat).2.2.length - 1)) (lsts j0) (lsts t0)) (by rw [o0, y0, hz])
   have y0 := sWI d0 8 (pB 0 1 pn)
   refine ⟨y0, ?_⟩
   refine d1 5 ?_
   have y0 := d0.nf
   refine k_call (xs := [.tmp 52, .tmp 54]) (st_op rfl (want_n rfl)) z0 rfl rfl rfl (by decide) ok36 (done_calls _ _ y0.il _ _ _ _ _ _ _ (y0.g 0) (y0.z 0) (imm_box (i := 0) rfl) (y0.g 9)) ?_
   rintro z0 d0 ⟨o0, h0, rfl, m0, i0, c0⟩
   have d0 := y0.callM (i := 0) rfl m0 i0
   have i0 := y0.dM 0 d0 c0
   refine ⟨_, rfl, fun d0 c0 => ?_⟩
   have d0 := sWI i0 8 (pB 0 1 pn)
   refine ⟨d0, ?_⟩
   refine dt 6 rfl k0 c0 (want_n rfl) (fun x hx => r_extract (sy c0) c0 rfl rfl rfl rfl (by decide) gt) d0 (fun y0 m0 => ?_)
   refine dt 7 rfl k0 m0 (want_n rfl) (fun x hx => r_extract (sy m0) m0 rfl rfl rfl rfl (by decide) gt) d0 (fun y0 c0 => ?_)
   refine dtA 8 k0 c0 d0 (fun y0 m0 => ?_)
   refine dtA 9 k0 m0 d0 (fun y0 c0 => ?_)
   refine wpAnyH_done (by kernel_rfl) (q0 _ _ ?_) _
   refine x_then_n (x0 _ _ ?_)
   refine wp_ret ?_
   refine e_ret2 c0 rfl rfl rfl rfl ?_
   have c0 : urA t = (if (if (((urR (nth t (t.length - 1)) (nth ((nthS j0 ((((tgK (nth t (t.length - 1))))).toNat)).2.2) (((nthS j0 ((((tgK (nth t (t.length - 1))))).toNat)).2.2).length - 1)) (lsts j0) (lsts t0)).2)) = 0 then chk p0 else (((urR (nth t (t.length - 1)) (nth ((nthS j0 ((((tgK (nth t (t.length - 1))))).toNat)).2.2) (((nthS j0 ((((tgK (nth t (t.length - 1))))).toNat)).2.2).length - 1)) (lsts j0) (lsts t0)).2))) = 0 then p0 else []) := (by rw [hof.2, b1])
   rw [c0]
   refine ⟨o0, h0, ?_, i0.fr, i0.rx 10⟩
   exact ret_t2 rfl (ret_i (by first | exact hof.1.symm | (rw [hof.1, b1])))
 ·
  have b1 := f0.setb (d := 16) (b := true) rfl (by rw [(decide_eq_false n0)]; rfl)
  refine wp_cond_true (b1.ev rfl) ?_
  refine wsc (fun f0 i0 => ?_)
  refine mv b1 (fun f0 h0 => ?_)
  refine asg h0 (fun f0 b1 => ?_)
  refine asg b1 (fun f0 h0 => ?_)
  refine wpList_nil (x_then_n (i0 _ _ ?_))
  refine wp_ret ?_
  refine x_then_r ?_
  refine e_ret2 h0 rfl rfl rfl rfl ?_
  have h0 : urA t = [] := (ur_err n0).2
  rw [h0]
  refine ⟨none, 0, ?_, b0.fr, ⟨Nat.le_refl _, RowI.nil _ _ _ _⟩⟩
  exact ret_t2 rfl (ret_i (by exact (ur_err n0).1.symm))
end Go.Proofs.YtcfponnkfhkbdaaDoor
/- Contracts of functions, one theorem each: what the call returns, and that nothing old is changed. Printed by gen.py. -/
namespace Go.Proofs.YtcfponnkfhkbdaaDoor
open Go Go.RowKit
set_option linter.unusedSimpArgs false
set_option linter.unusedVariables false
set_option maxRecDepth 100000 in
set_option maxHeartbeats 1000000 in
theorem urule_calls (w0 : World) (Z : Nat → Prop) (hZ : ∀ k, Z k → k < w0.heap.size) (tA : Option Addr) (tc : Nat) (t : List Nd) (consA : Option Addr) (consc : Nat) (cons : List Tl) (hShp : Shapes w0 Z) (ht : (dRow 4 tA t.length tc (encNs t)).φ w0 Z) (hcons : (dRow 1 consA cons.length consc (encTs cons)).φ w0 Z) (hconss : (dAllT cons).φ w0 Z) (hsm : sml t := by first | assumption | omega | (simp; done) | (simp; omega)) (hl : t.length ≤ 5000 := by first | assumption | omega | (simp; done) | (simp; omega)) (hcs : ∀ l ∈ lstsT cons, ∀ y ∈ l, kdA (nth t (t.length - 1)).S y = 0 ∧ sml y ∧ y.length ≤ 4000 := by first | assumption | omega | (simp; done) | (simp; omega)) (hc4 : cons.length ≤ 1000 := by first | assumption | omega | (simp; done) | (simp; omega)) :
    Calls Tryd.prog 13 [.slice tA t.length tc, .slice consA cons.length consc].toArray w0 (fun e w' => ∃ (rA0 : Option Addr) (rc0 : Nat), e = .returned (.tuple #[.slice rA0 (utA t (lstsT cons)).length rc0, .int .i64 (utE t (lstsT cons))]) ∧ Fr none_ w0 w' ∧ (dRow 4 rA0 ((utA t (lstsT cons)).length) rc0 (encNs (utA t (lstsT cons)))).φ w' (nxt Z w0 w')) := by
 have b0 := s0 (M := none_) hZ (zc (d := dShapes) hShp (zc ht (zc hcons (zc hconss zn))))
 refine c_enter Tryd.func13 rfl Tryd.ntmps13 rfl (fun c0 d0 => ?_)
 refine wsc (fun c0 f0 => ?_)
 refine asg d0 (fun c0 h0 => ?_)
 refine asg h0 (fun c0 d0 => ?_)
 refine wpList_nil (x_then_n (f0 _ _ ?_))
 refine wsc (fun f0 c0 => ?_)
 refine mv d0 (fun f0 h0 => ?_)
 have f0 := b0.nf
 refine k_call (xs := [.tmp 11]) se h0 rfl rfl rfl (by decide) ok33 (args_calls _ _ f0.il _ _ _ (f0.g 0) (f0.g 1)) ?_
 rintro h0 b0 ⟨d0, i0, j0, rfl, k0, m0, n0, o0⟩
 have b0 := f0.below k0.below
 have k0 := f0.dN b0 m0
 have b0 := f0.dN k0 n0
 refine ⟨_, rfl, fun k0 n0 => ?_⟩
 refine mv n0 (fun k0 f0 => ?_)
 refine r_extract sv f0 rfl rfl rfl rfl (by decide) (fun k0 n0 => ?_)
 refine r_extract sv n0 rfl rfl rfl rfl (by decide) (fun k0 f0 => ?_)
 refine asg f0 (fun k0 n0 => ?_)
 refine asg n0 (fun k0 f0 => ?_)
 refine wpList_nil (x_then_n (c0 _ _ ?_))
 refine wp_seq_k (fun c0 k0 => ?_)
 refine wsc (fun c0 n0 => ?_)
 refine mv f0 (fun c0 m0 => ?_)
 refine r_neq sv m0 rfl rfl rfl rfl (by decide) (fun c0 f0 => ?_)
 refine wpList_nil (x_then_n (n0 _ _ ?_))
 rcases Decidable.em (((chk t)) = 0) with n0 | n0
 ·
  have hct := n0
  have hpt := chk_pos hct
  have hrt := right_at (meas_chk hct) (show t.length - 1 < t.length by omega)
  have hM9 := right_M hrt
  have hsn := hsm (t.length - 1) (by omega)
  have c0 := f0.setb (d := 16) (b := false) rfl (by rw [(decide_eq_true n0)]; rfl)
  refine wp_cond_false (c0.ev rfl) ?_
  refine wp_skip ?_
  refine x_then_n (k0 _ _ ?_)
  refine wsc (fun k0 m0 => ?_)
  refine mv c0 (fun k0 h0 => ?_)
  have k0 := b0.nf
  refine k_call (xs := [.tmp 18]) se h0 rfl rfl rfl (by decide) ok34 (uroot_calls _ _ k0.il _ _ _ (k0.g 1)) ?_
  rintro h0 c0 ⟨rfl, p0⟩
  have c0 := k0.below p0.below
  refine ⟨_, rfl, fun p0 k0 => ?_⟩
  refine mv k0 (fun p0 h0 => ?_)
  refine mv h0 (fun p0 k0 => ?_)
  refine m_build (ps := [(1, .tmp 19), (3, .tmp 20), (5, .tmp 21)]) (v := .agg #[.int .i64 0, .int .i64 (((nth t (t.length - 1)).K)), .int .i64 (((nth t (t.length - 1)).N)), .int .i64 (((nth t (t.length - 1)).M)), .string ((nth t (t.length - 1)).S), .int .i64 0, .int .i64 0, .int .i64 0, .string (⟨#[]⟩ : ByteArray), .slice d0 j0.length i0, .slice none 0 0, .slice consA cons.length consc]) sv k0 rfl rfl rfl (fun _ => by kernel_rfl) (by decide) (fun p0 h0 => ?_)
  refine m_box (cs := [.int .i64 0, .int .i64 (((nth t (t.length - 1)).K)), .int .i64 (((nth t (t.length - 1)).N)), .int .i64 (((nth t (t.length - 1)).M)), .string ((nth t (t.length - 1)).S), .int .i64 0, .int .i64 0, .int .i64 0, .string (⟨#[]⟩ : ByteArray), .slice d0 j0.length i0, .slice none 0 0, .slice consA cons.length consc]) sv h0 c0 rfl rfl rfl rfl (by decide) (fun p0 k0 q0 t0 u0 => ?_)
  refine asg t0 (fun q0 k0 => ?_)
  refine wpList_nil (x_then_n (m0 _ _ ?_))
  refine wsc (fun m0 q0 => ?_)
  refine mv k0 (fun m0 t0 => ?_)
  refine r_nilCheck sv t0 rfl rfl rfl (by decide) (fun m0 k0 => ?_)
  refine m_field (j' := 1) sv k0 rfl rfl rfl Tryd.underlying61 rfl sz39 rfl rfl (by decide) (fun m0 t0 => ?_)
  refine m_loadN (i := 0) (vs := [.int .i64 (((nth t (t.length - 1)).K)), .int .i64 (((nth t (t.length - 1)).N)), .int .i64 (((nth t (t.length - 1)).M)), .string ((nth t (t.length - 1)).S)]) sv t0 u0 rfl rfl rfl rfl rfl Tryd.underlying39 rfl sz39 (by decide) (fun m0 k0 => ?_)
  have m0 := u0.nf
  refine k_call (xs := [.tmp 27]) se k0 rfl rfl rfl (by decide) ok35 (utarget_calls _ _ m0.il (nth t (t.length - 1))) ?_
  rintro k0 u0 ⟨rfl, t0⟩
  have u0 := m0.below t0.below
  refine ⟨_, rfl, fun t0 m0 => ?_⟩
  refine asg m0 (fun t0 k0 => ?_)
  refine wpList_nil (x_then_n (q0 _ _ ?_))
  refine wp_seq_k (fun q0 t0 => ?_)
  refine wsc (fun q0 m0 => ?_)
  refine mv k0 (fun q0 p0 => ?_)
  refine r_lss sv p0 rfl rfl rfl rfl (by decide) (fun q0 k0 => ?_)
  refine wpList_nil (x_then_n (m0 _ _ ?_))
  rcases Decidable.em (((tgK (nth t (t.length - 1)))) < 0) with m0 | m0
  ·
   have q0 := k0.setb (d := 30) (b := true) rfl (decide_eq_true m0)
   refine wp_cond_true (q0.ev rfl) ?_
   refine wsc (fun p0 h0 => ?_)
   refine asg q0 (fun p0 c0 => ?_)
   refine asg c0 (fun p0 q0 => ?_)
   refine wpList_nil (x_then_n (h0 _ _ ?_))
   refine wp_ret ?_
   refine x_then_r ?_
   refine e_ret2 q0 rfl rfl rfl rfl ?_
   have q0 : utA t (lstsT cons) = [] := (ut_neg hct m0).2
   rw [q0]
   refine ⟨none, 0, ?_, u0.fr, ⟨Nat.le_refl _, RowI.nil _ _ _ _⟩⟩
   exact ret_t2 rfl (ret_i (by exact (ut_neg hct m0).1.symm))
  ·
   have htn := m0
   have htm := tg_many hct htn
   have hcz := tg_ok hct htn
   obtain ⟨hpl, hp8⟩ := ag_len hct o0
   have hps := ag_all hct o0 hsm
   obtain ⟨hzl, hsz, hcz'⟩ := ag_nth hct o0 hsm htm
   have hpz := chk_pos hcz'
   have hz : (nthS j0 (tgK (nth t (t.length - 1))).toNat).2.2 = tgL t := by rw [lsts_nth, o0]; rfl
   have hrz := right_at (meas_chk hcz') (show (nthS j0 (tgK (nth t (t.length - 1))).toNat).2.2.length - 1 < (nthS j0 (tgK (nth t (t.length - 1))).toNat).2.2.length by omega)
   have hx0 := con_nn hrz
   have q0 := k0.setb (d := 30) (b := false) rfl (decide_eq_false m0)
   refine wp_cond_false (q0.ev rfl) ?_
   refine wp_skip ?_
   refine x_then_n (t0 _ _ ?_)
   refine wsc (fun t0 m0 => ?_)
   refine mv q0 (fun t0 k0 => ?_)
   refine mv k0 (fun t0 q0 => ?_)
   refine mv q0 (fun t0 k0 => ?_)
   refine m_index (i := (((tgK (nth t (t.length - 1))))).toNat) (j := ((((tgK (nth t (t.length - 1))))).toNat) * 1) sv k0 rfl rfl rfl rfl Tryd.underlying42 sz22 (by omega) (by omega) (ss_elem (t := j0) (k := (((tgK (nth t (t.length - 1))))).toNat) (u0.row (i := 4) rfl).2 (by omega)).some_ rfl (by decide) (fun t0 q0 => ?_)
   refine m_loadE sv q0 rfl rfl rfl 0 (((((tgK (nth t (t.length - 1))))).toNat) * 1) (ss_elem (t := j0) (k := (((tgK (nth t (t.length - 1))))).toNat) (u0.row (i := 4) rfl).2 (by omega)) rfl rfl Tryd.underlying22 rfl (by decide) (fun t0 k0 => ?_)
   have t0 := u0.data (dRow 4 ((nthS j0 ((((tgK (nth t (t.length - 1))))).toNat)).1) ((nthS j0 ((((tgK (nth t (t.length - 1))))).toNat)).2.2.length) ((nthS j0 ((((tgK (nth t (t.length - 1))))).toNat)).2.1) (encNs ((nthS j0 ((((tgK (nth t (t.length - 1))))).toNat)).2.2))) (all_at (t := j0) (k := (((tgK (nth t (t.length - 1))))).toNat) (u0.get (i := 5) rfl) (by omega))
   have u0 := t0.nf
   refine k_call (xs := [.tmp 35]) se k0 rfl rfl rfl (by decide) ok34 (uroot_calls _ _ u0.il _ _ ((nthS j0 ((((tgK (nth t (t.length - 1))))).toNat)).2.2) (u0.g 6)) ?_
   rintro k0 t0 ⟨rfl, q0⟩
   have t0 := u0.below q0.below
   refine ⟨_, rfl, fun q0 u0 => ?_⟩
   refine r_nilCheck sv u0 rfl rfl rfl (by decide) (fun q0 k0 => ?_)
   refine m_field (j' := 5) sv k0 rfl rfl rfl Tryd.underlying61 rfl sz39 rfl rfl (by decide) (fun q0 u0 => ?_)
   refine m_store (i := 0) (cs' := [.int .i64 0, .int .i64 (((nth t (t.length - 1)).K)), .int .i64 (((nth t (t.length - 1)).N)), .int .i64 (((nth t (t.length - 1)).M)), .string ((nth t (t.length - 1)).S), .int .i64 (((nth ((nthS j0 ((((tgK (nth t (t.length - 1))))).toNat)).2.2) (((nthS j0 ((((tgK (nth t (t.length - 1))))).toNat)).2.2).length - 1)).K)), .int .i64 (((nth ((nthS j0 ((((tgK (nth t (t.length - 1))))).toNat)).2.2) (((nthS j0 ((((tgK (nth t (t.length - 1))))).toNat)).2.2).length - 1)).N)), .int .i64 (((nth ((nthS j0 ((((tgK (nth t (t.length - 1))))).toNat)).2.2) (((nthS j0 ((((tgK (nth t (t.length - 1))))).toNat)).2.2).length - 1)).M)), .string ((nth ((nthS j0 ((((tgK (nth t (t.length - 1))))).toNat)).2.2) (((nthS j0 ((((tgK (nth t (t.length - 1))))).toNat)).2.2).length - 1)).S), .slice d0 j0.length i0, .slice none 0 0, .slice consA cons.length consc]) se u0 t0 rfl rfl rfl rfl rfl sz39 rfl rfl rfl (fun q0 k0 h0 p0 => ?_)
   refine wpList_nil (x_then_n (m0 _ _ ?_))
   refine wsc (fun m0 k0 => ?_)
   refine mv h0 (fun m0 q0 => ?_)
   refine mv q0 (fun m0 h0 => ?_)
   refine mv h0 (fun m0 q0 => ?_)
   refine m_index (i := (((tgK (nth t (t.length - 1))))).toNat) (j := ((((tgK (nth t (t.length - 1))))).toNat) * 1) sv q0 rfl rfl rfl rfl Tryd.underlying42 sz22 (by omega) (by omega) (ss_elem (t := j0) (k := (((tgK (nth t (t.length - 1))))).toNat) (p0.row (i := 4) rfl).2 (by omega)).some_ rfl (by decide) (fun m0 h0 => ?_)
   refine m_loadE sv h0 rfl rfl rfl 0 (((((tgK (nth t (t.length - 1))))).toNat) * 1) (ss_elem (t := j0) (k := (((tgK (nth t (t.length - 1))))).toNat) (p0.row (i := 4) rfl).2 (by omega)) rfl rfl Tryd.underlying22 rfl (by decide) (fun m0 q0 => ?_)
   have m0 := p0.data (dRow 4 ((nthS j0 ((((tgK (nth t (t.length - 1))))).toNat)).1) ((nthS j0 ((((tgK (nth t (t.length - 1))))).toNat)).2.2.length) ((nthS j0 ((((tgK (nth t (t.length - 1))))).toNat)).2.1) (encNs ((nthS j0 ((((tgK (nth t (t.length - 1))))).toNat)).2.2))) (all_at (t := j0) (k := (((tgK (nth t (t.length - 1))))).toNat) (p0.get (i := 5) rfl) (by omega))
   have p0 := m0.nf
   refine k_call (xs := [.tmp 44]) se q0 rfl rfl rfl (by decide) ok33 (args_calls _ _ p0.il _ _ ((nthS j0 ((((tgK (nth t (t.length - 1))))).toNat)).2.2) (p0.g 0) (p0.g 7)) ?_
   rintro q0 m0 ⟨h0, u0, t0, rfl, c0, v0, x0, y0⟩
   have m0 := p0.below c0.below
   have c0 := p0.dN m0 v0
   have m0 := p0.dN c0 x0
   refine ⟨_, rfl, fun c0 x0 => ?_⟩
   obtain ⟨hql, c0⟩ := ag_len hcz' y0
   have hqs := ag_all hcz' y0 hsz
   refine mv x0 (fun c0 p0 => ?_)
   refine r_extract sv p0 rfl rfl rfl rfl (by decide) (fun c0 x0 => ?_)
   refine r_extract sv x0 rfl rfl rfl rfl (by decide) (fun c0 p0 => ?_)
   refine r_nilCheck sv p0 rfl rfl rfl (by decide) (fun c0 x0 => ?_)
   refine m_field (j' := 10) sv x0 rfl rfl rfl Tryd.underlying61 rfl sz42 rfl rfl (by decide) (fun c0 p0 => ?_)
   refine m_store (i := 0) (cs' := [.int .i64 0, .int .i64 (((nth t (t.length - 1)).K)), .int .i64 (((nth t (t.length - 1)).N)), .int .i64 (((nth t (t.length - 1)).M)), .string ((nth t (t.length - 1)).S), .int .i64 (((nth ((nthS j0 ((((tgK (nth t (t.length - 1))))).toNat)).2.2) (((nthS j0 ((((tgK (nth t (t.length - 1))))).toNat)).2.2).length - 1)).K)), .int .i64 (((nth ((nthS j0 ((((tgK (nth t (t.length - 1))))).toNat)).2.2) (((nthS j0 ((((tgK (nth t (t.length - 1))))).toNat)).2.2).length - 1)).N)), .int .i64 (((nth ((nthS j0 ((((tgK (nth t (t.length - 1))))).toNat)).2.2) (((nthS j0 ((((tgK (nth t (t.length - 1))))).toNat)).2.2).length - 1)).M)), .string ((nth ((nthS j0 ((((tgK (nth t (t.length - 1))))).toNat)).2.2) (((nthS j0 ((((tgK (nth t (t.length - 1))))).toNat)).2.2).length - 1)).S), .slice d0 j0.length i0, .slice h0 t0.length u0, .slice consA cons.length consc]) se p0 m0 rfl rfl rfl rfl rfl sz42 rfl rfl rfl (fun c0 x0 v0 q0 => ?_)
   refine wpList_nil (x_then_n (k0 _ _ ?_))
   refine wp_seq_k (fun k0 x0 => ?_)
   obtain ⟨k0, c0, p0⟩ := q0.agree
   refine d_reg3 (n := 10) p0 10 (pB 0 1 pn) (pan_then pan_body) (fun c0 k0 q0 m0 u0 h0 => ?_)
   refine dtM 0 k0 v0 h0 (fun m0 c0 => ?_)
   refine dtN 1 k0 c0 h0 (fun m0 v0 => ?_)
   refine dtF 2 0 k0 v0 h0 Tryd.underlying61 sz59 (fun m0 c0 => ?_)
   refine dtM 3 k0 c0 h0 (fun m0 v0 => ?_)
   refine d1 4 ?_
   have m0 := u0.nf
   refine k_call (xs := [.tmp 53]) (st_op rfl (want_n rfl)) v0 rfl rfl rfl (by decide) ok37 (ureductT_calls _ _ m0.il _ _ (nth t (t.length - 1)) (nth ((nthS j0 ((((tgK (nth t (t.length - 1))))).toNat)).2.2) (((nthS j0 ((((tgK (nth t (t.length - 1))))).toNat)).2.2).length - 1)) _ _ _ _ _ _ _ _ _ (m0.g 0) (m0.z 0) (imm_box (i := 0) rfl) (m0.g 4) (m0.g 5) (m0.g 8) (m0.g 9) (m0.g 2) (m0.g 3) (hp4 := (by omega)) (hq4 := (by omega)) (hps := hps) (hqs := hqs) (hlp := (by omega)) (hlq := (by omega)) (hsn := hsn) (he := rfl) (hx0 := hx0) (hcs := hcs) (hc4 := hc4)) ?_
   rintro v0 u0 ⟨c0, h0, p0, rfl, i0, d0, z0, b1⟩
   have h0 := m0.callM (i := 0) rfl i0 d0
   have d0 := m0.dM 0 h0 z0
   refine ⟨_, rfl, fun h0 z0 => ?_⟩
   obtain ⟨hrs, hrl⟩ : sml p0 ∧ p0.length ≤ 100000 := by rw [b1]; exact urT_sz hsn hps hqs (by rw [lsts_len]; omega)
   have hof := ut_of (c := lstsT cons) hct htn (R := urT (nth t (t.length - 1)) (nth (nthS j0 (tgK (nth t (t.length - 1))).toNat).2.2 ((nthS j0 (tgK (nth t (t.length - 1))).toNat).2.2.length - 1)) (lsts j0) (lsts t0) (lstsT cons)) (by rw [o0, y0, hz])
   have y0 := sWI d0 10 (pB 0 1 pn)
   refine ⟨y0, ?_⟩
   refine d1 5 ?_
   have y0 := d0.nf
   refine k_call (xs := [.tmp 52, .tmp 54]) (st_op rfl (want_n rfl)) z0 rfl rfl rfl (by decide) ok36 (done_calls _ _ y0.il _ _ _ _ _ _ _ (y0.g 0) (y0.z 0) (imm_box (i := 0) rfl) (y0.g 11)) ?_
   rintro z0 d0 ⟨o0, h0, rfl, m0, i0, c0⟩
   have d0 := y0.callM (i := 0) rfl m0 i0
   have i0 := y0.dM 0 d0 c0
   refine ⟨_, rfl, fun d0 c0 => ?_⟩
   have d0 := sWI i0 10 (pB 0 1 pn)
   refine ⟨d0, ?_⟩
   refine dt 6 rfl k0 c0 (want_n rfl) (fun x hx => r_extract (sy c0) c0 rfl rfl rfl rfl (by decide) gt) d0 (fun y0 m0 => ?_)
   refine dt 7 rfl k0 m0 (want_n rfl) (fun x hx => r_extract (sy m0) m0 rfl rfl rfl rfl (by decide) gt) d0 (fun y0 c0 => ?_)
   refine dtA 8 k0 c0 d0 (fun y0 m0 => ?_)
   refine dtA 9 k0 m0 d0 (fun y0 c0 => ?_)
   refine wpAnyH_done (by kernel_rfl) (q0 _ _ ?_) _
   refine x_then_n (x0 _ _ ?_)
   refine wp_ret ?_
   refine e_ret2 c0 rfl rfl rfl rfl ?_
   have c0 : utA t (lstsT cons) = (if (if (((urT (nth t (t.length - 1)) (nth ((nthS j0 ((((tgK (nth t (t.length - 1))))).toNat)).2.2) (((nthS j0 ((((tgK (nth t (t.length - 1))))).toNat)).2.2).length - 1)) (lsts j0) (lsts t0) (lstsT cons)).2)) = 0 then chk p0 else (((urT (nth t (t.length - 1)) (nth ((nthS j0 ((((tgK (nth t (t.length - 1))))).toNat)).2.2) (((nthS j0 ((((tgK (nth t (t.length - 1))))).toNat)).2.2).length - 1)) (lsts j0) (lsts t0) (lstsT cons)).2))) = 0 then p0 else []) := (by rw [hof.2, b1])
   rw [c0]
   refine ⟨o0, h0, ?_, i0.fr, i0.rx 12⟩
   exact ret_t2 rfl (ret_i (by first | exact hof.1.symm | (rw [hof.1, b1])))
 ·
  have b1 := f0.setb (d := 16) (b := true) rfl (by rw [(decide_eq_false n0)]; rfl)
  refine wp_cond_true (b1.ev rfl) ?_
  refine wsc (fun f0 i0 => ?_)
  refine mv b1 (fun f0 h0 => ?_)
  refine asg h0 (fun f0 b1 => ?_)
  refine asg b1 (fun f0 h0 => ?_)
  refine wpList_nil (x_then_n (i0 _ _ ?_))
  refine wp_ret ?_
  refine x_then_r ?_
  refine e_ret2 h0 rfl rfl rfl rfl ?_
  have h0 : utA t (lstsT cons) = [] := (ut_err n0).2
  rw [h0]
  refine ⟨none, 0, ?_, b0.fr, ⟨Nat.le_refl _, RowI.nil _ _ _ _⟩⟩
  exact ret_t2 rfl (ret_i (by exact (ut_err n0).1.symm))
end Go.Proofs.YtcfponnkfhkbdaaDoor
/- Contracts of functions, one theorem each: what the call returns, and that nothing old is changed. Printed by gen.py. -/
namespace Go.Proofs.YtcfponnkfhkbdaaDoor
open Go Go.RowKit
set_option linter.unusedSimpArgs false
set_option linter.unusedVariables false
set_option maxRecDepth 100000 in
set_option maxHeartbeats 1000000 in
theorem heavy14_calls (w0 : World) (Z : Nat → Prop) (hZ : ∀ k, Z k → k < w0.heap.size) (tA : Option Addr) (tc : Nat) (t : List Nd) (ht : (dRow 4 tA t.length tc (encNs t)).φ w0 Z) :
    Calls Tryd.prog 10 [.slice tA t.length tc].toArray w0 (fun e w' => e = .returned (.bool (heavyB 120 t)) ∧ Fr none_ w0 w') := by
 have b0 := s0 (M := none_) hZ (zc ht zn)
 refine c_enter Tryd.func10 rfl Tryd.ntmps10 rfl (fun c0 d0 => ?_)
 refine wsc (fun c0 f0 => ?_)
 refine asg d0 (fun c0 h0 => ?_)
 refine wpList_nil (x_then_n (f0 _ _ ?_))
 refine wp_seq_k (fun f0 c0 => ?_)
 refine wsc (fun f0 d0 => ?_)
 refine mv h0 (fun f0 i0 => ?_)
 refine r_len sv i0 rfl rfl rfl rfl Tryd.underlying22 (by decide) (fun f0 h0 => ?_)
 refine r_gtr sv h0 rfl rfl rfl rfl (by decide) (fun f0 i0 => ?_)
 refine wpList_nil (x_then_n (d0 _ _ ?_))
 rcases Decidable.em (120 < ((t.length : Nat) : Int)) with d0 | d0
 ·
  have f0 := i0.setb (d := 6) (b := true) rfl (decide_eq_true d0)
  refine wp_cond_true (f0.ev rfl) ?_
  refine wsc (fun h0 j0 => ?_)
  refine asg f0 (fun h0 k0 => ?_)
  refine wpList_nil (x_then_n (j0 _ _ ?_))
  refine wp_ret ?_
  refine x_then_r ?_
  refine e_ret1 k0 rfl rfl rfl ?_
  refine ⟨?_, b0.fr⟩
  exact congrArg Ending.returned (ret_b (by first | exact (heavy_len (by omega)).symm | exact (heavy_at (k := k) (by omega) (by omega)).symm | exact (heavy_no hi (by omega) (by omega)).symm))
 ·
  have k0 := i0.setb (d := 6) (b := false) rfl (decide_eq_false d0)
  refine wp_cond_false (k0.ev rfl) ?_
  refine wp_skip ?_
  refine x_then_n (c0 _ _ ?_)
  refine wp_seq_k (fun c0 d0 => ?_)
  refine wsc (fun c0 i0 => ?_)
  refine asg k0 (fun c0 j0 => ?_)
  refine wpList_nil (x_then_n (i0 _ _ ?_))
  refine wp_block ?_
  refine wp_loop_ghost (fun gn ga gw => ∃ k : Nat, (Reg ga 20 [(1000000, .bool false), (0, .slice tA t.length tc), (3, .int .i64 ((k : Nat) : Int))]) ∧ (St w0 Z none_ gw [] [dRow 4 tA t.length tc (encNs t)]) ∧ (k ≤ t.length) ∧ (lightTo t k) ∧ (t.length - k) = gn) _ ⟨0, (j0.sub (rc rfl (rc rfl (rc rfl rnl)))), b0, by omega, (fun _ h => by omega), rfl⟩ ?_
  rintro j0 b0 i0 ⟨k, c0, k0, hk, hi, h0⟩
  refine wp_seq_k (fun h0 i0 => ?_)
  refine wsc (fun h0 b0 => ?_)
  refine mv c0 (fun h0 j0 => ?_)
  refine mv j0 (fun h0 c0 => ?_)
  refine r_len sv c0 rfl rfl rfl rfl Tryd.underlying22 (by decide) (fun h0 j0 => ?_)
  refine r_lss sv j0 rfl rfl rfl rfl (by decide) (fun h0 c0 => ?_)
  refine wpList_nil (x_then_n (b0 _ _ ?_))
  rcases Decidable.em (((k : Nat) : Int) < ((t.length : Nat) : Int)) with b0 | b0
  ·
   have h0 := c0.setb (d := 10) (b := true) rfl (decide_eq_true b0)
   refine wp_cond_true (h0.ev rfl) ?_
   refine wp_skip ?_
   refine x_then_n (i0 _ _ ?_)
   refine wp_seq_k (fun i0 j0 => ?_)
   refine wp_block ?_
   refine wsc (fun i0 f0 => ?_)
   refine mv h0 (fun i0 m0 => ?_)
   refine mv m0 (fun i0 h0 => ?_)
   refine m_index (i := k) (j := k * 4) sv h0 rfl rfl rfl rfl Tryd.underlying22 sz39 (by omega) (by omega) (nds_elem (t := t) (k := k) (k0.row (i := 0) rfl).2 (by omega)).some_ rfl (by decide) (fun i0 m0 => ?_)
   refine m_fieldE (j' := k * 4 + 3) sv m0 rfl rfl rfl (nds_elem (t := t) (k := k) (k0.row (i := 0) rfl).2 (by omega)).some_ Tryd.underlying39 rfl sz9 rfl rfl (by decide) (fun i0 h0 => ?_)
   refine m_loadE sv h0 rfl rfl rfl 3 (k * 4) (nds_elem (t := t) (k := k) (k0.row (i := 0) rfl).2 (by omega)) rfl rfl Tryd.underlying9 rfl (by decide) (fun i0 m0 => ?_)
   refine r_lenS sv m0 rfl rfl rfl rfl Tryd.underlying9 (by decide) (fun i0 h0 => ?_)
   refine r_gtr sv h0 rfl rfl rfl rfl (by decide) (fun i0 m0 => ?_)
   refine wpList_nil (x_then_n (f0 _ _ ?_))
   rcases Decidable.em (100 < ((((nth t k).S).size : Nat) : Int)) with f0 | f0
   ·
    have i0 := m0.setb (d := 19) (b := true) rfl (decide_eq_true f0)
    refine wp_cond_true (i0.ev rfl) ?_
    refine wsc (fun h0 n0 => ?_)
    refine asg i0 (fun h0 o0 => ?_)
    refine wpList_nil (x_then_n (n0 _ _ ?_))
    refine wp_ret ?_
    refine x_block_r ?_
    refine x_then_r ?_
    refine x_then_r ?_
    refine x_block_r ?_
    refine x_then_r ?_
    refine e_ret1 o0 rfl rfl rfl ?_
    refine ⟨?_, k0.fr⟩
    exact congrArg Ending.returned (ret_b (by first | exact (heavy_len (by omega)).symm | exact (heavy_at (k := k) (by omega) (by omega)).symm | exact (heavy_no hi (by omega) (by omega)).symm))
   ·
    have o0 := m0.setb (d := 19) (b := false) rfl (decide_eq_false f0)
    refine wp_cond_false (o0.ev rfl) ?_
    refine wp_skip ?_
    refine x_block_n ?_
    refine x_then_n (j0 _ _ ?_)
    refine c_region ?_
    refine mv o0 (fun j0 f0 => ?_)
    refine r_add (z := ((k + 1 : Nat) : Int)) sv f0 rfl rfl rfl rfl (by decide) (by omega) (by omega) (by omega) (fun j0 o0 => ?_)
    refine asg o0 (fun j0 f0 => ?_)
    refine wpList_nil ?_
    exact ⟨_, by omega, k + 1, (f0.sub (rc rfl (rc rfl (rc rfl rnl)))), k0, by omega, light_step hi (by omega), rfl⟩
  ·
   have f0 := c0.setb (d := 10) (b := false) rfl (decide_eq_false b0)
   refine wp_cond_false (f0.ev rfl) ?_
   refine wp_exit ?_
   refine x_then_e ?_
   refine x_then_e ?_
   refine x_block_eq ?_
   refine x_then_n (d0 _ _ ?_)
   refine wsc (fun d0 b0 => ?_)
   refine asg f0 (fun d0 c0 => ?_)
   refine wpList_nil (x_then_n (b0 _ _ ?_))
   refine wp_ret ?_
   refine e_ret1 c0 rfl rfl rfl ?_
   refine ⟨?_, k0.fr⟩
   exact congrArg Ending.returned (ret_b (by first | exact (heavy_len (by omega)).symm | exact (heavy_at (k := k) (by omega) (by omega)).symm | exact (heavy_no hi (by omega) (by omega)).symm))
end Go.Proofs.YtcfponnkfhkbdaaDoor
/- Contracts of functions, one theorem each: what the call returns, and that nothing old is changed. Printed by gen.py. -/
namespace Go.Proofs.YtcfponnkfhkbdaaDoor
open Go Go.RowKit
set_option linter.unusedSimpArgs false
set_option linter.unusedVariables false
set_option maxRecDepth 100000 in
set_option maxHeartbeats 1000000 in
theorem shown14_calls (w0 : World) (Z : Nat → Prop) (hZ : ∀ k, Z k → k < w0.heap.size)  (hShp : Shapes w0 Z) :
    Calls Tryd.prog 12 [].toArray w0 (fun e w' => e = .returned (.bool (true)) ∧ Fr none_ w0 w') := by
 have b0 := s0 (M := none_) hZ (zc (d := dShapes) hShp zn)
 refine c_enter Tryd.func12 rfl Tryd.ntmps12 rfl (fun c0 d0 => ?_)
 refine wsc (fun c0 f0 => ?_)
 refine asg d0 (fun c0 h0 => ?_)
 refine wpList_nil (x_then_n (f0 _ _ ?_))
 refine wsc (fun f0 c0 => ?_)
 refine m_build (ps := [(0, .const (.int .i64 10))]) (v := .agg #[.int .i64 10, .int .i64 0, .int .i64 0, .string (⟨#[]⟩ : ByteArray)]) sv h0 rfl rfl rfl (fun _ => by kernel_rfl) (by decide) (fun f0 d0 => ?_)
 refine m_build (ps := [(0, .const (.int .i64 11))]) (v := .agg #[.int .i64 11, .int .i64 0, .int .i64 0, .string (⟨#[]⟩ : ByteArray)]) sv d0 rfl rfl rfl (fun _ => by kernel_rfl) (by decide) (fun f0 h0 => ?_)
 refine m_build (ps := [(0, .const (.int .i64 16))]) (v := .agg #[.int .i64 16, .int .i64 0, .int .i64 0, .string (⟨#[]⟩ : ByteArray)]) sv h0 rfl rfl rfl (fun _ => by kernel_rfl) (by decide) (fun f0 d0 => ?_)
 refine m_build (ps := [(0, .const (.int .i64 7))]) (v := .agg #[.int .i64 7, .int .i64 0, .int .i64 0, .string (⟨#[]⟩ : ByteArray)]) sv d0 rfl rfl rfl (fun _ => by kernel_rfl) (by decide) (fun f0 h0 => ?_)
 refine m_build (ps := [(0, .const (.int .i64 8))]) (v := .agg #[.int .i64 8, .int .i64 0, .int .i64 0, .string (⟨#[]⟩ : ByteArray)]) sv h0 rfl rfl rfl (fun _ => by kernel_rfl) (by decide) (fun f0 d0 => ?_)
 refine mbs [(0, .tmp 4), (1, .tmp 5), (2, .tmp 6), (3, .tmp 7), (4, .tmp 8)] [.int .i64 10, .int .i64 0, .int .i64 0, .string (⟨#[]⟩ : ByteArray), .int .i64 11, .int .i64 0, .int .i64 0, .string (⟨#[]⟩ : ByteArray), .int .i64 16, .int .i64 0, .int .i64 0, .string (⟨#[]⟩ : ByteArray), .int .i64 7, .int .i64 0, .int .i64 0, .string (⟨#[]⟩ : ByteArray), .int .i64 8, .int .i64 0, .int .i64 0, .string (⟨#[]⟩ : ByteArray)] sv d0 b0 Tryd.underlying22 zi39 (fun f0 h0 i0 j0 k0 => ?_)
 refine asg j0 (fun h0 f0 => ?_)
 refine wpList_nil (x_then_n (c0 _ _ ?_))
 refine wsc (fun c0 h0 => ?_)
 refine mv f0 (fun c0 j0 => ?_)
 have c0 := k0.nf
 have k0 := own_cap (c0.res (i := 0) rfl)
 obtain ⟨f0, d0⟩ := c0.row_data (i := 0) rfl (fun _ h => h)
 have c0 := f0.data (dRow 4 (some ⟨i0, 0, none⟩) 5 5 (encNs ([(⟨10, 0, 0, (⟨#[]⟩ : ByteArray)⟩ : Nd), (⟨11, 0, 0, (⟨#[]⟩ : ByteArray)⟩ : Nd), (⟨16, 0, 0, (⟨#[]⟩ : ByteArray)⟩ : Nd), (⟨7, 0, 0, (⟨#[]⟩ : ByteArray)⟩ : Nd), (⟨8, 0, 0, (⟨#[]⟩ : ByteArray)⟩ : Nd)]))) ⟨k0, d0⟩
 refine k_call (xs := [.tmp 11, .const (.slice none 0 0)]) se j0 rfl rfl rfl (by decide) ok13 (urule0_calls _ _ c0.il _ _ ([(⟨10, 0, 0, (⟨#[]⟩ : ByteArray)⟩ : Nd), (⟨11, 0, 0, (⟨#[]⟩ : ByteArray)⟩ : Nd), (⟨16, 0, 0, (⟨#[]⟩ : ByteArray)⟩ : Nd), (⟨7, 0, 0, (⟨#[]⟩ : ByteArray)⟩ : Nd), (⟨8, 0, 0, (⟨#[]⟩ : ByteArray)⟩ : Nd)]) (c0.g 0) (c0.g 1) (hsm := sml_14) (hl := (by simp)) (h27 := (by decide))) ?_
 rintro j0 d0 ⟨f0, k0, rfl, b0, m0⟩
 have d0 := c0.below b0.below
 have b0 := c0.dN d0 m0
 refine ⟨_, rfl, fun d0 m0 => ?_⟩
 refine mv m0 (fun d0 c0 => ?_)
 refine r_extract sv c0 rfl rfl rfl rfl (by decide) (fun d0 m0 => ?_)
 refine r_extract sv m0 rfl rfl rfl rfl (by decide) (fun d0 c0 => ?_)
 refine asg c0 (fun d0 m0 => ?_)
 refine asg m0 (fun d0 c0 => ?_)
 refine wpList_nil (x_then_n (h0 _ _ ?_))
 refine wsc (fun h0 d0 => ?_)
 refine mv c0 (fun h0 m0 => ?_)
 refine r_eql sv m0 rfl rfl rfl rfl (by decide) (fun h0 c0 => ?_)
 refine mv c0 (fun h0 m0 => ?_)
 refine l_join (fun ga gw => Reg ga 34 [(0, .bool false), (1, .slice (some ⟨i0, 0, none⟩) 5 5), (2, .slice f0 ((urA ([(⟨10, 0, 0, (⟨#[]⟩ : ByteArray)⟩ : Nd), (⟨11, 0, 0, (⟨#[]⟩ : ByteArray)⟩ : Nd), (⟨16, 0, 0, (⟨#[]⟩ : ByteArray)⟩ : Nd), (⟨7, 0, 0, (⟨#[]⟩ : ByteArray)⟩ : Nd), (⟨8, 0, 0, (⟨#[]⟩ : ByteArray)⟩ : Nd)])).length) k0), (21, .bool ((decide (((urE ([(⟨10, 0, 0, (⟨#[]⟩ : ByteArray)⟩ : Nd), (⟨11, 0, 0, (⟨#[]⟩ : ByteArray)⟩ : Nd), (⟨16, 0, 0, (⟨#[]⟩ : ByteArray)⟩ : Nd), (⟨7, 0, 0, (⟨#[]⟩ : ByteArray)⟩ : Nd), (⟨8, 0, 0, (⟨#[]⟩ : ByteArray)⟩ : Nd)]))) = 0)) && (decide ((((urA ([(⟨10, 0, 0, (⟨#[]⟩ : ByteArray)⟩ : Nd), (⟨11, 0, 0, (⟨#[]⟩ : ByteArray)⟩ : Nd), (⟨16, 0, 0, (⟨#[]⟩ : ByteArray)⟩ : Nd), (⟨7, 0, 0, (⟨#[]⟩ : ByteArray)⟩ : Nd), (⟨8, 0, 0, (⟨#[]⟩ : ByteArray)⟩ : Nd)])).length : Nat) : Int) = 1)))), (1000000, .bool false)] ∧ St w0 Z none_ gw [] [dShapes, dRow 4 (some ⟨i0, 0, none⟩) 5 5 (encNs ([(⟨10, 0, 0, (⟨#[]⟩ : ByteArray)⟩ : Nd), (⟨11, 0, 0, (⟨#[]⟩ : ByteArray)⟩ : Nd), (⟨16, 0, 0, (⟨#[]⟩ : ByteArray)⟩ : Nd), (⟨7, 0, 0, (⟨#[]⟩ : ByteArray)⟩ : Nd), (⟨8, 0, 0, (⟨#[]⟩ : ByteArray)⟩ : Nd)])), dRow 4 f0 ((urA ([(⟨10, 0, 0, (⟨#[]⟩ : ByteArray)⟩ : Nd), (⟨11, 0, 0, (⟨#[]⟩ : ByteArray)⟩ : Nd), (⟨16, 0, 0, (⟨#[]⟩ : ByteArray)⟩ : Nd), (⟨7, 0, 0, (⟨#[]⟩ : ByteArray)⟩ : Nd), (⟨8, 0, 0, (⟨#[]⟩ : ByteArray)⟩ : Nd)])).length) k0 (encNs (urA ([(⟨10, 0, 0, (⟨#[]⟩ : ByteArray)⟩ : Nd), (⟨11, 0, 0, (⟨#[]⟩ : ByteArray)⟩ : Nd), (⟨16, 0, 0, (⟨#[]⟩ : ByteArray)⟩ : Nd), (⟨7, 0, 0, (⟨#[]⟩ : ByteArray)⟩ : Nd), (⟨8, 0, 0, (⟨#[]⟩ : ByteArray)⟩ : Nd)])))]) 4 ?_ ?_
 ·
  rcases Decidable.em (((urE ([(⟨10, 0, 0, (⟨#[]⟩ : ByteArray)⟩ : Nd), (⟨11, 0, 0, (⟨#[]⟩ : ByteArray)⟩ : Nd), (⟨16, 0, 0, (⟨#[]⟩ : ByteArray)⟩ : Nd), (⟨7, 0, 0, (⟨#[]⟩ : ByteArray)⟩ : Nd), (⟨8, 0, 0, (⟨#[]⟩ : ByteArray)⟩ : Nd)]))) = 0) with h0 | h0
  ·
   have c0 := m0.setb (d := 17) (b := true) rfl (decide_eq_true h0)
   refine r_move (st_listV_w (wt c0)) c0 rfl rfl rfl (by decide) (fun j0 n0 => ?_)
   refine r_len (st_listV_w (wt n0)) n0 rfl rfl rfl rfl Tryd.underlying22 (by decide) (fun j0 c0 => ?_)
   refine r_eql (st_listV_w (wt c0)) c0 rfl rfl rfl rfl (by decide) (fun j0 n0 => ?_)
   refine r_pick_t sv n0 rfl rfl rfl rfl (by decide) (fun j0 c0 => ?_)
   refine wpList_nil ?_
   exact x_then_n ⟨(c0.sub (rc rfl (rc rfl (rc rfl (rc (rb rfl (by first | rfl | (simp only [decide_eq_true h0, if_pos h0, bl]; done) | (simp [h0]; done) | (simp [h0]; omega))) (rc rfl rnl)))))), b0⟩
  ·
   have c0 := m0.setb (d := 17) (b := false) rfl (decide_eq_false h0)
   refine sps c0 (wff c0) (fun m0 j0 => ?_)
   refine sps j0 (wff j0) (fun m0 c0 => ?_)
   refine sps c0 (wff c0) (fun m0 j0 => ?_)
   refine r_pick_f sv j0 rfl rfl rfl rfl (by decide) (fun m0 c0 => ?_)
   refine wpList_nil ?_
   exact x_then_n ⟨(c0.sub (rc rfl (rc rfl (rc rfl (rc (rb rfl (by first | rfl | (simp only [decide_eq_false h0, if_neg h0, bl]; done) | (simp [h0]; done) | (simp [h0]; omega))) (rc rfl rnl)))))), b0⟩
 rintro c0 h0 ⟨b0, m0⟩
 refine mv b0 (fun h0 c0 => ?_)
 refine l_join (fun ga gw => Reg ga 34 [(0, .bool false), (1, .slice (some ⟨i0, 0, none⟩) 5 5), (28, .bool (((decide (((urE ([(⟨10, 0, 0, (⟨#[]⟩ : ByteArray)⟩ : Nd), (⟨11, 0, 0, (⟨#[]⟩ : ByteArray)⟩ : Nd), (⟨16, 0, 0, (⟨#[]⟩ : ByteArray)⟩ : Nd), (⟨7, 0, 0, (⟨#[]⟩ : ByteArray)⟩ : Nd), (⟨8, 0, 0, (⟨#[]⟩ : ByteArray)⟩ : Nd)]))) = 0)) && (decide ((((urA ([(⟨10, 0, 0, (⟨#[]⟩ : ByteArray)⟩ : Nd), (⟨11, 0, 0, (⟨#[]⟩ : ByteArray)⟩ : Nd), (⟨16, 0, 0, (⟨#[]⟩ : ByteArray)⟩ : Nd), (⟨7, 0, 0, (⟨#[]⟩ : ByteArray)⟩ : Nd), (⟨8, 0, 0, (⟨#[]⟩ : ByteArray)⟩ : Nd)])).length : Nat) : Int) = 1))) && (decide ((((nth (urA ([(⟨10, 0, 0, (⟨#[]⟩ : ByteArray)⟩ : Nd), (⟨11, 0, 0, (⟨#[]⟩ : ByteArray)⟩ : Nd), (⟨16, 0, 0, (⟨#[]⟩ : ByteArray)⟩ : Nd), (⟨7, 0, 0, (⟨#[]⟩ : ByteArray)⟩ : Nd), (⟨8, 0, 0, (⟨#[]⟩ : ByteArray)⟩ : Nd)])) 0).K)) = 11)))), (1000000, .bool false)] ∧ St w0 Z none_ gw [] [dShapes, dRow 4 (some ⟨i0, 0, none⟩) 5 5 (encNs ([(⟨10, 0, 0, (⟨#[]⟩ : ByteArray)⟩ : Nd), (⟨11, 0, 0, (⟨#[]⟩ : ByteArray)⟩ : Nd), (⟨16, 0, 0, (⟨#[]⟩ : ByteArray)⟩ : Nd), (⟨7, 0, 0, (⟨#[]⟩ : ByteArray)⟩ : Nd), (⟨8, 0, 0, (⟨#[]⟩ : ByteArray)⟩ : Nd)])), dRow 4 f0 ((urA ([(⟨10, 0, 0, (⟨#[]⟩ : ByteArray)⟩ : Nd), (⟨11, 0, 0, (⟨#[]⟩ : ByteArray)⟩ : Nd), (⟨16, 0, 0, (⟨#[]⟩ : ByteArray)⟩ : Nd), (⟨7, 0, 0, (⟨#[]⟩ : ByteArray)⟩ : Nd), (⟨8, 0, 0, (⟨#[]⟩ : ByteArray)⟩ : Nd)])).length) k0 (encNs (urA ([(⟨10, 0, 0, (⟨#[]⟩ : ByteArray)⟩ : Nd), (⟨11, 0, 0, (⟨#[]⟩ : ByteArray)⟩ : Nd), (⟨16, 0, 0, (⟨#[]⟩ : ByteArray)⟩ : Nd), (⟨7, 0, 0, (⟨#[]⟩ : ByteArray)⟩ : Nd), (⟨8, 0, 0, (⟨#[]⟩ : ByteArray)⟩ : Nd)])))]) 6 ?_ ?_
 ·
  rcases Bool.eq_false_or_eq_true (((decide (((urE ([(⟨10, 0, 0, (⟨#[]⟩ : ByteArray)⟩ : Nd), (⟨11, 0, 0, (⟨#[]⟩ : ByteArray)⟩ : Nd), (⟨16, 0, 0, (⟨#[]⟩ : ByteArray)⟩ : Nd), (⟨7, 0, 0, (⟨#[]⟩ : ByteArray)⟩ : Nd), (⟨8, 0, 0, (⟨#[]⟩ : ByteArray)⟩ : Nd)]))) = 0)) && (decide ((((urA ([(⟨10, 0, 0, (⟨#[]⟩ : ByteArray)⟩ : Nd), (⟨11, 0, 0, (⟨#[]⟩ : ByteArray)⟩ : Nd), (⟨16, 0, 0, (⟨#[]⟩ : ByteArray)⟩ : Nd), (⟨7, 0, 0, (⟨#[]⟩ : ByteArray)⟩ : Nd), (⟨8, 0, 0, (⟨#[]⟩ : ByteArray)⟩ : Nd)])).length : Nat) : Int) = 1)))) with h0 | h0
  ·
   have b0 := and_tl h0
   have j0 := of_decide_eq_true b0
   have j0 := and_tr h0
   have b0 := of_decide_eq_true j0
   have b0 := c0.setb (d := 22) (b := true) rfl h0
   refine r_move (st_listV_w (wt b0)) b0 rfl rfl rfl (by decide) (fun j0 n0 => ?_)
   refine m_index (i := 0) (j := 0 * 4) (st_listV_w (wt n0)) n0 rfl rfl rfl rfl Tryd.underlying22 sz39 (by omega) (by omega) (nds_elem (t := urA ([(⟨10, 0, 0, (⟨#[]⟩ : ByteArray)⟩ : Nd), (⟨11, 0, 0, (⟨#[]⟩ : ByteArray)⟩ : Nd), (⟨16, 0, 0, (⟨#[]⟩ : ByteArray)⟩ : Nd), (⟨7, 0, 0, (⟨#[]⟩ : ByteArray)⟩ : Nd), (⟨8, 0, 0, (⟨#[]⟩ : ByteArray)⟩ : Nd)])) (k := 0) (m0.row (i := 2) rfl).2 (by omega)).some_ rfl (by decide) (fun j0 b0 => ?_)
   refine m_fieldE (j' := 0 * 4) (st_listV_w (wt b0)) b0 rfl rfl rfl (nds_elem (t := urA ([(⟨10, 0, 0, (⟨#[]⟩ : ByteArray)⟩ : Nd), (⟨11, 0, 0, (⟨#[]⟩ : ByteArray)⟩ : Nd), (⟨16, 0, 0, (⟨#[]⟩ : ByteArray)⟩ : Nd), (⟨7, 0, 0, (⟨#[]⟩ : ByteArray)⟩ : Nd), (⟨8, 0, 0, (⟨#[]⟩ : ByteArray)⟩ : Nd)])) (k := 0) (m0.row (i := 2) rfl).2 (by omega)).some_ Tryd.underlying39 rfl sz3 rfl rfl (by decide) (fun j0 n0 => ?_)
   refine m_loadE (st_listV_w (wt n0)) n0 rfl rfl rfl 0 (0 * 4) (nds_elem (t := urA ([(⟨10, 0, 0, (⟨#[]⟩ : ByteArray)⟩ : Nd), (⟨11, 0, 0, (⟨#[]⟩ : ByteArray)⟩ : Nd), (⟨16, 0, 0, (⟨#[]⟩ : ByteArray)⟩ : Nd), (⟨7, 0, 0, (⟨#[]⟩ : ByteArray)⟩ : Nd), (⟨8, 0, 0, (⟨#[]⟩ : ByteArray)⟩ : Nd)])) (k := 0) (m0.row (i := 2) rfl).2 (by omega)) rfl rfl Tryd.underlying3 rfl (by decide) (fun j0 b0 => ?_)
   refine r_eql (st_listV_w (wt b0)) b0 rfl rfl rfl rfl (by decide) (fun j0 n0 => ?_)
   refine r_pick_t sv n0 rfl rfl rfl rfl (by decide) (fun j0 b0 => ?_)
   refine wpList_nil ?_
   exact x_then_n ⟨(b0.sub (rc rfl (rc rfl (rc (rb rfl (by first | rfl | (simp only [h0, bl]; done) | (simp [h0]; done) | (simp [h0]; omega))) (rc rfl rnl))))), m0⟩
  ·
   have b0 := h0
   try simp only [Bool.or_eq_true, Bool.and_eq_true, Bool.not_eq_true', Bool.not_eq_false', decide_eq_true_eq, decide_eq_false_iff_not, Bool.or_eq_false_iff, Bool.and_eq_false_iff] at b0
   have b0 := c0.setb (d := 22) (b := false) rfl h0
   refine sps b0 (wff b0) (fun c0 j0 => ?_)
   refine sps j0 (wff j0) (fun c0 b0 => ?_)
   refine sps b0 (wff b0) (fun c0 j0 => ?_)
   refine sps j0 (wff j0) (fun c0 b0 => ?_)
   refine sps b0 (wff b0) (fun c0 j0 => ?_)
   refine r_pick_f sv j0 rfl rfl rfl rfl (by decide) (fun c0 b0 => ?_)
   refine wpList_nil ?_
   exact x_then_n ⟨(b0.sub (rc rfl (rc rfl (rc (rb rfl (by first | rfl | (simp only [h0, bl]; done) | (simp [h0]; done) | (simp [h0]; omega))) (rc rfl rnl))))), m0⟩
 rintro b0 h0 ⟨m0, c0⟩
 refine mv m0 (fun h0 b0 => ?_)
 refine l_join (fun ga gw => Reg ga 34 [(0, .bool false), (33, .bool ((((decide (((urE ([(⟨10, 0, 0, (⟨#[]⟩ : ByteArray)⟩ : Nd), (⟨11, 0, 0, (⟨#[]⟩ : ByteArray)⟩ : Nd), (⟨16, 0, 0, (⟨#[]⟩ : ByteArray)⟩ : Nd), (⟨7, 0, 0, (⟨#[]⟩ : ByteArray)⟩ : Nd), (⟨8, 0, 0, (⟨#[]⟩ : ByteArray)⟩ : Nd)]))) = 0)) && (decide ((((urA ([(⟨10, 0, 0, (⟨#[]⟩ : ByteArray)⟩ : Nd), (⟨11, 0, 0, (⟨#[]⟩ : ByteArray)⟩ : Nd), (⟨16, 0, 0, (⟨#[]⟩ : ByteArray)⟩ : Nd), (⟨7, 0, 0, (⟨#[]⟩ : ByteArray)⟩ : Nd), (⟨8, 0, 0, (⟨#[]⟩ : ByteArray)⟩ : Nd)])).length : Nat) : Int) = 1))) && (decide ((((nth (urA ([(⟨10, 0, 0, (⟨#[]⟩ : ByteArray)⟩ : Nd), (⟨11, 0, 0, (⟨#[]⟩ : ByteArray)⟩ : Nd), (⟨16, 0, 0, (⟨#[]⟩ : ByteArray)⟩ : Nd), (⟨7, 0, 0, (⟨#[]⟩ : ByteArray)⟩ : Nd), (⟨8, 0, 0, (⟨#[]⟩ : ByteArray)⟩ : Nd)])) 0).K)) = 11))) && (decide (((tgA ([(⟨10, 0, 0, (⟨#[]⟩ : ByteArray)⟩ : Nd), (⟨11, 0, 0, (⟨#[]⟩ : ByteArray)⟩ : Nd), (⟨16, 0, 0, (⟨#[]⟩ : ByteArray)⟩ : Nd), (⟨7, 0, 0, (⟨#[]⟩ : ByteArray)⟩ : Nd), (⟨8, 0, 0, (⟨#[]⟩ : ByteArray)⟩ : Nd)]))) = 0)))), (1000000, .bool false)] ∧ St w0 Z none_ gw [] [dShapes, dRow 4 (some ⟨i0, 0, none⟩) 5 5 (encNs ([(⟨10, 0, 0, (⟨#[]⟩ : ByteArray)⟩ : Nd), (⟨11, 0, 0, (⟨#[]⟩ : ByteArray)⟩ : Nd), (⟨16, 0, 0, (⟨#[]⟩ : ByteArray)⟩ : Nd), (⟨7, 0, 0, (⟨#[]⟩ : ByteArray)⟩ : Nd), (⟨8, 0, 0, (⟨#[]⟩ : ByteArray)⟩ : Nd)])), dRow 4 f0 ((urA ([(⟨10, 0, 0, (⟨#[]⟩ : ByteArray)⟩ : Nd), (⟨11, 0, 0, (⟨#[]⟩ : ByteArray)⟩ : Nd), (⟨16, 0, 0, (⟨#[]⟩ : ByteArray)⟩ : Nd), (⟨7, 0, 0, (⟨#[]⟩ : ByteArray)⟩ : Nd), (⟨8, 0, 0, (⟨#[]⟩ : ByteArray)⟩ : Nd)])).length) k0 (encNs (urA ([(⟨10, 0, 0, (⟨#[]⟩ : ByteArray)⟩ : Nd), (⟨11, 0, 0, (⟨#[]⟩ : ByteArray)⟩ : Nd), (⟨16, 0, 0, (⟨#[]⟩ : ByteArray)⟩ : Nd), (⟨7, 0, 0, (⟨#[]⟩ : ByteArray)⟩ : Nd), (⟨8, 0, 0, (⟨#[]⟩ : ByteArray)⟩ : Nd)])))]) 4 ?_ ?_
 ·
  rcases Bool.eq_false_or_eq_true ((((decide (((urE ([(⟨10, 0, 0, (⟨#[]⟩ : ByteArray)⟩ : Nd), (⟨11, 0, 0, (⟨#[]⟩ : ByteArray)⟩ : Nd), (⟨16, 0, 0, (⟨#[]⟩ : ByteArray)⟩ : Nd), (⟨7, 0, 0, (⟨#[]⟩ : ByteArray)⟩ : Nd), (⟨8, 0, 0, (⟨#[]⟩ : ByteArray)⟩ : Nd)]))) = 0)) && (decide ((((urA ([(⟨10, 0, 0, (⟨#[]⟩ : ByteArray)⟩ : Nd), (⟨11, 0, 0, (⟨#[]⟩ : ByteArray)⟩ : Nd), (⟨16, 0, 0, (⟨#[]⟩ : ByteArray)⟩ : Nd), (⟨7, 0, 0, (⟨#[]⟩ : ByteArray)⟩ : Nd), (⟨8, 0, 0, (⟨#[]⟩ : ByteArray)⟩ : Nd)])).length : Nat) : Int) = 1))) && (decide ((((nth (urA ([(⟨10, 0, 0, (⟨#[]⟩ : ByteArray)⟩ : Nd), (⟨11, 0, 0, (⟨#[]⟩ : ByteArray)⟩ : Nd), (⟨16, 0, 0, (⟨#[]⟩ : ByteArray)⟩ : Nd), (⟨7, 0, 0, (⟨#[]⟩ : ByteArray)⟩ : Nd), (⟨8, 0, 0, (⟨#[]⟩ : ByteArray)⟩ : Nd)])) 0).K)) = 11)))) with k0 | k0
  ·
   have f0 := and_tl k0
   have i0 := and_tl f0
   have h0 := of_decide_eq_true i0
   have h0 := and_tr f0
   have f0 := of_decide_eq_true h0
   have f0 := and_tr k0
   have h0 := of_decide_eq_true f0
   have h0 := b0.setb (d := 29) (b := true) rfl k0
   refine r_move (st_listV_w (wt h0)) h0 rfl rfl rfl (by decide) (fun f0 i0 => ?_)
   have f0 := c0.nf
   refine k_call (xs := [.tmp 30]) (st_list_w (wt i0)) i0 rfl rfl rfl (by decide) ok17 (uTarget_calls _ _ f0.il _ _ ([(⟨10, 0, 0, (⟨#[]⟩ : ByteArray)⟩ : Nd), (⟨11, 0, 0, (⟨#[]⟩ : ByteArray)⟩ : Nd), (⟨16, 0, 0, (⟨#[]⟩ : ByteArray)⟩ : Nd), (⟨7, 0, 0, (⟨#[]⟩ : ByteArray)⟩ : Nd), (⟨8, 0, 0, (⟨#[]⟩ : ByteArray)⟩ : Nd)]) (f0.g 0) (f0.g 1) (hsm := sml_14) (hl := (by simp))) ?_
   rintro i0 h0 ⟨rfl, m0⟩
   have h0 := f0.below m0.below
   refine ⟨_, rfl, fun m0 f0 => ?_⟩
   refine r_eql (st_listV_w (wt f0)) f0 rfl rfl rfl rfl (by decide) (fun m0 i0 => ?_)
   refine r_pick_t sv i0 rfl rfl rfl rfl (by decide) (fun m0 f0 => ?_)
   refine wpList_nil ?_
   exact x_then_n ⟨(f0.sub (rc rfl (rc (rb rfl (by first | rfl | (simp only [k0, bl]; done) | (simp [k0]; done) | (simp [k0]; omega))) (rc rfl rnl)))), h0⟩
  ·
   have f0 := k0
   try simp only [Bool.or_eq_true, Bool.and_eq_true, Bool.not_eq_true', Bool.not_eq_false', decide_eq_true_eq, decide_eq_false_iff_not, Bool.or_eq_false_iff, Bool.and_eq_false_iff] at f0
   have f0 := b0.setb (d := 29) (b := false) rfl k0
   refine sps f0 (wff f0) (fun b0 h0 => ?_)
   refine sps h0 (wff h0) (fun b0 f0 => ?_)
   refine sps f0 (wff f0) (fun b0 h0 => ?_)
   refine r_pick_f sv h0 rfl rfl rfl rfl (by decide) (fun b0 f0 => ?_)
   refine wpList_nil ?_
   exact x_then_n ⟨(f0.sub (rc rfl (rc (rb rfl (by first | rfl | (simp only [k0, bl]; done) | (simp [k0]; done) | (simp [k0]; omega))) (rc rfl rnl)))), c0⟩
 rintro f0 k0 ⟨c0, b0⟩
 refine asg c0 (fun k0 f0 => ?_)
 refine wpList_nil (x_then_n (d0 _ _ ?_))
 refine wp_ret ?_
 refine e_ret1 f0 rfl rfl rfl ?_
 refine ⟨?_, b0.fr⟩
 exact congrArg Ending.returned (ret_b (by simp [sh14.1, sh14.2.1, sh14.2.2, nth]))
end Go.Proofs.YtcfponnkfhkbdaaDoor
/- Contracts of functions, one theorem each: what the call returns, and that nothing old is changed. Printed by gen.py. -/
namespace Go.Proofs.YtcfponnkfhkbdaaDoor
open Go Go.RowKit
set_option linter.unusedSimpArgs false
set_option linter.unusedVariables false
set_option maxRecDepth 100000 in
set_option maxHeartbeats 1000000 in
theorem rlevel_calls (w0 : World) (Z : Nat → Prop) (hZ : ∀ k, Z k → k < w0.heap.size) (n : Int)  :
    Calls Tryd.prog 111 [.int .i64 n].toArray w0 (fun e w' => e = .returned (.bool (decide (0 ≤ n) && decide (n ≤ 9))) ∧ Fr none_ w0 w') := by
 have b0 := s0 (M := none_) hZ zn
 refine c_enter Tryd.func111 rfl Tryd.ntmps111 rfl (fun c0 d0 => ?_)
 refine wsc (fun c0 f0 => ?_)
 refine asg d0 (fun c0 h0 => ?_)
 refine wpList_nil (x_then_n (f0 _ _ ?_))
 refine wsc (fun f0 c0 => ?_)
 refine mv h0 (fun f0 d0 => ?_)
 refine r_geq sv d0 rfl rfl rfl rfl (by decide) (fun f0 h0 => ?_)
 refine mv h0 (fun f0 d0 => ?_)
 refine l_join (fun ga gw => Reg ga 9 [(2, .bool false), (8, .bool ((decide (0 ≤ (n))) && (decide ((n) ≤ 9)))), (1000000, .bool false)] ∧ St w0 Z none_ gw [] []) 3 ?_ ?_
 ·
  rcases Decidable.em (0 ≤ (n)) with f0 | f0
  ·
   have h0 := d0.setb (d := 5) (b := true) rfl (decide_eq_true f0)
   refine r_move (st_listV_w (wt h0)) h0 rfl rfl rfl (by decide) (fun i0 j0 => ?_)
   refine r_leq (st_listV_w (wt j0)) j0 rfl rfl rfl rfl (by decide) (fun i0 h0 => ?_)
   refine r_pick_t sv h0 rfl rfl rfl rfl (by decide) (fun i0 j0 => ?_)
   refine wpList_nil ?_
   exact x_then_n ⟨(j0.sub (rc rfl (rc (rb rfl (by (simp only [decide_eq_true f0, if_pos f0, bl]; done))) (rc rfl rnl)))), b0⟩
  ·
   have j0 := d0.setb (d := 5) (b := false) rfl (decide_eq_false f0)
   refine sps j0 (wff j0) (fun d0 i0 => ?_)
   refine sps i0 (wff i0) (fun d0 j0 => ?_)
   refine r_pick_f sv j0 rfl rfl rfl rfl (by decide) (fun d0 i0 => ?_)
   refine wpList_nil ?_
   exact x_then_n ⟨(i0.sub (rc rfl (rc (rb rfl (by (simp only [decide_eq_false f0, if_neg f0, bl]; done))) (rc rfl rnl)))), b0⟩
 rintro i0 f0 ⟨b0, d0⟩
 refine asg b0 (fun f0 i0 => ?_)
 refine wpList_nil (x_then_n (c0 _ _ ?_))
 refine wp_ret ?_
 refine e_ret1 i0 rfl rfl rfl ?_
 refine ⟨?_, d0.fr⟩
 exact congrArg Ending.returned (ret_b (by rfl))
set_option maxRecDepth 100000 in
set_option maxHeartbeats 1000000 in
theorem rlvCheck_calls (w0 : World) (Z : Nat → Prop) (hZ : ∀ k, Z k → k < w0.heap.size) (n : Int)  :
    Calls Tryd.prog 83 [.int .i64 n].toArray w0 (fun e w' => e = .returned (.int .i64 (lvChk n)) ∧ Fr none_ w0 w') := by
 have b0 := s0 (M := none_) hZ zn
 refine c_enter Tryd.func83 rfl Tryd.ntmps83 rfl (fun c0 d0 => ?_)
 refine wsc (fun c0 f0 => ?_)
 refine asg d0 (fun c0 h0 => ?_)
 refine wpList_nil (x_then_n (f0 _ _ ?_))
 refine wp_seq_k (fun f0 c0 => ?_)
 refine wsc (fun f0 d0 => ?_)
 refine mv h0 (fun f0 i0 => ?_)
 have f0 := b0.nf
 refine k_call (xs := [.tmp 3]) se i0 rfl rfl rfl (by decide) ok111 (rlevel_calls _ _ f0.il (n)) ?_
 rintro i0 b0 ⟨rfl, h0⟩
 have b0 := f0.below h0.below
 refine ⟨_, rfl, fun h0 f0 => ?_⟩
 refine r_not sv f0 rfl rfl rfl (by decide) (fun h0 i0 => ?_)
 refine wpList_nil (x_then_n (d0 _ _ ?_))
 rcases Bool.eq_false_or_eq_true (decide (0 ≤ (n)) && decide ((n) ≤ 9)) with d0 | d0
 ·
  have h0 := and_tl d0
  have f0 := of_decide_eq_true h0
  have h0 := and_tr d0
  have j0 := of_decide_eq_true h0
  have h0 := i0.setb (d := 5) (b := false) rfl (by rw [d0]; rfl)
  refine wp_cond_false (h0.ev rfl) ?_
  refine wp_skip ?_
  refine x_then_n (c0 _ _ ?_)
  refine wsc (fun c0 k0 => ?_)
  refine asg h0 (fun c0 m0 => ?_)
  refine wpList_nil (x_then_n (k0 _ _ ?_))
  refine wp_ret ?_
  refine e_ret1 m0 rfl rfl rfl ?_
  refine ⟨?_, b0.fr⟩
  exact congrArg Ending.returned (ret_i (by have m0 := d0; (try simp at m0); have k0 := f0; (try simp at k0); have c0 := j0; (try simp at c0);  unfold lvChk; (try split) <;> first | rfl | omega))
 ·
  have c0 := d0
  try simp only [Bool.or_eq_true, Bool.and_eq_true, Bool.not_eq_true', Bool.not_eq_false', decide_eq_true_eq, decide_eq_false_iff_not, Bool.or_eq_false_iff, Bool.and_eq_false_iff] at c0
  have c0 := i0.setb (d := 5) (b := true) rfl (by rw [d0]; rfl)
  refine wp_cond_true (c0.ev rfl) ?_
  refine wsc (fun i0 k0 => ?_)
  refine asg c0 (fun i0 j0 => ?_)
  refine wpList_nil (x_then_n (k0 _ _ ?_))
  refine wp_ret ?_
  refine x_then_r ?_
  refine e_ret1 j0 rfl rfl rfl ?_
  refine ⟨?_, b0.fr⟩
  exact congrArg Ending.returned (ret_i (by have m0 := d0; (try simp at m0);  unfold lvChk; (try split) <;> first | rfl | omega))
set_option maxRecDepth 100000 in
set_option maxHeartbeats 1000000 in
theorem rletter_calls (w0 : World) (Z : Nat → Prop) (hZ : ∀ k, Z k → k < w0.heap.size) (c : Nat)  :
    Calls Tryd.prog 48 [.int .u8 ((c : Nat) : Int)].toArray w0 (fun e w' => e = .returned (.bool (letN c)) ∧ Fr none_ w0 w') := by
 have b0 := s0 (M := none_) hZ zn
 refine c_enter Tryd.func48 rfl Tryd.ntmps48 rfl (fun c0 d0 => ?_)
 refine wsc (fun c0 f0 => ?_)
 refine asg d0 (fun c0 h0 => ?_)
 refine wpList_nil (x_then_n (f0 _ _ ?_))
 refine wsc (fun f0 c0 => ?_)
 refine mv h0 (fun f0 d0 => ?_)
 refine r_geq sv d0 rfl rfl rfl rfl (by decide) (fun f0 h0 => ?_)
 refine mv h0 (fun f0 d0 => ?_)
 refine l_join (fun ga gw => Reg ga 21 [(0, .int .u8 ((c : Nat) : Int)), (2, .bool false), (8, .bool ((decide (97 ≤ ((c : Nat) : Int))) && (decide (((c : Nat) : Int) ≤ 122)))), (1000000, .bool false)] ∧ St w0 Z none_ gw [] []) 3 ?_ ?_
 ·
  rcases Decidable.em (97 ≤ ((c : Nat) : Int)) with f0 | f0
  ·
   have h0 := d0.setb (d := 5) (b := true) rfl (decide_eq_true f0)
   refine r_move (st_listV_w (wt h0)) h0 rfl rfl rfl (by decide) (fun i0 j0 => ?_)
   refine r_leq (st_listV_w (wt j0)) j0 rfl rfl rfl rfl (by decide) (fun i0 h0 => ?_)
   refine r_pick_t sv h0 rfl rfl rfl rfl (by decide) (fun i0 j0 => ?_)
   refine wpList_nil ?_
   exact x_then_n ⟨(j0.sub (rc rfl (rc rfl (rc (rb rfl (by (simp only [decide_eq_true f0, if_pos f0, bl]; done))) (rc rfl rnl))))), b0⟩
  ·
   have j0 := d0.setb (d := 5) (b := false) rfl (decide_eq_false f0)
   refine sps j0 (wff j0) (fun d0 i0 => ?_)
   refine sps i0 (wff i0) (fun d0 j0 => ?_)
   refine r_pick_f sv j0 rfl rfl rfl rfl (by decide) (fun d0 i0 => ?_)
   refine wpList_nil ?_
   exact x_then_n ⟨(i0.sub (rc rfl (rc rfl (rc (rb rfl (by (simp only [decide_eq_false f0, if_neg f0, bl]; done))) (rc rfl rnl))))), b0⟩
 rintro i0 f0 ⟨b0, d0⟩
 refine mv b0 (fun f0 i0 => ?_)
 refine l_join (fun ga gw => Reg ga 21 [(0, .int .u8 ((c : Nat) : Int)), (2, .bool false), (16, .bool (((decide (97 ≤ ((c : Nat) : Int))) && (decide (((c : Nat) : Int) ≤ 122))) || ((decide (65 ≤ ((c : Nat) : Int))) && (decide (((c : Nat) : Int) ≤ 90))))), (1000000, .bool false)] ∧ St w0 Z none_ gw [] []) 7 ?_ ?_
 ·
  rcases Bool.eq_false_or_eq_true (((decide (97 ≤ ((c : Nat) : Int))) && (decide (((c : Nat) : Int) ≤ 122)))) with f0 | f0
  ·
   have b0 := and_tl f0
   have j0 := of_decide_eq_true b0
   have j0 := and_tr f0
   have b0 := of_decide_eq_true j0
   have b0 := i0.setb (d := 9) (b := true) rfl f0
   refine sps b0 (wff b0) (fun j0 h0 => ?_)
   refine sps h0 (wff h0) (fun j0 b0 => ?_)
   refine sps b0 (wff b0) (fun j0 h0 => ?_)
   refine sps h0 (wu h0) (fun j0 b0 => ?_)
   refine sps b0 (wu b0) (fun j0 h0 => ?_)
   refine sps h0 (wff h0) (fun j0 b0 => ?_)
   refine r_pick_t sv b0 rfl rfl rfl rfl (by decide) (fun j0 h0 => ?_)
   refine wpList_nil ?_
   exact x_then_n ⟨(h0.sub (rc rfl (rc rfl (rc (rb rfl (by (simp only [f0, bl]; done))) (rc rfl rnl))))), d0⟩
  ·
   have h0 := f0
   try simp only [Bool.or_eq_true, Bool.and_eq_true, Bool.not_eq_true', Bool.not_eq_false', decide_eq_true_eq, decide_eq_false_iff_not, Bool.or_eq_false_iff, Bool.and_eq_false_iff] at h0
   have h0 := i0.setb (d := 9) (b := false) rfl f0
   refine r_move (st_listV_w (wt h0)) h0 rfl rfl rfl (by decide) (fun i0 j0 => ?_)
   refine r_geq (st_listV_w (wt j0)) j0 rfl rfl rfl rfl (by decide) (fun i0 h0 => ?_)
   refine r_move (st_listV_w (wt h0)) h0 rfl rfl rfl (by decide) (fun i0 j0 => ?_)
   rcases Decidable.em (65 ≤ ((c : Nat) : Int)) with i0 | i0
   ·
    have h0 := j0.setb (d := 12) (b := true) rfl (decide_eq_true i0)
    refine r_move (st_listV_w (wt h0)) h0 rfl rfl rfl (by decide) (fun b0 k0 => ?_)
    refine r_leq (st_listV_w (wt k0)) k0 rfl rfl rfl rfl (by decide) (fun b0 h0 => ?_)
    refine r_pick_t (st_listV_w (wt h0)) h0 rfl rfl rfl rfl (by decide) (fun b0 k0 => ?_)
    refine r_pick_f sv k0 rfl rfl rfl rfl (by decide) (fun b0 h0 => ?_)
    refine wpList_nil ?_
    exact x_then_n ⟨(h0.sub (rc rfl (rc rfl (rc (rb rfl (by (simp only [f0, decide_eq_true i0, if_pos i0, bl]; done))) (rc rfl rnl))))), d0⟩
   ·
    have h0 := j0.setb (d := 12) (b := false) rfl (decide_eq_false i0)
    refine sps h0 (wff h0) (fun j0 b0 => ?_)
    refine sps b0 (wff b0) (fun j0 h0 => ?_)
    refine r_pick_f (st_listV_w (wt h0)) h0 rfl rfl rfl rfl (by decide) (fun j0 b0 => ?_)
    refine r_pick_f sv b0 rfl rfl rfl rfl (by decide) (fun j0 h0 => ?_)
    refine wpList_nil ?_
    exact x_then_n ⟨(h0.sub (rc rfl (rc rfl (rc (rb rfl (by (simp only [f0, decide_eq_false i0, if_neg i0, bl]; done))) (rc rfl rnl))))), d0⟩
 rintro h0 i0 ⟨f0, d0⟩
 refine mv f0 (fun i0 h0 => ?_)
 refine l_join (fun ga gw => Reg ga 21 [(2, .bool false), (20, .bool ((((decide (97 ≤ ((c : Nat) : Int))) && (decide (((c : Nat) : Int) ≤ 122))) || ((decide (65 ≤ ((c : Nat) : Int))) && (decide (((c : Nat) : Int) ≤ 90)))) || (decide (((c : Nat) : Int) = 95)))), (1000000, .bool false)] ∧ St w0 Z none_ gw [] []) 3 ?_ ?_
 ·
  rcases Bool.eq_false_or_eq_true ((((decide (97 ≤ ((c : Nat) : Int))) && (decide (((c : Nat) : Int) ≤ 122))) || ((decide (65 ≤ ((c : Nat) : Int))) && (decide (((c : Nat) : Int) ≤ 90))))) with i0 | i0
  ·
   have f0 := i0
   try simp only [Bool.or_eq_true, Bool.and_eq_true, Bool.not_eq_true', Bool.not_eq_false', decide_eq_true_eq, decide_eq_false_iff_not, Bool.or_eq_false_iff, Bool.and_eq_false_iff] at f0
   have f0 := h0.setb (d := 17) (b := true) rfl i0
   refine sps f0 (wff f0) (fun j0 b0 => ?_)
   refine sps b0 (wff b0) (fun j0 f0 => ?_)
   refine r_pick_t sv f0 rfl rfl rfl rfl (by decide) (fun j0 b0 => ?_)
   refine wpList_nil ?_
   exact x_then_n ⟨(b0.sub (rc rfl (rc (rb rfl (by (simp only [i0, bl]; done))) (rc rfl rnl)))), d0⟩
  ·
   have b0 := or_fl i0
   have j0 := b0
   try simp only [Bool.or_eq_true, Bool.and_eq_true, Bool.not_eq_true', Bool.not_eq_false', decide_eq_true_eq, decide_eq_false_iff_not, Bool.or_eq_false_iff, Bool.and_eq_false_iff] at j0
   have j0 := or_fr i0
   have b0 := j0
   try simp only [Bool.or_eq_true, Bool.and_eq_true, Bool.not_eq_true', Bool.not_eq_false', decide_eq_true_eq, decide_eq_false_iff_not, Bool.or_eq_false_iff, Bool.and_eq_false_iff] at b0
   have b0 := h0.setb (d := 17) (b := false) rfl i0
   refine r_move (st_listV_w (wt b0)) b0 rfl rfl rfl (by decide) (fun h0 j0 => ?_)
   refine r_eql (st_listV_w (wt j0)) j0 rfl rfl rfl rfl (by decide) (fun h0 b0 => ?_)
   refine r_pick_f sv b0 rfl rfl rfl rfl (by decide) (fun h0 j0 => ?_)
   refine wpList_nil ?_
   exact x_then_n ⟨(j0.sub (rc rfl (rc (rb rfl (by (simp only [i0, bl]; done))) (rc rfl rnl)))), d0⟩
 rintro j0 i0 ⟨d0, h0⟩
 refine asg d0 (fun i0 j0 => ?_)
 refine wpList_nil (x_then_n (c0 _ _ ?_))
 refine wp_ret ?_
 refine e_ret1 j0 rfl rfl rfl ?_
 refine ⟨?_, h0.fr⟩
 exact congrArg Ending.returned (ret_b (by rfl))
set_option maxRecDepth 100000 in
set_option maxHeartbeats 1000000 in
theorem rname_calls (w0 : World) (Z : Nat → Prop) (hZ : ∀ k, Z k → k < w0.heap.size) (s : ByteArray) (hs : s.size ≤ 9223372036854775807 := by first | assumption | omega | (simp; done) | (simp; omega)) :
    Calls Tryd.prog 28 [.string s].toArray w0 (fun e w' => e = .returned (.bool (nameOk s)) ∧ Fr none_ w0 w') := by
 have b0 := s0 (M := none_) hZ zn
 refine c_enter Tryd.func28 rfl Tryd.ntmps28 rfl (fun c0 d0 => ?_)
 refine wsc (fun c0 f0 => ?_)
 refine asg d0 (fun c0 h0 => ?_)
 refine wpList_nil (x_then_n (f0 _ _ ?_))
 refine wp_seq_k (fun f0 c0 => ?_)
 refine wsc (fun f0 d0 => ?_)
 refine mv h0 (fun f0 i0 => ?_)
 refine r_lenS sv i0 rfl rfl rfl rfl Tryd.underlying9 (by decide) (fun f0 h0 => ?_)
 refine r_lss sv h0 rfl rfl rfl rfl (by decide) (fun f0 i0 => ?_)
 refine mv i0 (fun f0 h0 => ?_)
 refine l_join (fun ga gw => Reg ga 41 [(0, .string s), (2, .bool false), (11, .bool ((decide (((s.size : Nat) : Int) < 1)) || (decide (16 < ((s.size : Nat) : Int))))), (1000000, .bool false)] ∧ St w0 Z none_ gw [] []) 4 ?_ ?_
 ·
  rcases Decidable.em (((s.size : Nat) : Int) < 1) with f0 | f0
  ·
   have i0 := h0.setb (d := 7) (b := true) rfl (decide_eq_true f0)
   refine sps i0 (wff i0) (fun j0 k0 => ?_)
   refine sps k0 (wff k0) (fun j0 i0 => ?_)
   refine sps i0 (wff i0) (fun j0 k0 => ?_)
   refine r_pick_t sv k0 rfl rfl rfl rfl (by decide) (fun j0 i0 => ?_)
   refine wpList_nil ?_
   exact x_then_n ⟨(i0.sub (rc rfl (rc rfl (rc (rb rfl (by (simp only [decide_eq_true f0, if_pos f0, bl]; done))) (rc rfl rnl))))), b0⟩
  ·
   have i0 := h0.setb (d := 7) (b := false) rfl (decide_eq_false f0)
   refine r_move (st_listV_w (wt i0)) i0 rfl rfl rfl (by decide) (fun h0 j0 => ?_)
   refine r_lenS (st_listV_w (wt j0)) j0 rfl rfl rfl rfl Tryd.underlying9 (by decide) (fun h0 i0 => ?_)
   refine r_gtr (st_listV_w (wt i0)) i0 rfl rfl rfl rfl (by decide) (fun h0 j0 => ?_)
   refine r_pick_f sv j0 rfl rfl rfl rfl (by decide) (fun h0 i0 => ?_)
   refine wpList_nil ?_
   exact x_then_n ⟨(i0.sub (rc rfl (rc rfl (rc (rb rfl (by (simp only [decide_eq_false f0, if_neg f0, bl]; done))) (rc rfl rnl))))), b0⟩
 rintro i0 f0 ⟨b0, h0⟩
 refine mv b0 (fun f0 i0 => ?_)
 refine l_join (fun ga gw => Reg ga 41 [(0, .string s), (2, .bool false), (17, .bool (((decide (((s.size : Nat) : Int) < 1)) || (decide (16 < ((s.size : Nat) : Int)))) || (!(letN (byteAt s 0))))), (1000000, .bool false)] ∧ St w0 Z none_ gw [] []) 5 ?_ ?_
 ·
  rcases Bool.eq_false_or_eq_true (((decide (((s.size : Nat) : Int) < 1)) || (decide (16 < ((s.size : Nat) : Int))))) with f0 | f0
  ·
   have b0 := f0
   try simp only [Bool.or_eq_true, Bool.and_eq_true, Bool.not_eq_true', Bool.not_eq_false', decide_eq_true_eq, decide_eq_false_iff_not, Bool.or_eq_false_iff, Bool.and_eq_false_iff] at b0
   have b0 := i0.setb (d := 12) (b := true) rfl f0
   refine sps b0 (wff b0) (fun j0 k0 => ?_)
   refine sps k0 (wff k0) (fun j0 b0 => ?_)
   refine sps b0 (wff b0) (fun j0 k0 => ?_)
   refine sps k0 (wff k0) (fun j0 b0 => ?_)
   refine r_pick_t sv b0 rfl rfl rfl rfl (by decide) (fun j0 k0 => ?_)
   refine wpList_nil ?_
   exact x_then_n ⟨(k0.sub (rc rfl (rc rfl (rc (rb rfl (by (simp only [f0, bl]; done))) (rc rfl rnl))))), h0⟩
  ·
   have k0 := or_fl f0
   have j0 := of_decide_eq_false k0
   have j0 := or_fr f0
   have k0 := of_decide_eq_false j0
   have k0 := i0.setb (d := 12) (b := false) rfl f0
   refine r_move (st_listV_w (wt k0)) k0 rfl rfl rfl (by decide) (fun i0 j0 => ?_)
   refine r_byte (i := 0) (st_listV_w (wt j0)) j0 rfl rfl rfl rfl Tryd.underlying9 (by omega) (by omega) (by decide) (fun i0 k0 => ?_)
   have i0 := h0.nf
   refine k_call (xs := [.tmp 14]) (st_list_w (wt k0)) k0 rfl rfl rfl (by decide) ok48 (rletter_calls _ _ i0.il (byteAt s 0)) ?_
   rintro k0 h0 ⟨rfl, j0⟩
   have h0 := i0.below j0.below
   refine ⟨_, rfl, fun j0 i0 => ?_⟩
   refine r_not (st_listV_w (wt i0)) i0 rfl rfl rfl (by decide) (fun j0 k0 => ?_)
   refine r_pick_f sv k0 rfl rfl rfl rfl (by decide) (fun j0 i0 => ?_)
   refine wpList_nil ?_
   exact x_then_n ⟨(i0.sub (rc rfl (rc rfl (rc (rb rfl (by (simp only [f0, bl]; done))) (rc rfl rnl))))), h0⟩
 rintro i0 h0 ⟨f0, j0⟩
 refine wpList_nil (x_then_n (d0 _ _ ?_))
 rcases Bool.eq_false_or_eq_true ((((decide (((s.size : Nat) : Int) < 1)) || (decide (16 < ((s.size : Nat) : Int)))) || (!(letN (byteAt s 0))))) with d0 | d0
 ·
  have h0 := d0
  try simp only [Bool.or_eq_true, Bool.and_eq_true, Bool.not_eq_true', Bool.not_eq_false', decide_eq_true_eq, decide_eq_false_iff_not, Bool.or_eq_false_iff, Bool.and_eq_false_iff] at h0
  have i0 := f0.setb (d := 17) (b := true) rfl d0
  refine wp_cond_true (i0.ev rfl) ?_
  refine wsc (fun k0 b0 => ?_)
  refine asg i0 (fun k0 m0 => ?_)
  refine wpList_nil (x_then_n (b0 _ _ ?_))
  refine wp_ret ?_
  refine x_then_r ?_
  refine e_ret1 m0 rfl rfl rfl ?_
  refine ⟨?_, j0.fr⟩
  exact congrArg Ending.returned (ret_b (by exact (rname_bad0 (by rcases h0 with h | h; exact .inl (by omega); exact .inr h)).symm))
 ·
  have h0 := or_fl d0
  have m0 := or_fl h0
  have b0 := of_decide_eq_false m0
  have b0 := or_fr h0
  have h0 := of_decide_eq_false b0
  have h0 := or_fr d0
  have b0 := not_f h0
  have b0 := f0.setb (d := 17) (b := false) rfl d0
  refine wp_cond_false (b0.ev rfl) ?_
  refine wp_skip ?_
  refine x_then_n (c0 _ _ ?_)
  refine wp_seq_k (fun c0 d0 => ?_)
  refine wsc (fun c0 f0 => ?_)
  refine asg b0 (fun c0 h0 => ?_)
  refine wpList_nil (x_then_n (f0 _ _ ?_))
  refine wp_block ?_
  refine wp_loop_ghost (fun gn ga gw => ∃ k : Nat, (Reg ga 41 [(0, .string s), (1000000, .bool false), (3, .int .i64 ((k : Nat) : Int))]) ∧ (St w0 Z none_ gw [] []) ∧ (k ≤ s.size) ∧ (nameTo s k) ∧ (s.size - k) = gn) _ ⟨0, (h0.sub (rc rfl (rc rfl (rc rfl rnl)))), j0, by omega, nameTo_zero s, rfl⟩ ?_
  rintro h0 j0 f0 ⟨k, c0, b0, hk, hi, m0⟩
  refine wp_seq_k (fun m0 f0 => ?_)
  refine wsc (fun m0 j0 => ?_)
  refine mv c0 (fun m0 h0 => ?_)
  refine mv h0 (fun m0 c0 => ?_)
  refine r_lenS sv c0 rfl rfl rfl rfl Tryd.underlying9 (by decide) (fun m0 h0 => ?_)
  refine r_lss sv h0 rfl rfl rfl rfl (by decide) (fun m0 c0 => ?_)
  refine wpList_nil (x_then_n (j0 _ _ ?_))
  rcases Decidable.em (((k : Nat) : Int) < ((s.size : Nat) : Int)) with j0 | j0
  ·
   have m0 := c0.setb (d := 21) (b := true) rfl (decide_eq_true j0)
   refine wp_cond_true (m0.ev rfl) ?_
   refine wp_skip ?_
   refine x_then_n (f0 _ _ ?_)
   refine wp_seq_k (fun f0 h0 => ?_)
   refine wp_block ?_
   refine wsc (fun f0 k0 => ?_)
   refine mv m0 (fun f0 i0 => ?_)
   refine mv i0 (fun f0 m0 => ?_)
   refine r_byte (i := k) sv m0 rfl rfl rfl rfl Tryd.underlying9 (by omega) (by omega) (by decide) (fun f0 i0 => ?_)
   have f0 := b0.nf
   refine k_call (xs := [.tmp 26]) se i0 rfl rfl rfl (by decide) ok48 (rletter_calls _ _ f0.il (byteAt s k)) ?_
   rintro i0 m0 ⟨rfl, n0⟩
   have m0 := f0.below n0.below
   refine ⟨_, rfl, fun n0 f0 => ?_⟩
   refine r_not sv f0 rfl rfl rfl (by decide) (fun n0 i0 => ?_)
   refine mv i0 (fun n0 f0 => ?_)
   refine l_join (fun ga gw => Reg ga 41 [(0, .string s), (3, .int .i64 ((k : Nat) : Int)), (40, .bool ((!(letN (byteAt s k))) && ((decide (((byteAt s k : Nat) : Int) < 48)) || (decide (57 < ((byteAt s k : Nat) : Int)))))), (1000000, .bool false)] ∧ St w0 Z none_ gw [] []) 11 ?_ ?_
   ·
    rcases Bool.eq_false_or_eq_true (letN (byteAt s k)) with n0 | n0
    ·
     have i0 := f0.setb (d := 29) (b := false) rfl (by rw [n0]; rfl)
     refine sps i0 (wff i0) (fun o0 p0 => ?_)
     refine sps p0 (wff p0) (fun o0 i0 => ?_)
     refine sps i0 (wff i0) (fun o0 p0 => ?_)
     refine sps p0 (wff p0) (fun o0 i0 => ?_)
     refine sps i0 (wff i0) (fun o0 p0 => ?_)
     refine sps p0 (wu p0) (fun o0 i0 => ?_)
     refine sps i0 (wu i0) (fun o0 p0 => ?_)
     refine sps p0 (wu p0) (fun o0 i0 => ?_)
     refine sps i0 (wu i0) (fun o0 p0 => ?_)
     refine sps p0 (wff p0) (fun o0 i0 => ?_)
     refine r_pick_f sv i0 rfl rfl rfl rfl (by decide) (fun o0 p0 => ?_)
     refine wpList_nil ?_
     exact x_then_n ⟨(p0.sub (rc rfl (rc rfl (rc (rb rfl (by (simp only [n0, bl]; done))) (rc rfl rnl))))), m0⟩
    ·
     have p0 := f0.setb (d := 29) (b := true) rfl (by rw [n0]; rfl)
     refine r_move (st_listV_w (wt p0)) p0 rfl rfl rfl (by decide) (fun f0 o0 => ?_)
     refine r_move (st_listV_w (wt o0)) o0 rfl rfl rfl (by decide) (fun f0 p0 => ?_)
     refine r_byte (i := k) (st_listV_w (wt p0)) p0 rfl rfl rfl rfl Tryd.underlying9 (by omega) (by omega) (by decide) (fun f0 o0 => ?_)
     refine r_lss (st_listV_w (wt o0)) o0 rfl rfl rfl rfl (by decide) (fun f0 p0 => ?_)
     refine r_move (st_listV_w (wt p0)) p0 rfl rfl rfl (by decide) (fun f0 o0 => ?_)
     rcases Decidable.em (((byteAt s k : Nat) : Int) < 48) with f0 | f0
     ·
      have p0 := o0.setb (d := 34) (b := true) rfl (decide_eq_true f0)
      refine sps p0 (wff p0) (fun i0 q0 => ?_)
      refine sps q0 (wff q0) (fun i0 p0 => ?_)
      refine sps p0 (wff p0) (fun i0 q0 => ?_)
      refine sps q0 (wff q0) (fun i0 p0 => ?_)
      refine r_pick_t (st_listV_w (wt p0)) p0 rfl rfl rfl rfl (by decide) (fun i0 q0 => ?_)
      refine r_pick_t sv q0 rfl rfl rfl rfl (by decide) (fun i0 p0 => ?_)
      refine wpList_nil ?_
      exact x_then_n ⟨(p0.sub (rc rfl (rc rfl (rc (rb rfl (by (simp only [n0, decide_eq_true f0, if_pos f0, bl]; done))) (rc rfl rnl))))), m0⟩
     ·
      have p0 := o0.setb (d := 34) (b := false) rfl (decide_eq_false f0)
      refine r_move (st_listV_w (wt p0)) p0 rfl rfl rfl (by decide) (fun o0 i0 => ?_)
      refine r_move (st_listV_w (wt i0)) i0 rfl rfl rfl (by decide) (fun o0 p0 => ?_)
      refine r_byte (i := k) (st_listV_w (wt p0)) p0 rfl rfl rfl rfl Tryd.underlying9 (by omega) (by omega) (by decide) (fun o0 i0 => ?_)
      refine r_gtr (st_listV_w (wt i0)) i0 rfl rfl rfl rfl (by decide) (fun o0 p0 => ?_)
      refine r_pick_f (st_listV_w (wt p0)) p0 rfl rfl rfl rfl (by decide) (fun o0 i0 => ?_)
      refine r_pick_t sv i0 rfl rfl rfl rfl (by decide) (fun o0 p0 => ?_)
      refine wpList_nil ?_
      exact x_then_n ⟨(p0.sub (rc rfl (rc rfl (rc (rb rfl (by (simp only [n0, decide_eq_false f0, if_neg f0, bl]; done))) (rc rfl rnl))))), m0⟩
   rintro p0 f0 ⟨n0, m0⟩
   refine wpList_nil (x_then_n (k0 _ _ ?_))
   rcases Bool.eq_false_or_eq_true (((!(letN (byteAt s k))) && ((decide (((byteAt s k : Nat) : Int) < 48)) || (decide (57 < ((byteAt s k : Nat) : Int)))))) with k0 | k0
   ·
    have f0 := and_tl k0
    have p0 := not_t f0
    have p0 := and_tr k0
    have f0 := p0
    try simp only [Bool.or_eq_true, Bool.and_eq_true, Bool.not_eq_true', Bool.not_eq_false', decide_eq_true_eq, decide_eq_false_iff_not, Bool.or_eq_false_iff, Bool.and_eq_false_iff] at f0
    have f0 := n0.setb (d := 40) (b := true) rfl k0
    refine wp_cond_true (f0.ev rfl) ?_
    refine wsc (fun p0 o0 => ?_)
    refine asg f0 (fun p0 i0 => ?_)
    refine wpList_nil (x_then_n (o0 _ _ ?_))
    refine wp_ret ?_
    refine x_block_r ?_
    refine x_then_r ?_
    refine x_then_r ?_
    refine x_block_r ?_
    refine x_then_r ?_
    refine e_ret1 i0 rfl rfl rfl ?_
    refine ⟨?_, m0.fr⟩
    exact congrArg Ending.returned (ret_b (by exact (rname_bad (k := k) (by omega) (by assumption) (by omega)).symm))
   ·
    have i0 := k0
    try simp only [Bool.or_eq_true, Bool.and_eq_true, Bool.not_eq_true', Bool.not_eq_false', decide_eq_true_eq, decide_eq_false_iff_not, Bool.or_eq_false_iff, Bool.and_eq_false_iff] at i0
    have o0 := n0.setb (d := 40) (b := false) rfl k0
    refine wp_cond_false (o0.ev rfl) ?_
    refine wp_skip ?_
    refine x_block_n ?_
    refine x_then_n (h0 _ _ ?_)
    refine c_region ?_
    refine mv o0 (fun h0 k0 => ?_)
    refine r_add (z := ((k + 1 : Nat) : Int)) sv k0 rfl rfl rfl rfl (by decide) (by omega) (by omega) (by omega) (fun h0 o0 => ?_)
    refine asg o0 (fun h0 k0 => ?_)
    refine wpList_nil ?_
    exact ⟨_, by omega, k + 1, (k0.sub (rc rfl (rc rfl (rc rfl rnl)))), m0, by omega, nameTo_step hi (rname_step (by assumption) (by rcases i0 with h | h; exact .inl h; exact .inr (by omega))), rfl⟩
  ·
   have k0 := c0.setb (d := 21) (b := false) rfl (decide_eq_false j0)
   refine wp_cond_false (k0.ev rfl) ?_
   refine wp_exit ?_
   refine x_then_e ?_
   refine x_then_e ?_
   refine x_block_eq ?_
   refine x_then_n (d0 _ _ ?_)
   refine wsc (fun d0 j0 => ?_)
   refine asg k0 (fun d0 c0 => ?_)
   refine wpList_nil (x_then_n (j0 _ _ ?_))
   refine wp_ret ?_
   refine e_ret1 c0 rfl rfl rfl ?_
   refine ⟨?_, b0.fr⟩
   exact congrArg Ending.returned (ret_b (by exact (rname_end hi (by omega) (by omega) (by omega)).symm))
set_option maxRecDepth 100000 in
set_option maxHeartbeats 1000000 in
theorem rplain_calls (w0 : World) (Z : Nat → Prop) (hZ : ∀ k, Z k → k < w0.heap.size) (n : Nd)  :
    Calls Tryd.prog 84 [.agg #[.int .i64 (n.K), .int .i64 (n.N), .int .i64 (n.M), .string n.S]].toArray w0 (fun e w' => e = .returned (.bool (plainB n)) ∧ Fr none_ w0 w') := by
 have b0 := s0 (M := none_) hZ zn
 refine c_enter Tryd.func84 rfl Tryd.ntmps84 rfl (fun c0 d0 => ?_)
 refine wsc (fun c0 f0 => ?_)
 refine m_box (cs := [.int .i64 (n.K), .int .i64 (n.N), .int .i64 (n.M), .string n.S]) sv d0 b0 rfl rfl rfl rfl (by decide) (fun c0 h0 i0 j0 k0 => ?_)
 refine asg j0 (fun h0 c0 => ?_)
 refine wpList_nil (x_then_n (f0 _ _ ?_))
 refine wsc (fun f0 h0 => ?_)
 refine m_field (j' := 1) sv c0 rfl rfl rfl Tryd.underlying39 rfl sz3 rfl rfl (by decide) (fun f0 j0 => ?_)
 refine m_load (i := 0) sv j0 k0 rfl rfl rfl rfl rfl Tryd.underlying3 rfl (by decide) (fun f0 c0 => ?_)
 refine r_eql sv c0 rfl rfl rfl rfl (by decide) (fun f0 j0 => ?_)
 refine mv j0 (fun f0 c0 => ?_)
 refine l_join (fun ga gw => Reg ga 16 [(1, .pointer (some ⟨i0, 0, none⟩)), (2, .bool false), (10, .bool ((decide ((n.N) = 0)) && (decide ((n.M) = 0)))), (1000000, .bool false)] ∧ St w0 Z none_ gw [.box i0 39 [.int .i64 (n.K), .int .i64 (n.N), .int .i64 (n.M), .string n.S]] []) 4 ?_ ?_
 ·
  rcases Decidable.em ((n.N) = 0) with f0 | f0
  ·
   have j0 := c0.setb (d := 6) (b := true) rfl (decide_eq_true f0)
   refine m_field (j' := 2) (st_listV_w (wt j0)) j0 rfl rfl rfl Tryd.underlying39 rfl sz3 rfl rfl (by decide) (fun d0 b0 => ?_)
   refine m_load (i := 0) (st_listV_w (wt b0)) b0 k0 rfl rfl rfl rfl rfl Tryd.underlying3 rfl (by decide) (fun d0 j0 => ?_)
   refine r_eql (st_listV_w (wt j0)) j0 rfl rfl rfl rfl (by decide) (fun d0 b0 => ?_)
   refine r_pick_t sv b0 rfl rfl rfl rfl (by decide) (fun d0 j0 => ?_)
   refine wpList_nil ?_
   exact x_then_n ⟨(j0.sub (rc rfl (rc rfl (rc (rb rfl (by (simp only [decide_eq_true f0, if_pos f0, bl]; done))) (rc rfl rnl))))), k0⟩
  ·
   have j0 := c0.setb (d := 6) (b := false) rfl (decide_eq_false f0)
   refine sps j0 (wff j0) (fun c0 d0 => ?_)
   refine sps d0 (wff d0) (fun c0 j0 => ?_)
   refine sps j0 (wff j0) (fun c0 d0 => ?_)
   refine r_pick_f sv d0 rfl rfl rfl rfl (by decide) (fun c0 j0 => ?_)
   refine wpList_nil ?_
   exact x_then_n ⟨(j0.sub (rc rfl (rc rfl (rc (rb rfl (by (simp only [decide_eq_false f0, if_neg f0, bl]; done))) (rc rfl rnl))))), k0⟩
 rintro j0 f0 ⟨k0, c0⟩
 refine mv k0 (fun f0 j0 => ?_)
 refine l_join (fun ga gw => Reg ga 16 [(2, .bool false), (15, .bool (((decide ((n.N) = 0)) && (decide ((n.M) = 0))) && (decide (n.S = (⟨#[]⟩ : ByteArray))))), (1000000, .bool false)] ∧ St w0 Z none_ gw [.box i0 39 [.int .i64 (n.K), .int .i64 (n.N), .int .i64 (n.M), .string n.S]] []) 4 ?_ ?_
 ·
  rcases Bool.eq_false_or_eq_true (((decide ((n.N) = 0)) && (decide ((n.M) = 0)))) with i0 | i0
  ·
   have f0 := and_tl i0
   have k0 := of_decide_eq_true f0
   have k0 := and_tr i0
   have f0 := of_decide_eq_true k0
   have f0 := j0.setb (d := 11) (b := true) rfl i0
   refine m_field (j' := 3) (st_listV_w (wt f0)) f0 rfl rfl rfl Tryd.underlying39 rfl sz9 rfl rfl (by decide) (fun k0 d0 => ?_)
   refine m_load (i := 0) (st_listV_w (wt d0)) d0 c0 rfl rfl rfl rfl rfl Tryd.underlying9 rfl (by decide) (fun k0 f0 => ?_)
   refine r_eqlS (st_listV_w (wt f0)) f0 rfl rfl rfl rfl (by decide) (fun k0 d0 => ?_)
   refine r_pick_t sv d0 rfl rfl rfl rfl (by decide) (fun k0 f0 => ?_)
   refine wpList_nil ?_
   exact x_then_n ⟨(f0.sub (rc rfl (rc (rb rfl (by (simp only [i0, bl]; done))) (rc rfl rnl)))), c0⟩
  ·
   have f0 := i0
   try simp only [Bool.or_eq_true, Bool.and_eq_true, Bool.not_eq_true', Bool.not_eq_false', decide_eq_true_eq, decide_eq_false_iff_not, Bool.or_eq_false_iff, Bool.and_eq_false_iff] at f0
   have f0 := j0.setb (d := 11) (b := false) rfl i0
   refine sps f0 (wff f0) (fun j0 k0 => ?_)
   refine sps k0 (wff k0) (fun j0 f0 => ?_)
   refine sps f0 (wff f0) (fun j0 k0 => ?_)
   refine r_pick_f sv k0 rfl rfl rfl rfl (by decide) (fun j0 f0 => ?_)
   refine wpList_nil ?_
   exact x_then_n ⟨(f0.sub (rc rfl (rc (rb rfl (by (simp only [i0, bl]; done))) (rc rfl rnl)))), c0⟩
 rintro f0 i0 ⟨c0, j0⟩
 refine asg c0 (fun i0 f0 => ?_)
 refine wpList_nil (x_then_n (h0 _ _ ?_))
 refine wp_ret ?_
 refine e_ret1 f0 rfl rfl rfl ?_
 refine ⟨?_, j0.fr⟩
 exact congrArg Ending.returned (ret_b (by rfl))
end Go.Proofs.YtcfponnkfhkbdaaDoor
