import Derived.Test.YtcfponnkfhkbdaaDoorYwc
/- Contracts of functions, one theorem each: what the call returns, and that nothing old is changed. Printed by gen.py. -/
namespace Go.Proofs.YtcfponnkfhkbdaaDoor
open Go Go.RowKit
set_option linter.unusedSimpArgs false
set_option linter.unusedVariables false
set_option maxRecDepth 100000 in
set_option maxHeartbeats 1000000 in
theorem onNat_calls (w0 : World) (Z : Nat → Prop) (hZ : ∀ k, Z k → k < w0.heap.size) (xg : Nat) (xe : Int) (xaA : Option Addr) (xac : Nat) (xa : List Nd) (xtA : Option Addr) (xtc : Nat) (xt : List Nd) (xuA : Option Addr) (xuc : Nat) (xu : List Nd) (hShp : Shapes w0 Z) (hx : (Res.box xg 75 [.int .i64 (xe), .slice xaA xa.length xac, .slice xtA xt.length xtc, .slice xuA xu.length xuc, .slice none 0 0]).holds w0) (hxz : ¬ Z xg) (hxa : (dRow 4 xaA xa.length xac (encNs xa)).φ w0 Z) (hxt : (dRow 4 xtA xt.length xtc (encNs xt)).φ w0 Z) (hxu : (dRow 4 xuA xu.length xuc (encNs xu)).φ w0 Z) (hst : sml xt := by first | assumption | omega | (simp; done) | (simp; omega)) (hsu : sml xu := by first | assumption | omega | (simp; done) | (simp; omega)) (hct : chk xt = 0 := by first | assumption | omega | (simp; done) | (simp; omega)) (hcu : chk xu = 0 := by first | assumption | omega | (simp; done) | (simp; omega)) (hla : xa.length ≤ 1000 := by first | assumption | omega | (simp; done) | (simp; omega)) (hlt : xt.length ≤ 5000 := by first | assumption | omega | (simp; done) | (simp; omega)) (hlu : xu.length ≤ 5000 := by first | assumption | omega | (simp; done) | (simp; omega)) (ht0 : 0 < xt.length := by first | assumption | omega | (simp; done) | (simp; omega)) (hu0 : 0 < xu.length := by first | assumption | omega | (simp; done) | (simp; omega)) :
    Calls Tryd.prog 75 [.pointer (some ⟨xg, 0, none⟩)].toArray w0 (fun e w' => ∃ (rA0 : Option Addr) (rc0 : Nat) (rL0 : List Nd), e = .returned (.slice rA0 rL0.length rc0) ∧ Fr (· = xg) w0 w' ∧ (Res.box xg 75 [.int .i64 ((ntE xe xt xu)), .slice xaA xa.length xac, .slice xtA xt.length xtc, .slice xuA xu.length xuc, .slice none 0 0]).holds w' ∧ (dRow 4 rA0 rL0.length rc0 (encNs rL0)).φ w' (nxt Z w0 w') ∧ rL0 = ntL xe xa xt xu) := by
 have b0 := sM hx hxz hZ (zc (d := dShapes) hShp (zc hxa (zc hxt (zc hxu zn))))
 refine c_enter Tryd.func75 rfl Tryd.ntmps75 rfl (fun c0 d0 => ?_)
 refine wsc (fun c0 f0 => ?_)
 refine asg d0 (fun c0 h0 => ?_)
 refine wpList_nil (x_then_n (f0 _ _ ?_))
 refine wsc (fun f0 c0 => ?_)
 refine asg h0 (fun f0 d0 => ?_)
 refine wpList_nil (x_then_n (c0 _ _ ?_))
 refine wp_seq_k (fun c0 f0 => ?_)
 refine wp_seq_k (fun c0 h0 => ?_)
 obtain ⟨c0, i0, j0⟩ := b0.agree
 refine d_reg3 (n := 14) j0 4 (pB 0 1 pn) (pan_then (pan_then pan_body)) (fun i0 c0 b0 k0 m0 n0 => ?_)
 refine dtM 0 c0 d0 n0 (fun k0 i0 => ?_)
 refine dtM 1 c0 i0 n0 (fun k0 d0 => ?_)
 refine dtN 2 c0 d0 n0 (fun k0 i0 => ?_)
 refine dtF 3 2 c0 i0 n0 Tryd.underlying75 sz22 (fun k0 d0 => ?_)
 refine dtC 4 1 c0 d0 n0 Tryd.underlying22 (fun k0 i0 => ?_)
 refine dtM 6 c0 i0 n0 (fun k0 d0 => ?_)
 refine dtM 7 c0 d0 n0 (fun k0 i0 => ?_)
 refine dtN 8 c0 i0 n0 (fun k0 d0 => ?_)
 refine dtF 9 3 c0 d0 n0 Tryd.underlying75 sz22 (fun k0 i0 => ?_)
 refine dtC 10 2 c0 i0 n0 Tryd.underlying22 (fun k0 d0 => ?_)
 refine d1 5 ?_
 have k0 := m0.nf
 refine k_callV (xs := [.tmp 10]) (st_op rfl (want_n rfl)) d0 rfl rfl rfl rfl (by decide) ok104 (enum_calls _ _ k0.il _ _ _ (k0.g 2)) ?_
 rintro d0 m0 ⟨rfl, i0⟩
 have m0 := k0.below i0.below
 refine ⟨_, rfl, fun i0 k0 => ?_⟩
 have i0 := sWI m0 4 (pB 0 1 pn)
 refine ⟨i0, ?_⟩
 refine d1 11 ?_
 have i0 := m0.nf
 refine k_callV (xs := [.tmp 16]) (st_op rfl (want_n rfl)) k0 rfl rfl rfl rfl (by decide) ok104 (enum_calls _ _ i0.il _ _ _ (i0.g 3)) ?_
 rintro k0 m0 ⟨rfl, d0⟩
 have m0 := i0.below d0.below
 refine ⟨_, rfl, fun d0 i0 => ?_⟩
 have d0 := sWI m0 4 (pB 0 1 pn)
 refine ⟨d0, ?_⟩
 refine dtA 12 c0 i0 d0 (fun k0 n0 => ?_)
 refine dtA 13 c0 n0 d0 (fun k0 i0 => ?_)
 refine wpAnyH_done (by kernel_rfl) (b0 _ _ ?_) _
 refine x_then_n (h0 _ _ ?_)
 refine wp_block ?_
 refine wsc (fun h0 b0 => ?_)
 refine mv i0 (fun h0 k0 => ?_)
 refine mv k0 (fun h0 i0 => ?_)
 refine r_mul (z := ((((numK xt)) * ((numK xu))))) sv i0 rfl rfl rfl rfl (by decide) rfl (numK_mul _ _).1 (numK_mul _ _).2 (fun h0 k0 => ?_)
 refine r_eql sv k0 rfl rfl rfl rfl (by decide) (fun h0 i0 => ?_)
 refine asg i0 (fun h0 k0 => ?_)
 refine wpList_nil (x_then_n (b0 _ _ ?_))
 rcases Decidable.em (((((numK xt)) * ((numK xu)))) = 0) with b0 | b0
 ·
  have h0 := k0.setb (d := 18) (b := true) rfl (decide_eq_true b0)
  refine wp_cond_true (h0.ev rfl) ?_
  refine wsc (fun i0 n0 => ?_)
  refine mv h0 (fun i0 d0 => ?_)
  refine r_nilCheck sv d0 rfl rfl rfl (by decide) (fun i0 h0 => ?_)
  refine m_field (j' := 0) sv h0 rfl rfl rfl Tryd.underlying75 rfl sz59 rfl rfl (by decide) (fun i0 d0 => ?_)
  have i0 := m0.nf
  refine k_call (xs := [.tmp 25]) se d0 rfl rfl rfl (by decide) ok64 (stuck_calls _ _ i0.il _ _ _ _ (i0.z 0) (imm_box (i := 0) rfl)) ?_
  rintro d0 h0 ⟨c0, j0, rfl, o0, p0, q0⟩
  have h0 := i0.callM (i := 0) rfl o0 p0
  have p0 := i0.dM 0 h0 q0
  refine ⟨_, rfl, fun h0 q0 => ?_⟩
  refine asg q0 (fun h0 i0 => ?_)
  refine wpList_nil (x_then_n (n0 _ _ ?_))
  refine wp_ret ?_
  refine x_block_r ?_
  refine x_then_r ?_
  refine e_ret1 i0 rfl rfl rfl ?_
  refine ⟨c0, j0, ([] : List Nd), ?_, p0.fr, (by rw [show (ntE xe xt xu : Int) = ((if (xe) = 0 then 120 else (xe))) by (unfold ntE; rw [if_pos b0])]; exact p0.res (i := 0) rfl), p0.rx 5, (by unfold ntL; rw [if_pos b0])⟩
  exact congrArg Ending.returned (ret_s (by first | rfl | (simp; done)))
 ·
  have p0 := k0.setb (d := 18) (b := false) rfl (decide_eq_false b0)
  refine wp_cond_false (p0.ev rfl) ?_
  refine wsc (fun k0 j0 => ?_)
  refine mv p0 (fun k0 c0 => ?_)
  refine mv c0 (fun k0 p0 => ?_)
  refine r_neq sv p0 rfl rfl rfl rfl (by decide) (fun k0 c0 => ?_)
  refine asg c0 (fun k0 p0 => ?_)
  refine wpList_nil (x_then_n (j0 _ _ ?_))
  rcases Decidable.em (((numK xt)) = ((numK xu))) with j0 | j0
  ·
   have k0 := p0.setb (d := 27) (b := false) rfl (by rw [(decide_eq_true j0)]; rfl)
   refine wp_cond_false (k0.ev rfl) ?_
   refine wsc (fun c0 i0 => ?_)
   refine mv k0 (fun c0 n0 => ?_)
   refine r_eql sv n0 rfl rfl rfl rfl (by decide) (fun c0 k0 => ?_)
   refine asg k0 (fun c0 n0 => ?_)
   refine wpList_nil (x_then_n (i0 _ _ ?_))
   rcases Decidable.em (((numK xt)) = 1) with i0 | i0
   ·
    have c0 := n0.setb (d := 33) (b := true) rfl (decide_eq_true i0)
    refine wp_cond_true (c0.ev rfl) ?_
    refine wsc (fun k0 h0 => ?_)
    refine mv c0 (fun k0 q0 => ?_)
    have k0 := m0.nf
    refine k_call (xs := [.tmp 36]) se q0 rfl rfl rfl (by decide) ok52 (sunit_calls _ _ k0.il _ _ _ _ _ _ _ _ _ _ _ (k0.z 0) (imm_box (i := 0) rfl) (k0.g 1) (k0.g 2) (k0.g 3)) ?_
    rintro q0 c0 ⟨o0, d0, s0, rfl, t0, u0, v0, x0⟩
    have x0 := k0.callM (i := 0) rfl t0 u0
    have u0 := k0.dM 0 x0 v0
    refine ⟨_, rfl, fun x0 v0 => ?_⟩
    refine asg v0 (fun x0 k0 => ?_)
    refine wpList_nil (x_then_n (h0 _ _ ?_))
    refine wp_ret ?_
    refine x_block_r ?_
    refine x_then_r ?_
    refine e_ret1 k0 rfl rfl rfl ?_
    refine ⟨o0, d0, s0, ?_, u0.fr, (by rw [show (ntE xe xt xu : Int) = ((xe)) by (unfold ntE; rw [if_neg b0])]; exact u0.res (i := 0) rfl), u0.rx 5, (by unfold ntL; rw [if_neg b0, if_neg (fun q => q j0), if_pos i0]; assumption)⟩
    exact congrArg Ending.returned (ret_s (by first | rfl | (simp; done)))
   ·
    obtain ⟨hkt, hku⟩ := numK_two b0 j0 i0
    have hmt := many_12 hkt
    have hmu := many_12 hku
    have u0 := n0.setb (d := 33) (b := false) rfl (decide_eq_false i0)
    refine wp_cond_false (u0.ev rfl) ?_
    refine wp_skip ?_
    refine x_block_n ?_
    refine x_then_n (f0 _ _ ?_)
    refine wp_seq_k (fun f0 n0 => ?_)
    obtain ⟨f0, s0, d0⟩ := m0.agree
    refine d_reg3 (n := 29) d0 5 (pB 0 1 pn) (pan_then pan_body) (fun s0 f0 o0 k0 h0 x0 => ?_)
    refine dtM 0 f0 u0 x0 (fun k0 s0 => ?_)
    refine dtN 1 f0 s0 x0 (fun k0 u0 => ?_)
    refine dtF 2 0 f0 u0 x0 Tryd.underlying75 sz59 (fun k0 s0 => ?_)
    refine dtM 3 f0 s0 x0 (fun k0 u0 => ?_)
    refine dtN 4 f0 u0 x0 (fun k0 s0 => ?_)
    refine dtF 5 1 f0 s0 x0 Tryd.underlying75 sz22 (fun k0 u0 => ?_)
    refine dtC 6 0 f0 u0 x0 Tryd.underlying22 (fun k0 s0 => ?_)
    refine dtM 7 f0 s0 x0 (fun k0 u0 => ?_)
    refine dtN 8 f0 u0 x0 (fun k0 s0 => ?_)
    refine dtF 9 0 f0 s0 x0 Tryd.underlying75 sz59 (fun k0 u0 => ?_)
    refine dtM 10 f0 u0 x0 (fun k0 s0 => ?_)
    refine dtN 11 f0 s0 x0 (fun k0 u0 => ?_)
    refine dtF 12 2 f0 u0 x0 Tryd.underlying75 sz22 (fun k0 s0 => ?_)
    refine dtC 13 1 f0 s0 x0 Tryd.underlying22 (fun k0 u0 => ?_)
    refine dtM 17 f0 u0 x0 (fun k0 s0 => ?_)
    refine dtN 18 f0 s0 x0 (fun k0 u0 => ?_)
    refine dtF 19 0 f0 u0 x0 Tryd.underlying75 sz59 (fun k0 s0 => ?_)
    refine dtM 20 f0 s0 x0 (fun k0 u0 => ?_)
    refine dtN 21 f0 u0 x0 (fun k0 s0 => ?_)
    refine dtF 22 3 f0 s0 x0 Tryd.underlying75 sz22 (fun k0 u0 => ?_)
    refine dtC 23 2 f0 u0 x0 Tryd.underlying22 (fun k0 s0 => ?_)
    refine d1 14 ?_
    have k0 := h0.nf
    refine k_call (xs := [.tmp 47, .tmp 51]) (st_op rfl (want_n rfl)) s0 rfl rfl rfl (by decide) ok95 (parts_calls _ _ k0.il _ _ _ _ _ _ _ (k0.g 0) (k0.z 0) (imm_box (i := 0) rfl) (k0.g 2)) ?_
    rintro s0 h0 ⟨u0, x0, d0, rfl, v0, t0, c0, q0, y0⟩
    have x0 := k0.callM (i := 0) rfl v0 t0
    have t0 := k0.dM 0 x0 c0
    have x0 := k0.dM 0 t0 q0
    refine ⟨_, rfl, fun t0 q0 => ?_⟩
    obtain ⟨hglxt, hg8xt⟩ := ag_len hct y0
    obtain ⟨hgnxt, hgsxt, hgcxt⟩ := ag_nth hct y0 hst (show 0 < many (nth xt (xt.length - 1)) by omega)
    have t0 := sWI x0 5 (pB 0 1 pn)
    refine ⟨t0, ?_⟩
    obtain ⟨t0, k0, c0⟩ := x0.agree
    refine d_more (k0 5 _ rfl) ?_
    have t0 := sWI c0 8 (pB 0 1 pn)
    refine dt 15 rfl f0 q0 (want_n rfl) (fun x hx => m_index (i := 0) (j := 0 * 1) (sy q0) q0 rfl rfl rfl rfl Tryd.underlying42 sz22 (by omega) (by omega) (ss_elem (t := d0) (k := 0) (sdat (k0 6 _ rfl) hx.ag).2 (by omega)).some_ rfl (by decide) gt) t0 (fun x0 v0 => ?_)
    refine dt 16 rfl f0 v0 (want_n rfl) (fun x hx => m_loadE (sy v0) v0 rfl rfl rfl 0 (0 * 1) (ss_elem (t := d0) (k := 0) (sdat (k0 6 _ rfl) hx.ag).2 (by omega)) rfl rfl Tryd.underlying22 rfl (by decide) gt) t0 (fun x0 q0 => ?_)
    have x0 := c0.data (dRow 4 ((nthS d0 0).1) ((nthS d0 0).2.2.length) ((nthS d0 0).2.1) (encNs ((nthS d0 0).2.2))) (all_at (t := d0) (k := 0) (c0.get (i := 7) rfl) (by omega))
    refine d1 24 ?_
    have c0 := x0.nf
    refine k_call (xs := [.tmp 57, .tmp 61]) (st_op rfl (want_n rfl)) q0 rfl rfl rfl (by decide) ok95 (parts_calls _ _ c0.il _ _ _ _ _ _ _ (c0.g 0) (c0.z 0) (imm_box (i := 0) rfl) (c0.g 3)) ?_
    rintro q0 x0 ⟨v0, t0, k0, rfl, u0, h0, s0, z0, b1⟩
    have t0 := c0.callM (i := 0) rfl u0 h0
    have h0 := c0.dM 0 t0 s0
    have t0 := c0.dM 0 h0 z0
    refine ⟨_, rfl, fun h0 z0 => ?_⟩
    obtain ⟨hglxu, hg8xu⟩ := ag_len hcu b1
    obtain ⟨hgnxu, hgsxu, hgcxu⟩ := ag_nth hcu b1 hsu (show 0 < many (nth xu (xu.length - 1)) by omega)
    have h0 := sWI t0 8 (pB 0 1 pn)
    refine ⟨h0, ?_⟩
    obtain ⟨h0, c0, s0⟩ := t0.agree
    refine d_more (c0 8 _ rfl) ?_
    have h0 := sWI s0 12 (pB 0 1 pn)
    refine dt 25 rfl f0 z0 (want_n rfl) (fun x hx => m_index (i := 0) (j := 0 * 1) (sy z0) z0 rfl rfl rfl rfl Tryd.underlying42 sz22 (by omega) (by omega) (ss_elem (t := k0) (k := 0) (sdat (c0 10 _ rfl) hx.ag).2 (by omega)).some_ rfl (by decide) gt) h0 (fun t0 u0 => ?_)
    refine dt 26 rfl f0 u0 (want_n rfl) (fun x hx => m_loadE (sy u0) u0 rfl rfl rfl 0 (0 * 1) (ss_elem (t := k0) (k := 0) (sdat (c0 10 _ rfl) hx.ag).2 (by omega)) rfl rfl Tryd.underlying22 rfl (by decide) gt) h0 (fun t0 z0 => ?_)
    have t0 := s0.data (dRow 4 ((nthS k0 0).1) ((nthS k0 0).2.2.length) ((nthS k0 0).2.1) (encNs ((nthS k0 0).2.2))) (all_at (t := k0) (k := 0) (s0.get (i := 11) rfl) (by omega))
    refine d1 27 ?_
    have s0 := t0.nf
    refine k_call (xs := [.tmp 40, .tmp 44, .tmp 54, .tmp 64]) (st_op rfl (want_n rfl)) z0 rfl rfl rfl (by decide) ok99 (meq_calls _ _ s0.il _ _ _ _ _ _ _ _ _ ((nthS d0 0).2.2) _ _ ((nthS k0 0).2.2) (s0.z 0) (imm_box (i := 0) rfl) (s0.g 1) (s0.g 9) (s0.g 13)) ?_
    rintro z0 k0 ⟨d0, t0, u0, rfl, h0, c0, v0, x0⟩
    have k0 := s0.callM (i := 0) rfl h0 c0
    have c0 := s0.dM 0 k0 v0
    refine ⟨_, rfl, fun k0 v0 => ?_⟩
    have k0 := sWI c0 12 (pB 0 1 pn)
    refine ⟨k0, ?_⟩
    refine dtA 28 f0 v0 k0 (fun s0 h0 => ?_)
    refine wpAnyH_done (by kernel_rfl) (o0 _ _ ?_) _
    refine x_then_n (n0 _ _ ?_)
    refine wp_ret ?_
    refine e_ret1 h0 rfl rfl rfl ?_
    refine ⟨d0, t0, u0, ?_, c0.fr, (by rw [show (ntE xe xt xu : Int) = ((((xe)))) by (unfold ntE; rw [if_neg b0])]; exact c0.res (i := 0) rfl), c0.rx 14, (by unfold ntL; rw [if_neg b0, if_neg (fun q => q j0), if_neg i0]; simp [lsts_nth, lsts_cons1, lsts_nil1, y0, b1, x0])⟩
    exact congrArg Ending.returned (ret_s (by first | rfl | (simp; done)))
  ·
   have c0 := p0.setb (d := 27) (b := true) rfl (by rw [(decide_eq_false j0)]; rfl)
   refine wp_cond_true (c0.ev rfl) ?_
   refine wsc (fun p0 x0 => ?_)
   refine mv c0 (fun p0 u0 => ?_)
   have p0 := m0.nf
   refine k_call (xs := [.tmp 31]) se u0 rfl rfl rfl (by decide) ok105 (sempty_calls _ _ p0.il _ _ _ _ _ _ _ _ _ _ _ (p0.z 0) (imm_box (i := 0) rfl) (p0.g 1) (p0.g 2) (p0.g 3)) ?_
   rintro u0 m0 ⟨c0, t0, d0, rfl, b1, y0, i0, h0⟩
   have h0 := p0.callM (i := 0) rfl b1 y0
   have y0 := p0.dM 0 h0 i0
   refine ⟨_, rfl, fun h0 i0 => ?_⟩
   refine asg i0 (fun h0 p0 => ?_)
   refine wpList_nil (x_then_n (x0 _ _ ?_))
   refine wp_ret ?_
   refine x_block_r ?_
   refine x_then_r ?_
   refine e_ret1 p0 rfl rfl rfl ?_
   refine ⟨c0, t0, d0, ?_, y0.fr, (by rw [show (ntE xe xt xu : Int) = ((xe)) by (unfold ntE; rw [if_neg b0])]; exact y0.res (i := 0) rfl), y0.rx 5, (by unfold ntL; rw [if_neg b0, if_pos j0]; assumption)⟩
   exact congrArg Ending.returned (ret_s (by first | rfl | (simp; done)))
end Go.Proofs.YtcfponnkfhkbdaaDoor
/- Contracts of functions, one theorem each: what the call returns, and that nothing old is changed. Printed by gen.py. -/
namespace Go.Proofs.YtcfponnkfhkbdaaDoor
open Go Go.RowKit
set_option linter.unusedSimpArgs false
set_option linter.unusedVariables false
set_option maxRecDepth 100000 in
set_option maxHeartbeats 1000000 in
theorem erule0_calls (w0 : World) (Z : Nat → Prop) (hZ : ∀ k, Z k → k < w0.heap.size) (aA : Option Addr) (ac : Nat) (a : List Nd) (tA : Option Addr) (tc : Nat) (t : List Nd) (uA : Option Addr) (uc : Nat) (u : List Nd) (hShp : Shapes w0 Z) (ha : (dRow 4 aA a.length ac (encNs a)).φ w0 Z) (ht : (dRow 4 tA t.length tc (encNs t)).φ w0 Z) (hu : (dRow 4 uA u.length uc (encNs u)).φ w0 Z) (hsa : sml a := by first | assumption | omega | (simp; done) | (simp; omega)) (hst : sml t := by first | assumption | omega | (simp; done) | (simp; omega)) (hsu : sml u := by first | assumption | omega | (simp; done) | (simp; omega)) (hla : a.length ≤ 1000 := by first | assumption | omega | (simp; done) | (simp; omega)) (hlt : t.length ≤ 5000 := by first | assumption | omega | (simp; done) | (simp; omega)) (hlu : u.length ≤ 5000 := by first | assumption | omega | (simp; done) | (simp; omega)) (hca : chk a = 0 := by first | assumption | omega | (simp; done) | (simp; omega)) (hct : chk t = 0 := by first | assumption | omega | (simp; done) | (simp; omega)) (hcu : chk u = 0 := by first | assumption | omega | (simp; done) | (simp; omega)) (hka : (nth a (a.length - 1)).K = 10 := by first | assumption | omega | (simp; done) | (simp; omega)) (hnt : ¬ (nth t (t.length - 1)).K = 29 := by first | assumption | omega | (simp; done) | (simp; omega)) (hnu : ¬ (nth u (u.length - 1)).K = 29 := by first | assumption | omega | (simp; done) | (simp; omega)) :
    Calls Tryd.prog 30 [.slice aA a.length ac, .slice tA t.length tc, .slice uA u.length uc, .slice none 0 0].toArray w0 (fun e w' => ∃ (rA0 : Option Addr) (rc0 : Nat), e = .returned (.tuple #[.slice rA0 (nrA a t u).length rc0, .int .i64 (nrE a t u)]) ∧ Fr none_ w0 w' ∧ (dRow 4 rA0 ((nrA a t u).length) rc0 (encNs (nrA a t u))).φ w' (nxt Z w0 w')) := by
 have b0 := s0 (M := none_) hZ (zc (d := dShapes) hShp (zc ha (zc ht (zc hu zn))))
 have hpa := chk_pos hca
 have hpt := chk_pos hct
 have hpu := chk_pos hcu
 refine c_enter Tryd.func30 rfl Tryd.ntmps30 rfl (fun c0 d0 => ?_)
 refine wsc (fun c0 f0 => ?_)
 refine asg d0 (fun c0 h0 => ?_)
 refine asg h0 (fun c0 d0 => ?_)
 refine wpList_nil (x_then_n (f0 _ _ ?_))
 refine wp_seq_k (fun f0 c0 => ?_)
 refine wsc (fun f0 h0 => ?_)
 refine mv d0 (fun f0 i0 => ?_)
 refine mv i0 (fun f0 d0 => ?_)
 refine mv d0 (fun f0 i0 => ?_)
 have f0 := b0.data (dAll [((aA, ac, a) : Sl), ((tA, tc, t) : Sl), ((uA, uc, u) : Sl)]) (all_cons (b0.get (i := 1) rfl) (all_cons (b0.get (i := 2) rfl) (all_cons (b0.get (i := 3) rfl) all_nil)))
 refine mbs [(0, .tmp 15), (1, .tmp 16), (2, .tmp 17)] [.slice aA a.length ac, .slice tA t.length tc, .slice uA u.length uc] sv i0 f0 Tryd.underlying42 zi22 (fun b0 d0 j0 k0 m0 => ?_)
 refine r_len sv k0 rfl rfl rfl rfl Tryd.underlying42 (by decide) (fun j0 d0 => ?_)
 refine mv d0 (fun j0 k0 => ?_)
 refine wpList_nil (x_then_n (h0 _ _ ?_))
 refine wp_block ?_
 refine wp_loop_rounds 4 (r_round ?_)
 refine wsc (fun h0 j0 => ?_)
 have h0 : (0 : Int) < 3 := by decide
 refine r_lss sv k0 rfl rfl rfl rfl (by decide) (fun d0 b0 => ?_)
 refine wpList_nil (x_then_n (j0 _ _ ?_))
 refine wp_seq_k (fun j0 d0 => ?_)
 have j0 := b0.setb (d := 21) (b := true) rfl (decide_eq_true h0)
 refine wp_cond_true (j0.ev rfl) ?_
 refine wp_skip ?_
 refine x_then_n (d0 _ _ ?_)
 refine wp_seq_k (fun d0 b0 => ?_)
 refine wp_block ?_
 refine wsc (fun d0 h0 => ?_)
 refine m_index (i := 0) (j := 0 * 1) sv j0 rfl rfl rfl rfl Tryd.underlying42 sz22 (by omega) (by simp) (own_ss (t := [((aA, ac, a) : Sl), ((tA, tc, t) : Sl), ((uA, uc, u) : Sl)]) (k := 0) (m0.res (i := 0) rfl) (by simp)).some_ rfl (by decide) (fun d0 k0 => ?_)
 refine m_loadE sv k0 rfl rfl rfl 0 (0 * 1) (own_ss (t := [((aA, ac, a) : Sl), ((tA, tc, t) : Sl), ((uA, uc, u) : Sl)]) (k := 0) (m0.res (i := 0) rfl) (by simp)) rfl rfl Tryd.underlying22 rfl (by decide) (fun d0 j0 => ?_)
 refine asg j0 (fun d0 k0 => ?_)
 refine wpList_nil (x_then_n (h0 _ _ ?_))
 refine wsc (fun h0 d0 => ?_)
 refine mv k0 (fun h0 j0 => ?_)
 have h0 := m0.nf
 refine k_call (xs := [.tmp 24]) se j0 rfl rfl rfl (by decide) ok40 (check_calls _ _ h0.il _ _ a (h0.g 0) (h0.g 1)) ?_
 rintro j0 m0 ⟨rfl, k0⟩
 have m0 := h0.below k0.below
 refine ⟨_, rfl, fun k0 h0 => ?_⟩
 refine asg h0 (fun k0 j0 => ?_)
 refine wpList_nil (x_then_n (d0 _ _ ?_))
 refine wsc (fun d0 k0 => ?_)
 refine mv j0 (fun d0 h0 => ?_)
 refine r_neq sv h0 rfl rfl rfl rfl (by decide) (fun d0 j0 => ?_)
 refine wpList_nil (x_then_n (k0 _ _ ?_))
 have k0 : ((chk a)) = 0 := (by first | exact hca | exact hct | exact hcu)
 have d0 := j0.setb (d := 27) (b := false) rfl (by rw [(decide_eq_true k0)]; rfl)
 refine wp_cond_false (d0.ev rfl) ?_
 refine wp_skip ?_
 refine x_block_n ?_
 refine x_then_n (b0 _ _ ?_)
 refine c_region ?_
 refine r_add (z := 1) sv d0 rfl rfl rfl rfl (by decide) (by omega) (by omega) (by omega) (fun b0 k0 => ?_)
 refine mv k0 (fun b0 d0 => ?_)
 refine wpList_nil ?_
 refine x_then_n (r_round ?_)
 refine wsc (fun b0 k0 => ?_)
 have b0 : (1 : Int) < 3 := by decide
 refine r_lss sv d0 rfl rfl rfl rfl (by decide) (fun j0 h0 => ?_)
 refine wpList_nil (x_then_n (k0 _ _ ?_))
 refine wp_seq_k (fun k0 j0 => ?_)
 have k0 := h0.setb (d := 21) (b := true) rfl (decide_eq_true b0)
 refine wp_cond_true (k0.ev rfl) ?_
 refine wp_skip ?_
 refine x_then_n (j0 _ _ ?_)
 refine wp_seq_k (fun j0 h0 => ?_)
 refine wp_block ?_
 refine wsc (fun j0 b0 => ?_)
 refine m_index (i := 1) (j := 1 * 1) sv k0 rfl rfl rfl rfl Tryd.underlying42 sz22 (by omega) (by simp) (own_ss (t := [((aA, ac, a) : Sl), ((tA, tc, t) : Sl), ((uA, uc, u) : Sl)]) (k := 1) (m0.res (i := 0) rfl) (by simp)).some_ rfl (by decide) (fun j0 d0 => ?_)
 refine m_loadE sv d0 rfl rfl rfl 0 (1 * 1) (own_ss (t := [((aA, ac, a) : Sl), ((tA, tc, t) : Sl), ((uA, uc, u) : Sl)]) (k := 1) (m0.res (i := 0) rfl) (by simp)) rfl rfl Tryd.underlying22 rfl (by decide) (fun j0 k0 => ?_)
 refine asg k0 (fun j0 d0 => ?_)
 refine wpList_nil (x_then_n (b0 _ _ ?_))
 refine wsc (fun b0 j0 => ?_)
 refine mv d0 (fun b0 k0 => ?_)
 have b0 := m0.nf
 refine k_call (xs := [.tmp 24]) se k0 rfl rfl rfl (by decide) ok40 (check_calls _ _ b0.il _ _ t (b0.g 0) (b0.g 2)) ?_
 rintro k0 m0 ⟨rfl, d0⟩
 have m0 := b0.below d0.below
 refine ⟨_, rfl, fun d0 b0 => ?_⟩
 refine asg b0 (fun d0 k0 => ?_)
 refine wpList_nil (x_then_n (j0 _ _ ?_))
 refine wsc (fun j0 d0 => ?_)
 refine mv k0 (fun j0 b0 => ?_)
 refine r_neq sv b0 rfl rfl rfl rfl (by decide) (fun j0 k0 => ?_)
 refine wpList_nil (x_then_n (d0 _ _ ?_))
 have d0 : ((chk t)) = 0 := (by first | exact hca | exact hct | exact hcu)
 have j0 := k0.setb (d := 27) (b := false) rfl (by rw [(decide_eq_true d0)]; rfl)
 refine wp_cond_false (j0.ev rfl) ?_
 refine wp_skip ?_
 refine x_block_n ?_
 refine x_then_n (h0 _ _ ?_)
 refine c_region ?_
 refine r_add (z := 2) sv j0 rfl rfl rfl rfl (by decide) (by omega) (by omega) (by omega) (fun h0 d0 => ?_)
 refine mv d0 (fun h0 j0 => ?_)
 refine wpList_nil ?_
 refine x_then_n (r_round ?_)
 refine wsc (fun h0 d0 => ?_)
 have h0 : (2 : Int) < 3 := by decide
 refine r_lss sv j0 rfl rfl rfl rfl (by decide) (fun k0 b0 => ?_)
 refine wpList_nil (x_then_n (d0 _ _ ?_))
 refine wp_seq_k (fun d0 k0 => ?_)
 have d0 := b0.setb (d := 21) (b := true) rfl (decide_eq_true h0)
 refine wp_cond_true (d0.ev rfl) ?_
 refine wp_skip ?_
 refine x_then_n (k0 _ _ ?_)
 refine wp_seq_k (fun k0 b0 => ?_)
 refine wp_block ?_
 refine wsc (fun k0 h0 => ?_)
 refine m_index (i := 2) (j := 2 * 1) sv d0 rfl rfl rfl rfl Tryd.underlying42 sz22 (by omega) (by simp) (own_ss (t := [((aA, ac, a) : Sl), ((tA, tc, t) : Sl), ((uA, uc, u) : Sl)]) (k := 2) (m0.res (i := 0) rfl) (by simp)).some_ rfl (by decide) (fun k0 j0 => ?_)
 refine m_loadE sv j0 rfl rfl rfl 0 (2 * 1) (own_ss (t := [((aA, ac, a) : Sl), ((tA, tc, t) : Sl), ((uA, uc, u) : Sl)]) (k := 2) (m0.res (i := 0) rfl) (by simp)) rfl rfl Tryd.underlying22 rfl (by decide) (fun k0 d0 => ?_)
 refine asg d0 (fun k0 j0 => ?_)
 refine wpList_nil (x_then_n (h0 _ _ ?_))
 refine wsc (fun h0 k0 => ?_)
 refine mv j0 (fun h0 d0 => ?_)
 have h0 := m0.nf
 refine k_call (xs := [.tmp 24]) se d0 rfl rfl rfl (by decide) ok40 (check_calls _ _ h0.il _ _ u (h0.g 0) (h0.g 3)) ?_
 rintro d0 m0 ⟨rfl, j0⟩
 have m0 := h0.below j0.below
 refine ⟨_, rfl, fun j0 h0 => ?_⟩
 refine asg h0 (fun j0 d0 => ?_)
 refine wpList_nil (x_then_n (k0 _ _ ?_))
 refine wsc (fun k0 j0 => ?_)
 refine mv d0 (fun k0 h0 => ?_)
 refine r_neq sv h0 rfl rfl rfl rfl (by decide) (fun k0 d0 => ?_)
 refine wpList_nil (x_then_n (j0 _ _ ?_))
 have j0 : ((chk u)) = 0 := (by first | exact hca | exact hct | exact hcu)
 have k0 := d0.setb (d := 27) (b := false) rfl (by rw [(decide_eq_true j0)]; rfl)
 refine wp_cond_false (k0.ev rfl) ?_
 refine wp_skip ?_
 refine x_block_n ?_
 refine x_then_n (b0 _ _ ?_)
 refine c_region ?_
 refine r_add (z := 3) sv k0 rfl rfl rfl rfl (by decide) (by omega) (by omega) (by omega) (fun b0 j0 => ?_)
 refine mv j0 (fun b0 k0 => ?_)
 refine wpList_nil ?_
 refine x_then_n (r_round ?_)
 refine wsc (fun b0 j0 => ?_)
 have b0 : ¬ (3 : Int) < 3 := by decide
 refine r_lss sv k0 rfl rfl rfl rfl (by decide) (fun d0 h0 => ?_)
 refine wpList_nil (x_then_n (j0 _ _ ?_))
 refine wp_seq_k (fun j0 d0 => ?_)
 have d0 := h0.setb (d := 21) (b := false) rfl (decide_eq_false b0)
 refine wp_cond_false (d0.ev rfl) ?_
 refine wp_exit ?_
 refine x_then_e ?_
 refine x_then_e ?_
 refine x_block_eq ?_
 refine x_then_n (c0 _ _ ?_)
 refine wsc (fun c0 h0 => ?_)
 refine mv d0 (fun c0 b0 => ?_)
 refine mv b0 (fun c0 d0 => ?_)
 refine mv d0 (fun c0 b0 => ?_)
 refine mv b0 (fun c0 d0 => ?_)
 refine m_build (ps := [(1, .tmp 30), (2, .tmp 31), (3, .tmp 32), (4, .tmp 33)]) (v := .agg #[.int .i64 0, .slice aA a.length ac, .slice tA t.length tc, .slice uA u.length uc, .slice none 0 0]) sv d0 rfl rfl rfl (fun _ => by kernel_rfl) (by decide) (fun c0 b0 => ?_)
 refine m_box (cs := [.int .i64 0, .slice aA a.length ac, .slice tA t.length tc, .slice uA u.length uc, .slice none 0 0]) sv b0 m0 rfl rfl rfl rfl (by decide) (fun c0 d0 j0 k0 f0 => ?_)
 refine asg k0 (fun j0 d0 => ?_)
 refine wpList_nil (x_then_n (h0 _ _ ?_))
 refine wp_seq_k (fun h0 j0 => ?_)
 refine wsc (fun h0 k0 => ?_)
 refine mv d0 (fun h0 c0 => ?_)
 have h0 := f0.nf
 refine k_call (xs := [.tmp 36]) se c0 rfl rfl rfl (by decide) ok50 (eroot_calls _ _ h0.il _ _ _ (h0.g 2)) ?_
 rintro c0 f0 ⟨rfl, d0⟩
 have f0 := h0.below d0.below
 refine ⟨_, rfl, fun d0 h0 => ?_⟩
 refine m_fieldV (v := .int .i64 (((nth t (t.length - 1)).K))) sv h0 rfl rfl rfl (fun _ => by kernel_rfl) (by decide) (fun d0 c0 => ?_)
 refine r_eql sv c0 rfl rfl rfl rfl (by decide) (fun d0 h0 => ?_)
 refine mv h0 (fun d0 c0 => ?_)
 have d0 : ¬ ((((nth t (t.length - 1)).K)) = 29) := (by first | exact hnt | exact hnu)
 have h0 := c0.setb (d := 40) (b := false) rfl (decide_eq_false d0)
 refine r_move (st_listV_w (wt h0)) h0 rfl rfl rfl (by decide) (fun d0 c0 => ?_)
 have d0 := f0.nf
 refine k_call (xs := [.tmp 41]) (st_list_w (wt c0)) c0 rfl rfl rfl (by decide) ok50 (eroot_calls _ _ d0.il _ _ _ (d0.g 3)) ?_
 rintro c0 f0 ⟨rfl, h0⟩
 have f0 := d0.below h0.below
 refine ⟨_, rfl, fun h0 d0 => ?_⟩
 refine m_fieldV (v := .int .i64 (((nth u (u.length - 1)).K))) (st_listV_w (wt d0)) d0 rfl rfl rfl (fun _ => by kernel_rfl) (by decide) (fun h0 c0 => ?_)
 refine r_eql (st_listV_w (wt c0)) c0 rfl rfl rfl rfl (by decide) (fun h0 d0 => ?_)
 refine r_pick_f sv d0 rfl rfl rfl rfl (by decide) (fun h0 c0 => ?_)
 refine mv c0 (fun h0 d0 => ?_)
 have h0 : ¬ ((((nth u (u.length - 1)).K)) = 29) := (by first | exact hnt | exact hnu)
 have c0 := d0.setb (d := 46) (b := false) rfl (decide_eq_false h0)
 refine r_move (st_listV_w (wt c0)) c0 rfl rfl rfl (by decide) (fun h0 d0 => ?_)
 have h0 := f0.nf
 refine k_call (xs := [.tmp 47]) (st_list_w (wt d0)) d0 rfl rfl rfl (by decide) ok51 (estrict_calls _ _ h0.il _ _ _ (h0.g 1)) ?_
 rintro d0 f0 ⟨rfl, c0⟩
 have f0 := h0.below c0.below
 refine ⟨_, rfl, fun c0 h0 => ?_⟩
 refine r_pick_f sv h0 rfl rfl rfl rfl (by decide) (fun c0 d0 => ?_)
 refine wpList_nil (x_then_n (k0 _ _ ?_))
 have k0 : (false) = false := (by decide)
 have c0 := d0.setb (d := 49) (b := false) rfl k0
 refine wp_cond_false (c0.ev rfl) ?_
 refine wp_skip ?_
 refine x_then_n (j0 _ _ ?_)
 refine wsc (fun j0 k0 => ?_)
 have j0 := f0.nf
 refine k_call (xs := []) se c0 rfl rfl rfl (by decide) ok53 (rules_calls _ _ j0.il ) ?_
 rintro c0 f0 ⟨d0, rfl, h0, b0⟩
 have d0 := j0.below h0.below
 have h0 := j0.dN d0 b0
 refine ⟨_, rfl, fun d0 b0 => ?_⟩
 refine mv b0 (fun d0 j0 => ?_)
 have d0 := h0.nf
 refine k_call (xs := [.tmp 59]) se j0 rfl rfl rfl (by decide) ok50 (eroot_calls _ _ d0.il _ _ _ (d0.g 1)) ?_
 rintro j0 h0 ⟨rfl, b0⟩
 have h0 := d0.below b0.below
 refine ⟨_, rfl, fun b0 d0 => ?_⟩
 refine m_fieldV (v := .int .i64 (((nth a (a.length - 1)).K))) sv d0 rfl rfl rfl (fun _ => by kernel_rfl) (by decide) (fun b0 j0 => ?_)
 refine m_lookup (es := rulesM) (i := 2) (u := .func (.func 75) #[] #[]) sv j0 rfl rfl rfl rfl (h0.get (i := 5) rfl).2 Tryd.underlying77 Tryd.underlying3 (by rw [hka]; rfl) (by decide) (fun b0 d0 => ?_)
 refine asg d0 (fun b0 j0 => ?_)
 refine wpList_nil (x_then_n (k0 _ _ ?_))
 refine wp_seq_k (fun k0 b0 => ?_)
 refine wsc (fun k0 d0 => ?_)
 refine mv j0 (fun k0 f0 => ?_)
 refine r_nofunc sv f0 rfl rfl rfl rfl Tryd.underlying76 (by decide) (fun k0 j0 => ?_)
 refine wpList_nil (x_then_n (d0 _ _ ?_))
 refine wp_cond_false (j0.ev rfl) ?_
 refine wp_skip ?_
 refine x_then_n (b0 _ _ ?_)
 refine wp_seq_k (fun b0 d0 => ?_)
 obtain ⟨b0, k0, f0⟩ := h0.agree
 refine d_reg3 (n := 11) f0 6 (pB 1 1 pn) (pan_then pan_body) (fun k0 b0 h0 c0 m0 i0 => ?_)
 refine dtM 0 b0 j0 i0 (fun c0 k0 => ?_)
 refine dtN 1 b0 k0 i0 (fun c0 j0 => ?_)
 refine dtF 2 0 b0 j0 i0 Tryd.underlying75 sz59 (fun c0 k0 => ?_)
 refine dtM 3 b0 k0 i0 (fun c0 j0 => ?_)
 refine dtM 4 b0 j0 i0 (fun c0 k0 => ?_)
 refine d1 5 ?_
 have c0 := m0.nf
 refine k_callV (xs := [.tmp 69]) (st_op rfl (want_n rfl)) k0 rfl rfl rfl rfl (by decide) ok75 (onNat_calls _ _ c0.il _ _ _ _ _ _ _ _ _ _ _ (c0.g 0) (c0.z 1) (imm_box (i := 1) rfl) (c0.g 1) (c0.g 2) (c0.g 3)) ?_
 rintro k0 m0 ⟨j0, i0, f0, rfl, n0, o0, p0, q0⟩
 have i0 := c0.callM (i := 1) rfl n0 o0
 have o0 := c0.dM 1 i0 p0
 refine ⟨_, rfl, fun i0 p0 => ?_⟩
 obtain ⟨hzs, hzl⟩ : sml f0 ∧ f0.length ≤ 100000 := by rw [q0]; exact nt_sz hsa hla hct hcu hst hsu hlt hlu
 have i0 := sWI o0 6 (pB 1 1 pn)
 refine ⟨i0, ?_⟩
 refine d1 6 ?_
 have i0 := o0.nf
 refine k_call (xs := [.tmp 67, .tmp 70]) (st_op rfl (want_n rfl)) p0 rfl rfl rfl (by decide) ok36 (done_calls _ _ i0.il _ _ _ _ _ _ _ (i0.g 0) (i0.z 1) (imm_box (i := 1) rfl) (i0.g 7)) ?_
 rintro p0 o0 ⟨c0, n0, rfl, j0, m0, k0⟩
 have o0 := i0.callM (i := 1) rfl j0 m0
 have m0 := i0.dM 1 o0 k0
 refine ⟨_, rfl, fun o0 k0 => ?_⟩
 have o0 := sWI m0 6 (pB 1 1 pn)
 refine ⟨o0, ?_⟩
 refine dt 7 rfl b0 k0 (want_n rfl) (fun x hx => r_extract (sy k0) k0 rfl rfl rfl rfl (by decide) gt) o0 (fun i0 j0 => ?_)
 refine dt 8 rfl b0 j0 (want_n rfl) (fun x hx => r_extract (sy j0) j0 rfl rfl rfl rfl (by decide) gt) o0 (fun i0 k0 => ?_)
 refine dtA 9 b0 k0 o0 (fun i0 j0 => ?_)
 refine dtA 10 b0 j0 o0 (fun i0 k0 => ?_)
 refine wpAnyH_done (by kernel_rfl) (h0 _ _ ?_) _
 refine x_then_n (d0 _ _ ?_)
 refine wp_ret ?_
 refine e_ret2 k0 rfl rfl rfl rfl ?_
 have k0 : nrA a t u = (if (if ((ntE 0 t u)) = 0 then chk f0 else ((ntE 0 t u))) = 0 then f0 else []) := (by unfold nrA nrE; rw [q0])
 rw [k0]
 refine ⟨c0, n0, ?_, m0.fr, m0.rx 8⟩
 exact ret_t2 rfl (ret_i (by (unfold nrE; rw [q0])))
end Go.Proofs.YtcfponnkfhkbdaaDoor
/- Equality of two numbers, step by step. -/
namespace Go.Proofs.YtcfponnkfhkbdaaDoor
set_option linter.unusedSimpArgs false
set_option linter.unusedVariables false
def natL : List Nd := [⟨10, 0, 0, ⟨#[]⟩⟩]
theorem nat_sml : sml natL := by
 rw [sml_mem]
 decide
theorem num_root (k : Nat) : nth (numL k) ((numL k).length - 1) = if k = 0 then ⟨11, 0, 0, ⟨#[]⟩⟩ else ⟨12, 0, 0, ⟨#[]⟩⟩ := by
 cases k with
 | zero => rfl
 | succ k => rw [← num_app]; simp [nth]
theorem num_K (k : Nat) : numK (numL k) = if k = 0 then 1 else 2 := by
 unfold numK
 rw [num_root]
 split <;> rfl
theorem num_pt {k : Nat} (hk : k ≤ 40) : agA (numL (k + 1)) = [numL k] := by
 obtain ⟨a, b, _⟩ := num_ok k (by omega)
 rw [agA_ok (num_ok (k + 1) (by omega)).1, num_succ]
 exact (ofL_ok (k := 12) (p := [numL k]) (b := k + 1) (by decide) rfl (by
  intro x hx
  simp only [List.mem_cons, List.not_mem_nil, or_false] at hx
  rw [hx]; exact ⟨a, b⟩) (by omega) (by simp [numL]; omega)).2.2.1
theorem nat_ok : chk natL = 0 ∧ dpL natL ≤ 1 := by
 have h : chk natL = 0 := by decide
 exact ⟨h, dp_small h⟩
theorem eq_ok {m n : Nat} (hm : m ≤ 40) (hn : n ≤ 40) : chk (ofL 18 [natL, numL m, numL n]) = 0 ∧ ptL (ofL 18 [natL, numL m, numL n]) = [natL, numL m, numL n] ∧ nth (ofL 18 [natL, numL m, numL n]) ((ofL 18 [natL, numL m, numL n]).length - 1) = ⟨18, 0, 0, ⟨#[]⟩⟩ ∧ (ofL 18 [natL, numL m, numL n]).length = m + n + 4 := by
 obtain ⟨a, b, _⟩ := num_ok m (by omega)
 obtain ⟨c, d, _⟩ := num_ok n (by omega)
 obtain ⟨h1, _, h3, h4, h5⟩ := ofL_ok (k := 18) (p := [natL, numL m, numL n]) (b := 41) (by decide) rfl (by
  intro x hx
  simp only [List.mem_cons, List.not_mem_nil, or_false] at hx
  rcases hx with rfl | rfl | rfl
  · exact ⟨nat_ok.1, Nat.le_trans nat_ok.2 (by decide)⟩
  · exact ⟨a, by omega⟩
  · exact ⟨c, by omega⟩) (by omega) (by simp [numL, natL]; omega)
 refine ⟨h1, h3, h4, ?_⟩
 rw [h5]
 simp [numL, natL]
 omega
theorem nr_step {m n : Nat} (hm : m ≤ 40) (hn : n ≤ 40) : nrE natL (numL (m + 1)) (numL (n + 1)) = 0 ∧ nrA natL (numL (m + 1)) (numL (n + 1)) = ofL 18 [natL, numL m, numL n] := by
 have e1 : numK (numL (m + 1)) = 2 := by rw [num_K]; rfl
 have e2 : numK (numL (n + 1)) = 2 := by rw [num_K]; rfl
 have hE : ntE 0 (numL (m + 1)) (numL (n + 1)) = 0 := by unfold ntE; rw [e1, e2]; rfl
 have hL : ntL 0 natL (numL (m + 1)) (numL (n + 1)) = ofL 18 [natL, numL m, numL n] := by
  unfold ntL
  rw [e1, e2, num_pt hm, num_pt hn]
  rfl
 have h : nrE natL (numL (m + 1)) (numL (n + 1)) = 0 := by unfold nrE; rw [hE, if_pos rfl, hL]; exact (eq_ok hm hn).1
 refine ⟨h, ?_⟩
 unfold nrA
 rw [if_pos h, hL]
theorem nr_end {m n : Nat} (h0 : m = 0 ∨ n = 0) : nrE natL (numL m) (numL n) = 0 ∧ nrA natL (numL m) (numL n) = [⟨if m = n then 16 else 14, 0, 0, ⟨#[]⟩⟩] := by
 have u1 : chk [⟨16, 0, 0, ⟨#[]⟩⟩] = 0 := by decide
 have u2 : chk [⟨14, 0, 0, ⟨#[]⟩⟩] = 0 := by decide
 have hE : ntE 0 (numL m) (numL n) = 0 := by
  unfold ntE
  rw [num_K, num_K]
  split <;> split <;> rfl
 have hL : ntL 0 natL (numL m) (numL n) = [⟨if m = n then 16 else 14, 0, 0, ⟨#[]⟩⟩] := by
  unfold ntL
  rw [num_K, num_K]
  by_cases e : m = n
  ·
   have q : m = 0 := by omega
   have q' : n = 0 := by omega
   subst q
   subst q'
   rfl
  ·
   rw [if_neg e]
   by_cases q : m = 0
   ·
    have q' : ¬ n = 0 := by omega
    rw [if_pos q, if_neg q']
    rfl
   ·
    have q' : n = 0 := by omega
    rw [if_neg q, if_pos q']
    rfl
 have h : nrE natL (numL m) (numL n) = 0 := by
  unfold nrE
  rw [hE, if_pos rfl, hL]
  by_cases e : m = n
  · rw [if_pos e]; exact u1
  · rw [if_neg e]; exact u2
 refine ⟨h, ?_⟩
 unfold nrA
 rw [if_pos h, hL]
theorem num_sml (k : Nat) : sml (numL k) := by
 rw [sml_mem]
 intro n hn
 simp only [numL, List.mem_cons, List.mem_replicate] at hn
 rcases hn with rfl | ⟨_, rfl⟩ <;> decide
theorem en0 : nrE natL (numL 0) (numL 0) = 0 ∧ nrA natL (numL 0) (numL 0) = [⟨16, 0, 0, ⟨#[]⟩⟩] := ⟨(nr_end (.inl rfl)).1, (nr_end (.inl rfl)).2⟩
theorem en0l : (((nrA natL (numL 0) (numL 0)).length : Nat) : Int) = 1 := by rw [en0.2]; rfl
theorem en0k : (nth (nrA natL (numL 0) (numL 0)) 0).K = 16 := by rw [en0.2]; rfl
theorem nr_go {m n : Nat} (h0 : 0 < m) (h1 : 0 < n) (hm : m ≤ 40) (hn : n ≤ 40) : nrE natL (numL m) (numL n) = 0 ∧ ptL (nrA natL (numL m) (numL n)) = [natL, numL (m - 1), numL (n - 1)] ∧ (nth (nrA natL (numL m) (numL n)) ((nrA natL (numL m) (numL n)).length - 1)).K = 18 ∧
  (nrA natL (numL m) (numL n)).length = m + n + 2 ∧ sml (nrA natL (numL m) (numL n)) ∧ measB (nrA natL (numL m) (numL n)) = true := by
 obtain ⟨p, rfl⟩ : ∃ p, m = p + 1 := ⟨m - 1, by omega⟩
 obtain ⟨q, rfl⟩ : ∃ q, n = q + 1 := ⟨n - 1, by omega⟩
 obtain ⟨a, b⟩ := nr_step (m := p) (n := q) (by omega) (by omega)
 obtain ⟨c, d, e, f⟩ := eq_ok (m := p) (n := q) (by omega) (by omega)
 rw [b]
 refine ⟨a, d, by rw [e], by omega, ofL_sml ?_, meas_chk c⟩
 intro x hx
 simp only [List.mem_cons, List.not_mem_nil, or_false] at hx
 rcases hx with rfl | rfl | rfl
 · exact nat_sml
 · exact num_sml _
 · exact num_sml _
theorem num_no (k : Nat) : ¬ (nth (numL k) ((numL k).length - 1)).K = 29 := by
 rw [num_root]
 split <;> decide
end Go.Proofs.YtcfponnkfhkbdaaDoor
/- Contracts of functions, one theorem each: what the call returns, and that nothing old is changed. Printed by gen.py. -/
namespace Go.Proofs.YtcfponnkfhkbdaaDoor
open Go Go.RowKit
set_option linter.unusedSimpArgs false
set_option linter.unusedVariables false
set_option maxRecDepth 100000 in
set_option maxHeartbeats 1000000 in
theorem elooks_calls (w0 : World) (Z : Nat → Prop) (hZ : ∀ k, Z k → k < w0.heap.size) (tA : Option Addr) (tc : Nat) (t : List Nd) (hShp : Shapes w0 Z) (ht : (dRow 4 tA t.length tc (encNs t)).φ w0 Z) (hst : sml t := by first | assumption | omega | (simp; done) | (simp; omega)) (hlt : t.length ≤ 5000 := by first | assumption | omega | (simp; done) | (simp; omega)) (hct : chk t = 0 := by first | assumption | omega | (simp; done) | (simp; omega)) (hk : (nth t (t.length - 1)).K = 10 := by first | assumption | omega | (simp; done) | (simp; omega)) :
    Calls Tryd.prog 49 [.slice tA t.length tc].toArray w0 (fun e w' => e = .returned (.bool (true)) ∧ Fr none_ w0 w') := by
 have b0 := s0 (M := none_) hZ (zc (d := dShapes) hShp (zc ht zn))
 have hpt := chk_pos hct
 refine c_enter Tryd.func49 rfl Tryd.ntmps49 rfl (fun c0 d0 => ?_)
 refine wsc (fun c0 f0 => ?_)
 refine asg d0 (fun c0 h0 => ?_)
 refine wpList_nil (x_then_n (f0 _ _ ?_))
 refine wp_seq_k (fun f0 c0 => ?_)
 refine wsc (fun f0 d0 => ?_)
 refine mv h0 (fun f0 i0 => ?_)
 have f0 := b0.nf
 refine k_call (xs := [.tmp 4]) se i0 rfl rfl rfl (by decide) ok40 (check_calls _ _ f0.il _ _ _ (f0.g 0) (f0.g 1)) ?_
 rintro i0 b0 ⟨rfl, h0⟩
 have b0 := f0.below h0.below
 refine ⟨_, rfl, fun h0 f0 => ?_⟩
 refine r_neq sv f0 rfl rfl rfl rfl (by decide) (fun h0 i0 => ?_)
 refine wpList_nil (x_then_n (d0 _ _ ?_))
 have d0 : ((chk t)) = 0 := hct
 have h0 := i0.setb (d := 6) (b := false) rfl (by rw [(decide_eq_true d0)]; rfl)
 refine wp_cond_false (h0.ev rfl) ?_
 refine wp_skip ?_
 refine x_then_n (c0 _ _ ?_)
 refine wp_seq_k (fun c0 i0 => ?_)
 refine wsc (fun i0 c0 => ?_)
 refine mv h0 (fun i0 f0 => ?_)
 have i0 := b0.nf
 refine k_call (xs := [.tmp 7]) se f0 rfl rfl rfl (by decide) ok50 (eroot_calls _ _ i0.il _ _ _ (i0.g 1)) ?_
 rintro f0 b0 ⟨rfl, h0⟩
 have b0 := i0.below h0.below
 refine ⟨_, rfl, fun h0 i0 => ?_⟩
 refine m_alloc (cs := [.int .i64 0, .int .i64 0, .int .i64 0, .string (⟨#[]⟩ : ByteArray)]) sv i0 b0 rfl rfl ze39 rfl (by decide) (fun h0 f0 j0 k0 m0 => ?_)
 refine m_store (i := 0) (cs' := [.int .i64 (((nth t (t.length - 1)).K)), .int .i64 (((nth t (t.length - 1)).N)), .int .i64 (((nth t (t.length - 1)).M)), .string ((nth t (t.length - 1)).S)]) se k0 m0 rfl rfl rfl rfl rfl sz39 rfl rfl rfl (fun j0 f0 h0 i0 => ?_)
 refine wpList_nil (x_then_n (c0 _ _ ?_))
 refine wsc (fun c0 f0 => ?_)
 refine m_field (j' := 0) sv h0 rfl rfl rfl Tryd.underlying39 rfl sz3 rfl rfl (by decide) (fun c0 j0 => ?_)
 refine m_load (i := 0) sv j0 i0 rfl rfl rfl rfl rfl Tryd.underlying3 rfl (by decide) (fun c0 h0 => ?_)
 refine wpList_nil (x_then_n (f0 _ _ ?_))
 refine wp_block ?_
 refine wp_seq_k (fun f0 c0 => ?_)
 refine wsc (fun f0 j0 => ?_)
 refine r_eql sv h0 rfl rfl rfl rfl (by decide) (fun f0 m0 => ?_)
 refine asg m0 (fun f0 h0 => ?_)
 refine wpList_nil (x_then_n (j0 _ _ ?_))
 have j0 : (((nth t (t.length - 1)).K)) = 10 := (by omega)
 have f0 := h0.setb (d := 11) (b := true) rfl (decide_eq_true j0)
 refine wp_cond_true (f0.ev rfl) ?_
 refine wp_skip ?_
 refine x_then_n (c0 _ _ ?_)
 refine wp_cond_true (f0.ev rfl) ?_
 refine wsc (fun c0 h0 => ?_)
 refine asg f0 (fun c0 m0 => ?_)
 refine wpList_nil (x_then_n (h0 _ _ ?_))
 refine wp_ret ?_
 refine x_block_r ?_
 refine x_then_r ?_
 refine e_ret1 m0 rfl rfl rfl ?_
 refine ⟨?_, i0.fr⟩
 exact congrArg Ending.returned (ret_b (by first | rfl | omega | assumption | exact decide_eq_true (by assumption) | (have i0 := d0; (try simp at i0); have m0 := j0; (try simp at m0);  omega) | (simp [d0, j0]; done) | (simp [] at *; done) | (simp [d0, j0] <;> omega) | (rw [Bool.eq_iff_iff]; simp [d0, j0] <;> omega) | (rw [Bool.eq_iff_iff]; simp [d0, j0] at * <;> omega)))
set_option maxRecDepth 100000 in
set_option maxHeartbeats 1000000 in
theorem shown12_calls (w0 : World) (Z : Nat → Prop) (hZ : ∀ k, Z k → k < w0.heap.size)  (hShp : Shapes w0 Z) :
    Calls Tryd.prog 29 [].toArray w0 (fun e w' => e = .returned (.bool (true)) ∧ Fr none_ w0 w') := by
 have b0 := s0 (M := none_) hZ (zc (d := dShapes) hShp zn)
 refine c_enter Tryd.func29 rfl Tryd.ntmps29 rfl (fun c0 d0 => ?_)
 refine wsc (fun c0 f0 => ?_)
 refine asg d0 (fun c0 h0 => ?_)
 refine wpList_nil (x_then_n (f0 _ _ ?_))
 refine wsc (fun f0 c0 => ?_)
 refine m_build (ps := [(0, .const (.int .i64 10))]) (v := .agg #[.int .i64 10, .int .i64 0, .int .i64 0, .string (⟨#[]⟩ : ByteArray)]) sv h0 rfl rfl rfl (fun _ => by kernel_rfl) (by decide) (fun f0 d0 => ?_)
 refine mbs [(0, .tmp 5)] [.int .i64 10, .int .i64 0, .int .i64 0, .string (⟨#[]⟩ : ByteArray)] sv d0 b0 Tryd.underlying22 zi39 (fun f0 h0 i0 j0 k0 => ?_)
 refine asg j0 (fun h0 f0 => ?_)
 refine wpList_nil (x_then_n (c0 _ _ ?_))
 refine wsc (fun c0 h0 => ?_)
 refine m_build (ps := [(0, .const (.int .i64 11))]) (v := .agg #[.int .i64 11, .int .i64 0, .int .i64 0, .string (⟨#[]⟩ : ByteArray)]) sv f0 rfl rfl rfl (fun _ => by kernel_rfl) (by decide) (fun c0 j0 => ?_)
 refine mbs [(0, .tmp 7)] [.int .i64 11, .int .i64 0, .int .i64 0, .string (⟨#[]⟩ : ByteArray)] sv j0 k0 Tryd.underlying22 zi39 (fun c0 f0 d0 b0 m0 => ?_)
 refine asg b0 (fun f0 c0 => ?_)
 refine wpList_nil (x_then_n (h0 _ _ ?_))
 refine wsc (fun h0 f0 => ?_)
 refine mv c0 (fun h0 b0 => ?_)
 refine mv b0 (fun h0 c0 => ?_)
 refine mv c0 (fun h0 b0 => ?_)
 have h0 := m0.nf
 have m0 := own_cap (h0.res (i := 0) rfl)
 obtain ⟨c0, j0⟩ := h0.row_data (i := 0) rfl (fun _ h => h)
 have h0 := c0.data (dRow 4 (some ⟨i0, 0, none⟩) 1 1 (encNs ([(⟨10, 0, 0, (⟨#[]⟩ : ByteArray)⟩ : Nd)]))) ⟨m0, j0⟩
 have j0 := own_cap (h0.res (i := 0) rfl)
 obtain ⟨c0, m0⟩ := h0.row_data (i := 0) rfl (fun _ h => h)
 have h0 := c0.data (dRow 4 (some ⟨d0, 0, none⟩) 1 1 (encNs ([(⟨11, 0, 0, (⟨#[]⟩ : ByteArray)⟩ : Nd)]))) ⟨j0, m0⟩
 refine k_call (xs := [.tmp 10, .tmp 11, .tmp 12, .const (.slice none 0 0)]) se b0 rfl rfl rfl (by decide) ok30 (erule0_calls _ _ h0.il _ _ ([(⟨10, 0, 0, (⟨#[]⟩ : ByteArray)⟩ : Nd)]) _ _ ([(⟨11, 0, 0, (⟨#[]⟩ : ByteArray)⟩ : Nd)]) _ _ ([(⟨11, 0, 0, (⟨#[]⟩ : ByteArray)⟩ : Nd)]) (h0.g 0) (h0.g 1) (h0.g 2) (h0.g 2) (hsa := nat_sml) (hst := (num_sml 0)) (hsu := (num_sml 0)) (hla := (by simp)) (hlt := (by simp)) (hlu := (by simp)) (hca := nat_ok.1) (hct := (num_ok 0 (by decide)).1) (hcu := (num_ok 0 (by decide)).1) (hka := (by decide)) (hnt := (num_no 0)) (hnu := (num_no 0))) ?_
 rintro b0 m0 ⟨c0, j0, rfl, d0, i0⟩
 have j0 := h0.below d0.below
 have d0 := h0.dN j0 i0
 refine ⟨_, rfl, fun j0 i0 => ?_⟩
 refine mv i0 (fun j0 h0 => ?_)
 refine r_extract sv h0 rfl rfl rfl rfl (by decide) (fun j0 i0 => ?_)
 refine r_extract sv i0 rfl rfl rfl rfl (by decide) (fun j0 h0 => ?_)
 refine asg h0 (fun j0 i0 => ?_)
 refine asg i0 (fun j0 h0 => ?_)
 refine wpList_nil (x_then_n (f0 _ _ ?_))
 refine wsc (fun f0 j0 => ?_)
 refine mv h0 (fun f0 i0 => ?_)
 refine r_eql sv i0 rfl rfl rfl rfl (by decide) (fun f0 h0 => ?_)
 refine mv h0 (fun f0 i0 => ?_)
 have f0 : ((nrE ([(⟨10, 0, 0, (⟨#[]⟩ : ByteArray)⟩ : Nd)]) ([(⟨11, 0, 0, (⟨#[]⟩ : ByteArray)⟩ : Nd)]) ([(⟨11, 0, 0, (⟨#[]⟩ : ByteArray)⟩ : Nd)]))) = 0 := en0.1
 have h0 := i0.setb (d := 18) (b := true) rfl (decide_eq_true f0)
 refine r_move (st_listV_w (wt h0)) h0 rfl rfl rfl (by decide) (fun i0 c0 => ?_)
 refine r_len (st_listV_w (wt c0)) c0 rfl rfl rfl rfl Tryd.underlying22 (by decide) (fun i0 h0 => ?_)
 refine r_eql (st_listV_w (wt h0)) h0 rfl rfl rfl rfl (by decide) (fun i0 c0 => ?_)
 refine r_pick_t sv c0 rfl rfl rfl rfl (by decide) (fun i0 h0 => ?_)
 refine mv h0 (fun i0 c0 => ?_)
 have i0 : (((nrA ([(⟨10, 0, 0, (⟨#[]⟩ : ByteArray)⟩ : Nd)]) ([(⟨11, 0, 0, (⟨#[]⟩ : ByteArray)⟩ : Nd)]) ([(⟨11, 0, 0, (⟨#[]⟩ : ByteArray)⟩ : Nd)])).length : Nat) : Int) = 1 := en0l
 have h0 := c0.setb (d := 23) (b := true) rfl (decide_eq_true i0)
 refine r_move (st_listV_w (wt h0)) h0 rfl rfl rfl (by decide) (fun c0 m0 => ?_)
 refine m_index (i := 0) (j := 0 * 4) (st_listV_w (wt m0)) m0 rfl rfl rfl rfl Tryd.underlying22 sz39 (by omega) (by omega) (nds_elem (t := nrA ([(⟨10, 0, 0, (⟨#[]⟩ : ByteArray)⟩ : Nd)]) ([(⟨11, 0, 0, (⟨#[]⟩ : ByteArray)⟩ : Nd)]) ([(⟨11, 0, 0, (⟨#[]⟩ : ByteArray)⟩ : Nd)])) (k := 0) (d0.row (i := 3) rfl).2 (by omega)).some_ rfl (by decide) (fun c0 h0 => ?_)
 refine m_fieldE (j' := 0 * 4) (st_listV_w (wt h0)) h0 rfl rfl rfl (nds_elem (t := nrA ([(⟨10, 0, 0, (⟨#[]⟩ : ByteArray)⟩ : Nd)]) ([(⟨11, 0, 0, (⟨#[]⟩ : ByteArray)⟩ : Nd)]) ([(⟨11, 0, 0, (⟨#[]⟩ : ByteArray)⟩ : Nd)])) (k := 0) (d0.row (i := 3) rfl).2 (by omega)).some_ Tryd.underlying39 rfl sz3 rfl rfl (by decide) (fun c0 m0 => ?_)
 refine m_loadE (st_listV_w (wt m0)) m0 rfl rfl rfl 0 (0 * 4) (nds_elem (t := nrA ([(⟨10, 0, 0, (⟨#[]⟩ : ByteArray)⟩ : Nd)]) ([(⟨11, 0, 0, (⟨#[]⟩ : ByteArray)⟩ : Nd)]) ([(⟨11, 0, 0, (⟨#[]⟩ : ByteArray)⟩ : Nd)])) (k := 0) (d0.row (i := 3) rfl).2 (by omega)) rfl rfl Tryd.underlying3 rfl (by decide) (fun c0 h0 => ?_)
 refine r_eql (st_listV_w (wt h0)) h0 rfl rfl rfl rfl (by decide) (fun c0 m0 => ?_)
 refine r_pick_t sv m0 rfl rfl rfl rfl (by decide) (fun c0 h0 => ?_)
 refine mv h0 (fun c0 m0 => ?_)
 have c0 : (((nth (nrA ([(⟨10, 0, 0, (⟨#[]⟩ : ByteArray)⟩ : Nd)]) ([(⟨11, 0, 0, (⟨#[]⟩ : ByteArray)⟩ : Nd)]) ([(⟨11, 0, 0, (⟨#[]⟩ : ByteArray)⟩ : Nd)])) 0).K)) = 16 := en0k
 have h0 := m0.setb (d := 30) (b := true) rfl (decide_eq_true c0)
 refine r_move (st_listV_w (wt h0)) h0 rfl rfl rfl (by decide) (fun m0 b0 => ?_)
 have m0 := d0.nf
 refine k_call (xs := [.tmp 31]) (st_list_w (wt b0)) b0 rfl rfl rfl (by decide) ok49 (elooks_calls _ _ m0.il _ _ ([(⟨10, 0, 0, (⟨#[]⟩ : ByteArray)⟩ : Nd)]) (m0.g 0) (m0.g 1) (hst := nat_sml) (hlt := (by simp)) (hct := nat_ok.1) (hk := (by decide))) ?_
 rintro b0 d0 ⟨rfl, h0⟩
 have d0 := m0.below h0.below
 refine ⟨_, rfl, fun h0 m0 => ?_⟩
 refine r_pick_t sv m0 rfl rfl rfl rfl (by decide) (fun h0 b0 => ?_)
 refine asg b0 (fun h0 m0 => ?_)
 refine wpList_nil (x_then_n (j0 _ _ ?_))
 refine wp_ret ?_
 refine e_ret1 m0 rfl rfl rfl ?_
 refine ⟨?_, d0.fr⟩
 exact congrArg Ending.returned (ret_b (by first | rfl | omega | assumption | exact decide_eq_true (by assumption) | (have d0 := f0; (try simp at d0); have m0 := i0; (try simp at m0); have j0 := c0; (try simp at j0);  omega) | (simp [f0, i0, c0]; done) | (simp [] at *; done) | (simp [f0, i0, c0] <;> omega) | (rw [Bool.eq_iff_iff]; simp [f0, i0, c0] <;> omega) | (rw [Bool.eq_iff_iff]; simp [f0, i0, c0] at * <;> omega)))
end Go.Proofs.YtcfponnkfhkbdaaDoor
/- Contracts of functions, one theorem each: what the call returns, and that nothing old is changed. Printed by gen.py. -/
namespace Go.Proofs.YtcfponnkfhkbdaaDoor
open Go Go.RowKit
set_option linter.unusedSimpArgs false
set_option linter.unusedVariables false
set_option maxRecDepth 100000 in
set_option maxHeartbeats 1000000 in
theorem rlevel_calls (w0 : World) (Z : Nat → Prop) (hZ : ∀ k, Z k → k < w0.heap.size) (n : Int)  :
    Calls Tryd.prog 111 [.int .i64 n].toArray w0 (fun e w' => e = .returned (.bool (decide (0 ≤ n) && decide (n ≤ 9))) ∧ Fr none_ w0 w') := by
 have b0 := s0 (M := none_) hZ zn
 refine c_enter Tryd.func111 rfl Tryd.ntmps111 rfl (fun c0 d0 => ?_)
 refine wsc (fun c0 f0 => ?_)
 refine asg d0 (fun c0 h0 => ?_)
 refine wpList_nil (x_then_n (f0 _ _ ?_))
 refine wsc (fun f0 c0 => ?_)
 refine mv h0 (fun f0 d0 => ?_)
 refine r_geq sv d0 rfl rfl rfl rfl (by decide) (fun f0 h0 => ?_)
 refine mv h0 (fun f0 d0 => ?_)
 refine l_join (fun ga gw => Reg ga 9 [(2, .bool false), (8, .bool ((decide (0 ≤ (n))) && (decide ((n) ≤ 9)))), (1000000, .bool false)] ∧ St w0 Z none_ gw [] []) 3 ?_ ?_
 ·
  rcases Decidable.em (0 ≤ (n)) with f0 | f0
  ·
   have h0 := d0.setb (d := 5) (b := true) rfl (decide_eq_true f0)
   refine r_move (st_listV_w (wt h0)) h0 rfl rfl rfl (by decide) (fun i0 j0 => ?_)
   refine r_leq (st_listV_w (wt j0)) j0 rfl rfl rfl rfl (by decide) (fun i0 h0 => ?_)
   refine r_pick_t sv h0 rfl rfl rfl rfl (by decide) (fun i0 j0 => ?_)
   refine wpList_nil ?_
   exact x_then_n ⟨(j0.sub (rc rfl (rc (rb rfl (by first | rfl | (simp only [decide_eq_true f0, if_pos f0, bl]; done) | (simp [f0]; done) | (simp [f0]; omega))) (rc rfl rnl)))), b0⟩
  ·
   have j0 := d0.setb (d := 5) (b := false) rfl (decide_eq_false f0)
   refine sps j0 (wff j0) (fun d0 i0 => ?_)
   refine sps i0 (wff i0) (fun d0 j0 => ?_)
   refine r_pick_f sv j0 rfl rfl rfl rfl (by decide) (fun d0 i0 => ?_)
   refine wpList_nil ?_
   exact x_then_n ⟨(i0.sub (rc rfl (rc (rb rfl (by first | rfl | (simp only [decide_eq_false f0, if_neg f0, bl]; done) | (simp [f0]; done) | (simp [f0]; omega))) (rc rfl rnl)))), b0⟩
 rintro i0 f0 ⟨b0, d0⟩
 refine asg b0 (fun f0 i0 => ?_)
 refine wpList_nil (x_then_n (c0 _ _ ?_))
 refine wp_ret ?_
 refine e_ret1 i0 rfl rfl rfl ?_
 refine ⟨?_, d0.fr⟩
 exact congrArg Ending.returned (ret_b (by first | rfl | omega | assumption | exact decide_eq_true (by assumption) | ( omega) | (simp []; done) | (simp [] at *; done) | (simp [] <;> omega) | (rw [Bool.eq_iff_iff]; simp [] <;> omega) | (rw [Bool.eq_iff_iff]; simp [] at * <;> omega)))
set_option maxRecDepth 100000 in
set_option maxHeartbeats 1000000 in
theorem rlvCheck_calls (w0 : World) (Z : Nat → Prop) (hZ : ∀ k, Z k → k < w0.heap.size) (n : Int)  :
    Calls Tryd.prog 83 [.int .i64 n].toArray w0 (fun e w' => e = .returned (.int .i64 (lvChk n)) ∧ Fr none_ w0 w') := by
 have b0 := s0 (M := none_) hZ zn
 refine c_enter Tryd.func83 rfl Tryd.ntmps83 rfl (fun c0 d0 => ?_)
 refine wsc (fun c0 f0 => ?_)
 refine asg d0 (fun c0 h0 => ?_)
 refine wpList_nil (x_then_n (f0 _ _ ?_))
 refine wp_seq_k (fun f0 c0 => ?_)
 refine wsc (fun f0 d0 => ?_)
 refine mv h0 (fun f0 i0 => ?_)
 have f0 := b0.nf
 refine k_call (xs := [.tmp 3]) se i0 rfl rfl rfl (by decide) ok111 (rlevel_calls _ _ f0.il (n)) ?_
 rintro i0 b0 ⟨rfl, h0⟩
 have b0 := f0.below h0.below
 refine ⟨_, rfl, fun h0 f0 => ?_⟩
 refine r_not sv f0 rfl rfl rfl (by decide) (fun h0 i0 => ?_)
 refine wpList_nil (x_then_n (d0 _ _ ?_))
 rcases Bool.eq_false_or_eq_true (decide (0 ≤ (n)) && decide ((n) ≤ 9)) with d0 | d0
 ·
  have h0 := and_tl d0
  have f0 := of_decide_eq_true h0
  have h0 := and_tr d0
  have j0 := of_decide_eq_true h0
  have h0 := i0.setb (d := 5) (b := false) rfl (by rw [d0]; rfl)
  refine wp_cond_false (h0.ev rfl) ?_
  refine wp_skip ?_
  refine x_then_n (c0 _ _ ?_)
  refine wsc (fun c0 k0 => ?_)
  refine asg h0 (fun c0 m0 => ?_)
  refine wpList_nil (x_then_n (k0 _ _ ?_))
  refine wp_ret ?_
  refine e_ret1 m0 rfl rfl rfl ?_
  refine ⟨?_, b0.fr⟩
  exact congrArg Ending.returned (ret_i (by have m0 := d0; (try simp at m0); have k0 := f0; (try simp at k0); have c0 := j0; (try simp at c0);  unfold lvChk; (try split) <;> first | rfl | omega))
 ·
  have c0 := d0
  try simp only [Bool.or_eq_true, Bool.and_eq_true, Bool.not_eq_true', Bool.not_eq_false', decide_eq_true_eq, decide_eq_false_iff_not, Bool.or_eq_false_iff, Bool.and_eq_false_iff] at c0
  have c0 := i0.setb (d := 5) (b := true) rfl (by rw [d0]; rfl)
  refine wp_cond_true (c0.ev rfl) ?_
  refine wsc (fun i0 k0 => ?_)
  refine asg c0 (fun i0 j0 => ?_)
  refine wpList_nil (x_then_n (k0 _ _ ?_))
  refine wp_ret ?_
  refine x_then_r ?_
  refine e_ret1 j0 rfl rfl rfl ?_
  refine ⟨?_, b0.fr⟩
  exact congrArg Ending.returned (ret_i (by have m0 := d0; (try simp at m0);  unfold lvChk; (try split) <;> first | rfl | omega))
set_option maxRecDepth 100000 in
set_option maxHeartbeats 1000000 in
theorem rletter_calls (w0 : World) (Z : Nat → Prop) (hZ : ∀ k, Z k → k < w0.heap.size) (c : Nat)  :
    Calls Tryd.prog 48 [.int .u8 ((c : Nat) : Int)].toArray w0 (fun e w' => e = .returned (.bool (letN c)) ∧ Fr none_ w0 w') := by
 have b0 := s0 (M := none_) hZ zn
 refine c_enter Tryd.func48 rfl Tryd.ntmps48 rfl (fun c0 d0 => ?_)
 refine wsc (fun c0 f0 => ?_)
 refine asg d0 (fun c0 h0 => ?_)
 refine wpList_nil (x_then_n (f0 _ _ ?_))
 refine wsc (fun f0 c0 => ?_)
 refine mv h0 (fun f0 d0 => ?_)
 refine r_geq sv d0 rfl rfl rfl rfl (by decide) (fun f0 h0 => ?_)
 refine mv h0 (fun f0 d0 => ?_)
 refine l_join (fun ga gw => Reg ga 21 [(0, .int .u8 ((c : Nat) : Int)), (2, .bool false), (8, .bool ((decide (97 ≤ ((c : Nat) : Int))) && (decide (((c : Nat) : Int) ≤ 122)))), (1000000, .bool false)] ∧ St w0 Z none_ gw [] []) 3 ?_ ?_
 ·
  rcases Decidable.em (97 ≤ ((c : Nat) : Int)) with f0 | f0
  ·
   have h0 := d0.setb (d := 5) (b := true) rfl (decide_eq_true f0)
   refine r_move (st_listV_w (wt h0)) h0 rfl rfl rfl (by decide) (fun i0 j0 => ?_)
   refine r_leq (st_listV_w (wt j0)) j0 rfl rfl rfl rfl (by decide) (fun i0 h0 => ?_)
   refine r_pick_t sv h0 rfl rfl rfl rfl (by decide) (fun i0 j0 => ?_)
   refine wpList_nil ?_
   exact x_then_n ⟨(j0.sub (rc rfl (rc rfl (rc (rb rfl (by first | rfl | (simp only [decide_eq_true f0, if_pos f0, bl]; done) | (simp [f0]; done) | (simp [f0]; omega))) (rc rfl rnl))))), b0⟩
  ·
   have j0 := d0.setb (d := 5) (b := false) rfl (decide_eq_false f0)
   refine sps j0 (wff j0) (fun d0 i0 => ?_)
   refine sps i0 (wff i0) (fun d0 j0 => ?_)
   refine r_pick_f sv j0 rfl rfl rfl rfl (by decide) (fun d0 i0 => ?_)
   refine wpList_nil ?_
   exact x_then_n ⟨(i0.sub (rc rfl (rc rfl (rc (rb rfl (by first | rfl | (simp only [decide_eq_false f0, if_neg f0, bl]; done) | (simp [f0]; done) | (simp [f0]; omega))) (rc rfl rnl))))), b0⟩
 rintro i0 f0 ⟨b0, d0⟩
 refine mv b0 (fun f0 i0 => ?_)
 refine l_join (fun ga gw => Reg ga 21 [(0, .int .u8 ((c : Nat) : Int)), (2, .bool false), (16, .bool (((decide (97 ≤ ((c : Nat) : Int))) && (decide (((c : Nat) : Int) ≤ 122))) || ((decide (65 ≤ ((c : Nat) : Int))) && (decide (((c : Nat) : Int) ≤ 90))))), (1000000, .bool false)] ∧ St w0 Z none_ gw [] []) 7 ?_ ?_
 ·
  rcases Bool.eq_false_or_eq_true (((decide (97 ≤ ((c : Nat) : Int))) && (decide (((c : Nat) : Int) ≤ 122)))) with f0 | f0
  ·
   have b0 := and_tl f0
   have j0 := of_decide_eq_true b0
   have j0 := and_tr f0
   have b0 := of_decide_eq_true j0
   have b0 := i0.setb (d := 9) (b := true) rfl f0
   refine sps b0 (wff b0) (fun j0 h0 => ?_)
   refine sps h0 (wff h0) (fun j0 b0 => ?_)
   refine sps b0 (wff b0) (fun j0 h0 => ?_)
   refine sps h0 (wu h0) (fun j0 b0 => ?_)
   refine sps b0 (wu b0) (fun j0 h0 => ?_)
   refine sps h0 (wff h0) (fun j0 b0 => ?_)
   refine r_pick_t sv b0 rfl rfl rfl rfl (by decide) (fun j0 h0 => ?_)
   refine wpList_nil ?_
   exact x_then_n ⟨(h0.sub (rc rfl (rc rfl (rc (rb rfl (by first | rfl | (simp only [f0, bl]; done) | (simp [f0]; done) | (simp [f0]; omega))) (rc rfl rnl))))), d0⟩
  ·
   have h0 := f0
   try simp only [Bool.or_eq_true, Bool.and_eq_true, Bool.not_eq_true', Bool.not_eq_false', decide_eq_true_eq, decide_eq_false_iff_not, Bool.or_eq_false_iff, Bool.and_eq_false_iff] at h0
   have h0 := i0.setb (d := 9) (b := false) rfl f0
   refine r_move (st_listV_w (wt h0)) h0 rfl rfl rfl (by decide) (fun i0 j0 => ?_)
   refine r_geq (st_listV_w (wt j0)) j0 rfl rfl rfl rfl (by decide) (fun i0 h0 => ?_)
   refine r_move (st_listV_w (wt h0)) h0 rfl rfl rfl (by decide) (fun i0 j0 => ?_)
   rcases Decidable.em (65 ≤ ((c : Nat) : Int)) with i0 | i0
   ·
    have h0 := j0.setb (d := 12) (b := true) rfl (decide_eq_true i0)
    refine r_move (st_listV_w (wt h0)) h0 rfl rfl rfl (by decide) (fun b0 k0 => ?_)
    refine r_leq (st_listV_w (wt k0)) k0 rfl rfl rfl rfl (by decide) (fun b0 h0 => ?_)
    refine r_pick_t (st_listV_w (wt h0)) h0 rfl rfl rfl rfl (by decide) (fun b0 k0 => ?_)
    refine r_pick_f sv k0 rfl rfl rfl rfl (by decide) (fun b0 h0 => ?_)
    refine wpList_nil ?_
    exact x_then_n ⟨(h0.sub (rc rfl (rc rfl (rc (rb rfl (by first | rfl | (simp only [f0, decide_eq_true i0, if_pos i0, bl]; done) | (simp [f0, i0]; done) | (simp [f0, i0]; omega))) (rc rfl rnl))))), d0⟩
   ·
    have h0 := j0.setb (d := 12) (b := false) rfl (decide_eq_false i0)
    refine sps h0 (wff h0) (fun j0 b0 => ?_)
    refine sps b0 (wff b0) (fun j0 h0 => ?_)
    refine r_pick_f (st_listV_w (wt h0)) h0 rfl rfl rfl rfl (by decide) (fun j0 b0 => ?_)
    refine r_pick_f sv b0 rfl rfl rfl rfl (by decide) (fun j0 h0 => ?_)
    refine wpList_nil ?_
    exact x_then_n ⟨(h0.sub (rc rfl (rc rfl (rc (rb rfl (by first | rfl | (simp only [f0, decide_eq_false i0, if_neg i0, bl]; done) | (simp [f0, i0]; done) | (simp [f0, i0]; omega))) (rc rfl rnl))))), d0⟩
 rintro h0 i0 ⟨f0, d0⟩
 refine mv f0 (fun i0 h0 => ?_)
 refine l_join (fun ga gw => Reg ga 21 [(2, .bool false), (20, .bool ((((decide (97 ≤ ((c : Nat) : Int))) && (decide (((c : Nat) : Int) ≤ 122))) || ((decide (65 ≤ ((c : Nat) : Int))) && (decide (((c : Nat) : Int) ≤ 90)))) || (decide (((c : Nat) : Int) = 95)))), (1000000, .bool false)] ∧ St w0 Z none_ gw [] []) 3 ?_ ?_
 ·
  rcases Bool.eq_false_or_eq_true ((((decide (97 ≤ ((c : Nat) : Int))) && (decide (((c : Nat) : Int) ≤ 122))) || ((decide (65 ≤ ((c : Nat) : Int))) && (decide (((c : Nat) : Int) ≤ 90))))) with i0 | i0
  ·
   have f0 := i0
   try simp only [Bool.or_eq_true, Bool.and_eq_true, Bool.not_eq_true', Bool.not_eq_false', decide_eq_true_eq, decide_eq_false_iff_not, Bool.or_eq_false_iff, Bool.and_eq_false_iff] at f0
   have f0 := h0.setb (d := 17) (b := true) rfl i0
   refine sps f0 (wff f0) (fun j0 b0 => ?_)
   refine sps b0 (wff b0) (fun j0 f0 => ?_)
   refine r_pick_t sv f0 rfl rfl rfl rfl (by decide) (fun j0 b0 => ?_)
   refine wpList_nil ?_
   exact x_then_n ⟨(b0.sub (rc rfl (rc (rb rfl (by first | rfl | (simp only [i0, bl]; done) | (simp [i0]; done) | (simp [i0]; omega))) (rc rfl rnl)))), d0⟩
  ·
   have b0 := or_fl i0
   have j0 := b0
   try simp only [Bool.or_eq_true, Bool.and_eq_true, Bool.not_eq_true', Bool.not_eq_false', decide_eq_true_eq, decide_eq_false_iff_not, Bool.or_eq_false_iff, Bool.and_eq_false_iff] at j0
   have j0 := or_fr i0
   have b0 := j0
   try simp only [Bool.or_eq_true, Bool.and_eq_true, Bool.not_eq_true', Bool.not_eq_false', decide_eq_true_eq, decide_eq_false_iff_not, Bool.or_eq_false_iff, Bool.and_eq_false_iff] at b0
   have b0 := h0.setb (d := 17) (b := false) rfl i0
   refine r_move (st_listV_w (wt b0)) b0 rfl rfl rfl (by decide) (fun h0 j0 => ?_)
   refine r_eql (st_listV_w (wt j0)) j0 rfl rfl rfl rfl (by decide) (fun h0 b0 => ?_)
   refine r_pick_f sv b0 rfl rfl rfl rfl (by decide) (fun h0 j0 => ?_)
   refine wpList_nil ?_
   exact x_then_n ⟨(j0.sub (rc rfl (rc (rb rfl (by first | rfl | (simp only [i0, bl]; done) | (simp [i0]; done) | (simp [i0]; omega))) (rc rfl rnl)))), d0⟩
 rintro j0 i0 ⟨d0, h0⟩
 refine asg d0 (fun i0 j0 => ?_)
 refine wpList_nil (x_then_n (c0 _ _ ?_))
 refine wp_ret ?_
 refine e_ret1 j0 rfl rfl rfl ?_
 refine ⟨?_, h0.fr⟩
 exact congrArg Ending.returned (ret_b (by first | rfl | ( rw [Bool.eq_iff_iff]; unfold letN; simp; omega)))
set_option maxRecDepth 100000 in
set_option maxHeartbeats 1000000 in
theorem rname_calls (w0 : World) (Z : Nat → Prop) (hZ : ∀ k, Z k → k < w0.heap.size) (s : ByteArray) (hs : s.size ≤ 9223372036854775807 := by first | assumption | omega | (simp; done) | (simp; omega)) :
    Calls Tryd.prog 28 [.string s].toArray w0 (fun e w' => e = .returned (.bool (nameOk s)) ∧ Fr none_ w0 w') := by
 have b0 := s0 (M := none_) hZ zn
 refine c_enter Tryd.func28 rfl Tryd.ntmps28 rfl (fun c0 d0 => ?_)
 refine wsc (fun c0 f0 => ?_)
 refine asg d0 (fun c0 h0 => ?_)
 refine wpList_nil (x_then_n (f0 _ _ ?_))
 refine wp_seq_k (fun f0 c0 => ?_)
 refine wsc (fun f0 d0 => ?_)
 refine mv h0 (fun f0 i0 => ?_)
 refine r_lenS sv i0 rfl rfl rfl rfl Tryd.underlying9 (by decide) (fun f0 h0 => ?_)
 refine r_lss sv h0 rfl rfl rfl rfl (by decide) (fun f0 i0 => ?_)
 refine mv i0 (fun f0 h0 => ?_)
 refine l_join (fun ga gw => Reg ga 41 [(0, .string s), (2, .bool false), (11, .bool ((decide (((s.size : Nat) : Int) < 1)) || (decide (16 < ((s.size : Nat) : Int))))), (1000000, .bool false)] ∧ St w0 Z none_ gw [] []) 4 ?_ ?_
 ·
  rcases Decidable.em (((s.size : Nat) : Int) < 1) with f0 | f0
  ·
   have i0 := h0.setb (d := 7) (b := true) rfl (decide_eq_true f0)
   refine sps i0 (wff i0) (fun j0 k0 => ?_)
   refine sps k0 (wff k0) (fun j0 i0 => ?_)
   refine sps i0 (wff i0) (fun j0 k0 => ?_)
   refine r_pick_t sv k0 rfl rfl rfl rfl (by decide) (fun j0 i0 => ?_)
   refine wpList_nil ?_
   exact x_then_n ⟨(i0.sub (rc rfl (rc rfl (rc (rb rfl (by first | rfl | (simp only [decide_eq_true f0, if_pos f0, bl]; done) | (simp [f0]; done) | (simp [f0]; omega))) (rc rfl rnl))))), b0⟩
  ·
   have i0 := h0.setb (d := 7) (b := false) rfl (decide_eq_false f0)
   refine r_move (st_listV_w (wt i0)) i0 rfl rfl rfl (by decide) (fun h0 j0 => ?_)
   refine r_lenS (st_listV_w (wt j0)) j0 rfl rfl rfl rfl Tryd.underlying9 (by decide) (fun h0 i0 => ?_)
   refine r_gtr (st_listV_w (wt i0)) i0 rfl rfl rfl rfl (by decide) (fun h0 j0 => ?_)
   refine r_pick_f sv j0 rfl rfl rfl rfl (by decide) (fun h0 i0 => ?_)
   refine wpList_nil ?_
   exact x_then_n ⟨(i0.sub (rc rfl (rc rfl (rc (rb rfl (by first | rfl | (simp only [decide_eq_false f0, if_neg f0, bl]; done) | (simp [f0]; done) | (simp [f0]; omega))) (rc rfl rnl))))), b0⟩
 rintro i0 f0 ⟨b0, h0⟩
 refine mv b0 (fun f0 i0 => ?_)
 refine l_join (fun ga gw => Reg ga 41 [(0, .string s), (2, .bool false), (17, .bool (((decide (((s.size : Nat) : Int) < 1)) || (decide (16 < ((s.size : Nat) : Int)))) || (!(letN (byteAt s 0))))), (1000000, .bool false)] ∧ St w0 Z none_ gw [] []) 5 ?_ ?_
 ·
  rcases Bool.eq_false_or_eq_true (((decide (((s.size : Nat) : Int) < 1)) || (decide (16 < ((s.size : Nat) : Int))))) with f0 | f0
  ·
   have b0 := f0
   try simp only [Bool.or_eq_true, Bool.and_eq_true, Bool.not_eq_true', Bool.not_eq_false', decide_eq_true_eq, decide_eq_false_iff_not, Bool.or_eq_false_iff, Bool.and_eq_false_iff] at b0
   have b0 := i0.setb (d := 12) (b := true) rfl f0
   refine sps b0 (wff b0) (fun j0 k0 => ?_)
   refine sps k0 (wff k0) (fun j0 b0 => ?_)
   refine sps b0 (wff b0) (fun j0 k0 => ?_)
   refine sps k0 (wff k0) (fun j0 b0 => ?_)
   refine r_pick_t sv b0 rfl rfl rfl rfl (by decide) (fun j0 k0 => ?_)
   refine wpList_nil ?_
   exact x_then_n ⟨(k0.sub (rc rfl (rc rfl (rc (rb rfl (by first | rfl | (simp only [f0, bl]; done) | (simp [f0]; done) | (simp [f0]; omega))) (rc rfl rnl))))), h0⟩
  ·
   have k0 := or_fl f0
   have j0 := of_decide_eq_false k0
   have j0 := or_fr f0
   have k0 := of_decide_eq_false j0
   have k0 := i0.setb (d := 12) (b := false) rfl f0
   refine r_move (st_listV_w (wt k0)) k0 rfl rfl rfl (by decide) (fun i0 j0 => ?_)
   refine r_byte (i := 0) (st_listV_w (wt j0)) j0 rfl rfl rfl rfl Tryd.underlying9 (by omega) (by omega) (by decide) (fun i0 k0 => ?_)
   have i0 := h0.nf
   refine k_call (xs := [.tmp 14]) (st_list_w (wt k0)) k0 rfl rfl rfl (by decide) ok48 (rletter_calls _ _ i0.il (byteAt s 0)) ?_
   rintro k0 h0 ⟨rfl, j0⟩
   have h0 := i0.below j0.below
   refine ⟨_, rfl, fun j0 i0 => ?_⟩
   refine r_not (st_listV_w (wt i0)) i0 rfl rfl rfl (by decide) (fun j0 k0 => ?_)
   refine r_pick_f sv k0 rfl rfl rfl rfl (by decide) (fun j0 i0 => ?_)
   refine wpList_nil ?_
   exact x_then_n ⟨(i0.sub (rc rfl (rc rfl (rc (rb rfl (by first | rfl | (simp only [f0, bl]; done) | (simp [f0]; done) | (simp [f0]; omega))) (rc rfl rnl))))), h0⟩
 rintro i0 h0 ⟨f0, j0⟩
 refine wpList_nil (x_then_n (d0 _ _ ?_))
 rcases Bool.eq_false_or_eq_true ((((decide (((s.size : Nat) : Int) < 1)) || (decide (16 < ((s.size : Nat) : Int)))) || (!(letN (byteAt s 0))))) with d0 | d0
 ·
  have h0 := d0
  try simp only [Bool.or_eq_true, Bool.and_eq_true, Bool.not_eq_true', Bool.not_eq_false', decide_eq_true_eq, decide_eq_false_iff_not, Bool.or_eq_false_iff, Bool.and_eq_false_iff] at h0
  have i0 := f0.setb (d := 17) (b := true) rfl d0
  refine wp_cond_true (i0.ev rfl) ?_
  refine wsc (fun k0 b0 => ?_)
  refine asg i0 (fun k0 m0 => ?_)
  refine wpList_nil (x_then_n (b0 _ _ ?_))
  refine wp_ret ?_
  refine x_then_r ?_
  refine e_ret1 m0 rfl rfl rfl ?_
  refine ⟨?_, j0.fr⟩
  exact congrArg Ending.returned (ret_b (by first | exact (rname_bad (k := k) (by omega) (by assumption) (by omega)).symm | exact (rname_bad0 (by rcases h0 with h | h; exact .inl (by omega); exact .inr h)).symm))
 ·
  have h0 := or_fl d0
  have m0 := or_fl h0
  have b0 := of_decide_eq_false m0
  have b0 := or_fr h0
  have h0 := of_decide_eq_false b0
  have h0 := or_fr d0
  have b0 := not_f h0
  have b0 := f0.setb (d := 17) (b := false) rfl d0
  refine wp_cond_false (b0.ev rfl) ?_
  refine wp_skip ?_
  refine x_then_n (c0 _ _ ?_)
  refine wp_seq_k (fun c0 d0 => ?_)
  refine wsc (fun c0 f0 => ?_)
  refine asg b0 (fun c0 h0 => ?_)
  refine wpList_nil (x_then_n (f0 _ _ ?_))
  refine wp_block ?_
  refine wp_loop_ghost (fun gn ga gw => ∃ k : Nat, (Reg ga 41 [(0, .string s), (1000000, .bool false), (3, .int .i64 ((k : Nat) : Int))]) ∧ (St w0 Z none_ gw [] []) ∧ (k ≤ s.size) ∧ (nameTo s k) ∧ (s.size - k) = gn) _ ⟨0, (h0.sub (rc rfl (rc rfl (rc rfl rnl)))), j0, by omega, nameTo_zero s, rfl⟩ ?_
  rintro h0 j0 f0 ⟨k, c0, b0, hk, hi, m0⟩
  refine wp_seq_k (fun m0 f0 => ?_)
  refine wsc (fun m0 j0 => ?_)
  refine mv c0 (fun m0 h0 => ?_)
  refine mv h0 (fun m0 c0 => ?_)
  refine r_lenS sv c0 rfl rfl rfl rfl Tryd.underlying9 (by decide) (fun m0 h0 => ?_)
  refine r_lss sv h0 rfl rfl rfl rfl (by decide) (fun m0 c0 => ?_)
  refine wpList_nil (x_then_n (j0 _ _ ?_))
  rcases Decidable.em (((k : Nat) : Int) < ((s.size : Nat) : Int)) with j0 | j0
  ·
   have m0 := c0.setb (d := 21) (b := true) rfl (decide_eq_true j0)
   refine wp_cond_true (m0.ev rfl) ?_
   refine wp_skip ?_
   refine x_then_n (f0 _ _ ?_)
   refine wp_seq_k (fun f0 h0 => ?_)
   refine wp_block ?_
   refine wsc (fun f0 k0 => ?_)
   refine mv m0 (fun f0 i0 => ?_)
   refine mv i0 (fun f0 m0 => ?_)
   refine r_byte (i := k) sv m0 rfl rfl rfl rfl Tryd.underlying9 (by omega) (by omega) (by decide) (fun f0 i0 => ?_)
   have f0 := b0.nf
   refine k_call (xs := [.tmp 26]) se i0 rfl rfl rfl (by decide) ok48 (rletter_calls _ _ f0.il (byteAt s k)) ?_
   rintro i0 m0 ⟨rfl, n0⟩
   have m0 := f0.below n0.below
   refine ⟨_, rfl, fun n0 f0 => ?_⟩
   refine r_not sv f0 rfl rfl rfl (by decide) (fun n0 i0 => ?_)
   refine mv i0 (fun n0 f0 => ?_)
   refine l_join (fun ga gw => Reg ga 41 [(0, .string s), (3, .int .i64 ((k : Nat) : Int)), (40, .bool ((!(letN (byteAt s k))) && ((decide (((byteAt s k : Nat) : Int) < 48)) || (decide (57 < ((byteAt s k : Nat) : Int)))))), (1000000, .bool false)] ∧ St w0 Z none_ gw [] []) 11 ?_ ?_
   ·
    rcases Bool.eq_false_or_eq_true (letN (byteAt s k)) with n0 | n0
    ·
     have i0 := f0.setb (d := 29) (b := false) rfl (by rw [n0]; rfl)
     refine sps i0 (wff i0) (fun o0 p0 => ?_)
     refine sps p0 (wff p0) (fun o0 i0 => ?_)
     refine sps i0 (wff i0) (fun o0 p0 => ?_)
     refine sps p0 (wff p0) (fun o0 i0 => ?_)
     refine sps i0 (wff i0) (fun o0 p0 => ?_)
     refine sps p0 (wu p0) (fun o0 i0 => ?_)
     refine sps i0 (wu i0) (fun o0 p0 => ?_)
     refine sps p0 (wu p0) (fun o0 i0 => ?_)
     refine sps i0 (wu i0) (fun o0 p0 => ?_)
     refine sps p0 (wff p0) (fun o0 i0 => ?_)
     refine r_pick_f sv i0 rfl rfl rfl rfl (by decide) (fun o0 p0 => ?_)
     refine wpList_nil ?_
     exact x_then_n ⟨(p0.sub (rc rfl (rc rfl (rc (rb rfl (by first | rfl | (simp only [n0, bl]; done) | (simp [n0]; done) | (simp [n0]; omega))) (rc rfl rnl))))), m0⟩
    ·
     have p0 := f0.setb (d := 29) (b := true) rfl (by rw [n0]; rfl)
     refine r_move (st_listV_w (wt p0)) p0 rfl rfl rfl (by decide) (fun f0 o0 => ?_)
     refine r_move (st_listV_w (wt o0)) o0 rfl rfl rfl (by decide) (fun f0 p0 => ?_)
     refine r_byte (i := k) (st_listV_w (wt p0)) p0 rfl rfl rfl rfl Tryd.underlying9 (by omega) (by omega) (by decide) (fun f0 o0 => ?_)
     refine r_lss (st_listV_w (wt o0)) o0 rfl rfl rfl rfl (by decide) (fun f0 p0 => ?_)
     refine r_move (st_listV_w (wt p0)) p0 rfl rfl rfl (by decide) (fun f0 o0 => ?_)
     rcases Decidable.em (((byteAt s k : Nat) : Int) < 48) with f0 | f0
     ·
      have p0 := o0.setb (d := 34) (b := true) rfl (decide_eq_true f0)
      refine sps p0 (wff p0) (fun i0 q0 => ?_)
      refine sps q0 (wff q0) (fun i0 p0 => ?_)
      refine sps p0 (wff p0) (fun i0 q0 => ?_)
      refine sps q0 (wff q0) (fun i0 p0 => ?_)
      refine r_pick_t (st_listV_w (wt p0)) p0 rfl rfl rfl rfl (by decide) (fun i0 q0 => ?_)
      refine r_pick_t sv q0 rfl rfl rfl rfl (by decide) (fun i0 p0 => ?_)
      refine wpList_nil ?_
      exact x_then_n ⟨(p0.sub (rc rfl (rc rfl (rc (rb rfl (by first | rfl | (simp only [n0, decide_eq_true f0, if_pos f0, bl]; done) | (simp [n0, f0]; done) | (simp [n0, f0]; omega))) (rc rfl rnl))))), m0⟩
     ·
      have p0 := o0.setb (d := 34) (b := false) rfl (decide_eq_false f0)
      refine r_move (st_listV_w (wt p0)) p0 rfl rfl rfl (by decide) (fun o0 i0 => ?_)
      refine r_move (st_listV_w (wt i0)) i0 rfl rfl rfl (by decide) (fun o0 p0 => ?_)
      refine r_byte (i := k) (st_listV_w (wt p0)) p0 rfl rfl rfl rfl Tryd.underlying9 (by omega) (by omega) (by decide) (fun o0 i0 => ?_)
      refine r_gtr (st_listV_w (wt i0)) i0 rfl rfl rfl rfl (by decide) (fun o0 p0 => ?_)
      refine r_pick_f (st_listV_w (wt p0)) p0 rfl rfl rfl rfl (by decide) (fun o0 i0 => ?_)
      refine r_pick_t sv i0 rfl rfl rfl rfl (by decide) (fun o0 p0 => ?_)
      refine wpList_nil ?_
      exact x_then_n ⟨(p0.sub (rc rfl (rc rfl (rc (rb rfl (by first | rfl | (simp only [n0, decide_eq_false f0, if_neg f0, bl]; done) | (simp [n0, f0]; done) | (simp [n0, f0]; omega))) (rc rfl rnl))))), m0⟩
   rintro p0 f0 ⟨n0, m0⟩
   refine wpList_nil (x_then_n (k0 _ _ ?_))
   rcases Bool.eq_false_or_eq_true (((!(letN (byteAt s k))) && ((decide (((byteAt s k : Nat) : Int) < 48)) || (decide (57 < ((byteAt s k : Nat) : Int)))))) with k0 | k0
   ·
    have f0 := and_tl k0
    have p0 := not_t f0
    have p0 := and_tr k0
    have f0 := p0
    try simp only [Bool.or_eq_true, Bool.and_eq_true, Bool.not_eq_true', Bool.not_eq_false', decide_eq_true_eq, decide_eq_false_iff_not, Bool.or_eq_false_iff, Bool.and_eq_false_iff] at f0
    have p0 := n0.setb (d := 40) (b := true) rfl k0
    refine wp_cond_true (p0.ev rfl) ?_
    refine wsc (fun o0 i0 => ?_)
    refine asg p0 (fun o0 q0 => ?_)
    refine wpList_nil (x_then_n (i0 _ _ ?_))
    refine wp_ret ?_
    refine x_block_r ?_
    refine x_then_r ?_
    refine x_then_r ?_
    refine x_block_r ?_
    refine x_then_r ?_
    refine e_ret1 q0 rfl rfl rfl ?_
    refine ⟨?_, m0.fr⟩
    exact congrArg Ending.returned (ret_b (by first | exact (rname_bad (k := k) (by omega) (by assumption) (by omega)).symm | exact (rname_bad0 (by rcases f0 with h | h; exact .inl (by omega); exact .inr h)).symm))
   ·
    have f0 := k0
    try simp only [Bool.or_eq_true, Bool.and_eq_true, Bool.not_eq_true', Bool.not_eq_false', decide_eq_true_eq, decide_eq_false_iff_not, Bool.or_eq_false_iff, Bool.and_eq_false_iff] at f0
    have q0 := n0.setb (d := 40) (b := false) rfl k0
    refine wp_cond_false (q0.ev rfl) ?_
    refine wp_skip ?_
    refine x_block_n ?_
    refine x_then_n (h0 _ _ ?_)
    refine c_region ?_
    refine mv q0 (fun h0 k0 => ?_)
    refine r_add (z := ((k + 1 : Nat) : Int)) sv k0 rfl rfl rfl rfl (by decide) (by omega) (by omega) (by omega) (fun h0 q0 => ?_)
    refine asg q0 (fun h0 k0 => ?_)
    refine wpList_nil ?_
    exact ⟨_, by omega, k + 1, (k0.sub (rc rfl (rc rfl (rc rfl rnl)))), m0, by omega, nameTo_step hi (rname_step (by assumption) (by rcases f0 with h | h; exact .inl h; exact .inr (by omega))), rfl⟩
  ·
   have k0 := c0.setb (d := 21) (b := false) rfl (decide_eq_false j0)
   refine wp_cond_false (k0.ev rfl) ?_
   refine wp_exit ?_
   refine x_then_e ?_
   refine x_then_e ?_
   refine x_block_eq ?_
   refine x_then_n (d0 _ _ ?_)
   refine wsc (fun d0 j0 => ?_)
   refine asg k0 (fun d0 c0 => ?_)
   refine wpList_nil (x_then_n (j0 _ _ ?_))
   refine wp_ret ?_
   refine e_ret1 c0 rfl rfl rfl ?_
   refine ⟨?_, b0.fr⟩
   exact congrArg Ending.returned (ret_b (by exact (rname_end hi (by omega) (by omega) (by omega)).symm))
set_option maxRecDepth 100000 in
set_option maxHeartbeats 1000000 in
theorem rplain_calls (w0 : World) (Z : Nat → Prop) (hZ : ∀ k, Z k → k < w0.heap.size) (n : Nd)  :
    Calls Tryd.prog 84 [.agg #[.int .i64 (n.K), .int .i64 (n.N), .int .i64 (n.M), .string n.S]].toArray w0 (fun e w' => e = .returned (.bool (plainB n)) ∧ Fr none_ w0 w') := by
 have b0 := s0 (M := none_) hZ zn
 refine c_enter Tryd.func84 rfl Tryd.ntmps84 rfl (fun c0 d0 => ?_)
 refine wsc (fun c0 f0 => ?_)
 refine m_box (cs := [.int .i64 (n.K), .int .i64 (n.N), .int .i64 (n.M), .string n.S]) sv d0 b0 rfl rfl rfl rfl (by decide) (fun c0 h0 i0 j0 k0 => ?_)
 refine asg j0 (fun h0 c0 => ?_)
 refine wpList_nil (x_then_n (f0 _ _ ?_))
 refine wsc (fun f0 h0 => ?_)
 refine m_field (j' := 1) sv c0 rfl rfl rfl Tryd.underlying39 rfl sz3 rfl rfl (by decide) (fun f0 j0 => ?_)
 refine m_load (i := 0) sv j0 k0 rfl rfl rfl rfl rfl Tryd.underlying3 rfl (by decide) (fun f0 c0 => ?_)
 refine r_eql sv c0 rfl rfl rfl rfl (by decide) (fun f0 j0 => ?_)
 refine mv j0 (fun f0 c0 => ?_)
 refine l_join (fun ga gw => Reg ga 16 [(1, .pointer (some ⟨i0, 0, none⟩)), (2, .bool false), (10, .bool ((decide ((n.N) = 0)) && (decide ((n.M) = 0)))), (1000000, .bool false)] ∧ St w0 Z none_ gw [.box i0 39 [.int .i64 (n.K), .int .i64 (n.N), .int .i64 (n.M), .string n.S]] []) 4 ?_ ?_
 ·
  rcases Decidable.em ((n.N) = 0) with f0 | f0
  ·
   have j0 := c0.setb (d := 6) (b := true) rfl (decide_eq_true f0)
   refine m_field (j' := 2) (st_listV_w (wt j0)) j0 rfl rfl rfl Tryd.underlying39 rfl sz3 rfl rfl (by decide) (fun d0 b0 => ?_)
   refine m_load (i := 0) (st_listV_w (wt b0)) b0 k0 rfl rfl rfl rfl rfl Tryd.underlying3 rfl (by decide) (fun d0 j0 => ?_)
   refine r_eql (st_listV_w (wt j0)) j0 rfl rfl rfl rfl (by decide) (fun d0 b0 => ?_)
   refine r_pick_t sv b0 rfl rfl rfl rfl (by decide) (fun d0 j0 => ?_)
   refine wpList_nil ?_
   exact x_then_n ⟨(j0.sub (rc rfl (rc rfl (rc (rb rfl (by first | rfl | (simp only [decide_eq_true f0, if_pos f0, bl]; done) | (simp [f0]; done) | (simp [f0]; omega))) (rc rfl rnl))))), k0⟩
  ·
   have j0 := c0.setb (d := 6) (b := false) rfl (decide_eq_false f0)
   refine sps j0 (wff j0) (fun c0 d0 => ?_)
   refine sps d0 (wff d0) (fun c0 j0 => ?_)
   refine sps j0 (wff j0) (fun c0 d0 => ?_)
   refine r_pick_f sv d0 rfl rfl rfl rfl (by decide) (fun c0 j0 => ?_)
   refine wpList_nil ?_
   exact x_then_n ⟨(j0.sub (rc rfl (rc rfl (rc (rb rfl (by first | rfl | (simp only [decide_eq_false f0, if_neg f0, bl]; done) | (simp [f0]; done) | (simp [f0]; omega))) (rc rfl rnl))))), k0⟩
 rintro j0 f0 ⟨k0, c0⟩
 refine mv k0 (fun f0 j0 => ?_)
 refine l_join (fun ga gw => Reg ga 16 [(2, .bool false), (15, .bool (((decide ((n.N) = 0)) && (decide ((n.M) = 0))) && (decide (n.S = (⟨#[]⟩ : ByteArray))))), (1000000, .bool false)] ∧ St w0 Z none_ gw [.box i0 39 [.int .i64 (n.K), .int .i64 (n.N), .int .i64 (n.M), .string n.S]] []) 4 ?_ ?_
 ·
  rcases Bool.eq_false_or_eq_true (((decide ((n.N) = 0)) && (decide ((n.M) = 0)))) with i0 | i0
  ·
   have f0 := and_tl i0
   have k0 := of_decide_eq_true f0
   have k0 := and_tr i0
   have f0 := of_decide_eq_true k0
   have f0 := j0.setb (d := 11) (b := true) rfl i0
   refine m_field (j' := 3) (st_listV_w (wt f0)) f0 rfl rfl rfl Tryd.underlying39 rfl sz9 rfl rfl (by decide) (fun k0 d0 => ?_)
   refine m_load (i := 0) (st_listV_w (wt d0)) d0 c0 rfl rfl rfl rfl rfl Tryd.underlying9 rfl (by decide) (fun k0 f0 => ?_)
   refine r_eqlS (st_listV_w (wt f0)) f0 rfl rfl rfl rfl (by decide) (fun k0 d0 => ?_)
   refine r_pick_t sv d0 rfl rfl rfl rfl (by decide) (fun k0 f0 => ?_)
   refine wpList_nil ?_
   exact x_then_n ⟨(f0.sub (rc rfl (rc (rb rfl (by first | rfl | (simp only [i0, bl]; done) | (simp [i0]; done) | (simp [i0]; omega))) (rc rfl rnl)))), c0⟩
  ·
   have f0 := i0
   try simp only [Bool.or_eq_true, Bool.and_eq_true, Bool.not_eq_true', Bool.not_eq_false', decide_eq_true_eq, decide_eq_false_iff_not, Bool.or_eq_false_iff, Bool.and_eq_false_iff] at f0
   have f0 := j0.setb (d := 11) (b := false) rfl i0
   refine sps f0 (wff f0) (fun j0 k0 => ?_)
   refine sps k0 (wff k0) (fun j0 f0 => ?_)
   refine sps f0 (wff f0) (fun j0 k0 => ?_)
   refine r_pick_f sv k0 rfl rfl rfl rfl (by decide) (fun j0 f0 => ?_)
   refine wpList_nil ?_
   exact x_then_n ⟨(f0.sub (rc rfl (rc (rb rfl (by first | rfl | (simp only [i0, bl]; done) | (simp [i0]; done) | (simp [i0]; omega))) (rc rfl rnl)))), c0⟩
 rintro f0 i0 ⟨c0, j0⟩
 refine asg c0 (fun i0 f0 => ?_)
 refine wpList_nil (x_then_n (h0 _ _ ?_))
 refine wp_ret ?_
 refine e_ret1 f0 rfl rfl rfl ?_
 refine ⟨?_, j0.fr⟩
 exact congrArg Ending.returned (ret_b (by first | rfl | (unfold plainB; rw [Bool.and_assoc]; done) | ( rw [Bool.eq_iff_iff]; unfold plainB; simp [])))
end Go.Proofs.YtcfponnkfhkbdaaDoor
