import Derived.Test.YtobgdeffhdefeaaDoorZte
/- Contracts of functions, one theorem each: what the call returns, and that nothing old is changed. Printed by gen.py. -/
namespace Go.Proofs.YtobgdeffhdefeaaDoor
open Go Go.RowKit
set_option linter.unusedSimpArgs false
set_option linter.unusedVariables false
set_option maxRecDepth 100000 in
set_option maxHeartbeats 8000000 in
theorem csig_calls (w0 : World) (Z : Nat → Prop) (hZ : ∀ k, Z k → k < w0.heap.size) (cg : Nat) (ce : Int) (caA : Option Addr) (cac : Nat) (ca : List Nd) (cbA : Option Addr) (cbc : Nat) (cb : List Nd) (ctA : Option Addr) (ctc : Nat) (ct : List Nd) (cn : Nd) (hShp : Shapes w0 Z) (hc : (Res.box cg 74 [.int .i64 (ce), .slice caA ca.length cac, .slice cbA cb.length cbc, .slice ctA ct.length ctc, .int .i64 (cn.K), .int .i64 (cn.N), .int .i64 (cn.M), .string cn.S]).holds w0) (hcz : ¬ Z cg) (hca : (dRow 4 caA ca.length cac (encNs ca)).φ w0 Z) (hcb : (dRow 4 cbA cb.length cbc (encNs cb)).φ w0 Z) (hct : (dRow 4 ctA ct.length ctc (encNs ct)).φ w0 Z) (hsa : sml ca := by first | assumption | omega | (simp; done) | (simp; omega)) (hsb : sml cb := by first | assumption | omega | (simp; done) | (simp; omega)) (hst : sml ct := by first | assumption | omega | (simp; done) | (simp; omega)) (hla : ca.length ≤ 5000 := by first | assumption | omega | (simp; done) | (simp; omega)) (hlb : cb.length ≤ 5000 := by first | assumption | omega | (simp; done) | (simp; omega)) (hlt : ct.length ≤ 5000 := by first | assumption | omega | (simp; done) | (simp; omega)) (hka : chk ca = 0 := by first | assumption | omega | (simp; done) | (simp; omega)) (hkb : chk cb = 0 := by first | assumption | omega | (simp; done) | (simp; omega)) (hkt : chk ct = 0 := by first | assumption | omega | (simp; done) | (simp; omega)) (hna : nth ca (ca.length - 1) = cn := by first | assumption | omega | (simp; done) | (simp; omega)) (hnb : nth cb (cb.length - 1) = cn := by first | assumption | omega | (simp; done) | (simp; omega)) (hk : cn.K = 6 := by first | assumption | omega | (simp; done) | (simp; omega)) (h0 : 0 ≤ cn.N := by first | assumption | omega | (simp; done) | (simp; omega)) (h4 : cn.N < 4 := by first | assumption | omega | (simp; done) | (simp; omega)) :
    Calls Tryd.prog 89 [.pointer (some ⟨cg, 0, none⟩)].toArray w0 (fun e w' => ∃ (rA0 : Option Addr) (rc0 : Nat) (rL0 : List Nd), e = .returned (.slice rA0 rL0.length rc0) ∧ Fr (· = cg) w0 w' ∧ (Res.box cg 74 [.int .i64 ((sgE ce (agA ca) (agA cb) ct cn.N)), .slice caA ca.length cac, .slice cbA cb.length cbc, .slice ctA ct.length ctc, .int .i64 (cn.K), .int .i64 (cn.N), .int .i64 (cn.M), .string cn.S]).holds w' ∧ (dRow 4 rA0 rL0.length rc0 (encNs rL0)).φ w' (nxt Z w0 w') ∧ rL0 = sgL ce (agA ca) (agA cb) cb ct cn.N) := by
 have b0 := sM hc hcz hZ (zc (d := dShapes) hShp (zc hca (zc hcb (zc hct zn))))
 have hma : many (nth ca (ca.length - 1)) = 2 := by rw [hna]; exact many_6 hk
 have hmb : many (nth cb (cb.length - 1)) = 2 := by rw [hnb]; exact many_6 hk
 refine c_enter Tryd.func89 rfl Tryd.ntmps89 rfl (fun c0 d0 => ?_)
 refine wsc (fun c0 f0 => ?_)
 refine asg d0 (fun c0 i0 => ?_)
 refine wpList_nil (x_then_n (f0 _ _ ?_))
 refine wp_seq_k (fun f0 c0 => ?_)
 obtain ⟨f0, d0, j0⟩ := b0.agree
 refine d_reg3 (n := 18) j0 4 (pB 0 1 pn) (pan_then pan_body) (fun d0 f0 b0 k0 m0 n0 => ?_)
 refine dtM 0 f0 i0 n0 (fun k0 d0 => ?_)
 refine dtN 1 f0 d0 n0 (fun k0 i0 => ?_)
 refine dtF 2 0 f0 i0 n0 Tryd.underlying74 sz72 (fun k0 d0 => ?_)
 refine dtM 3 f0 d0 n0 (fun k0 i0 => ?_)
 refine dtN 4 f0 i0 n0 (fun k0 d0 => ?_)
 refine dtF 5 1 f0 d0 n0 Tryd.underlying74 sz22 (fun k0 i0 => ?_)
 refine dtC 6 0 f0 i0 n0 Tryd.underlying22 (fun k0 d0 => ?_)
 refine dtM 8 f0 d0 n0 (fun k0 i0 => ?_)
 refine dtN 9 f0 i0 n0 (fun k0 d0 => ?_)
 refine dtF 10 0 f0 d0 n0 Tryd.underlying74 sz72 (fun k0 i0 => ?_)
 refine dtM 11 f0 i0 n0 (fun k0 d0 => ?_)
 refine dtN 12 f0 d0 n0 (fun k0 i0 => ?_)
 refine dtF 13 2 f0 i0 n0 Tryd.underlying74 sz22 (fun k0 d0 => ?_)
 refine dtC 14 1 f0 d0 n0 Tryd.underlying22 (fun k0 i0 => ?_)
 refine d1 7 ?_
 have k0 := m0.nf
 refine k_call (xs := [.tmp 10, .tmp 14]) (st_op rfl (want_n rfl)) i0 rfl rfl rfl (by decide) ok92 (parts_calls _ _ k0.il _ _ _ _ _ _ _ (k0.g 0) (k0.z 0) (imm_box (i := 0) rfl) (k0.g 1)) ?_
 rintro i0 m0 ⟨d0, n0, j0, rfl, o0, p0, q0, s0, t0⟩
 have n0 := k0.callM (i := 0) rfl o0 p0
 have p0 := k0.dM 0 n0 q0
 have n0 := k0.dM 0 p0 s0
 refine ⟨_, rfl, fun p0 s0 => ?_⟩
 obtain ⟨p0, k0, q0, o0⟩ := agA_at hka hsa t0 (k := 0) (by omega)
 obtain ⟨o0, q0, k0, p0⟩ := agA_at hka hsa t0 (k := 1) (by omega)
 have p0 := sWI n0 4 (pB 0 1 pn)
 refine ⟨p0, ?_⟩
 refine d1 15 ?_
 have p0 := n0.nf
 refine k_call (xs := [.tmp 18, .tmp 22]) (st_op rfl (want_n rfl)) s0 rfl rfl rfl (by decide) ok92 (parts_calls _ _ p0.il _ _ _ _ _ _ _ (p0.g 0) (p0.z 0) (imm_box (i := 0) rfl) (p0.g 2)) ?_
 rintro s0 n0 ⟨k0, q0, o0, rfl, d0, m0, i0, u0, v0⟩
 have q0 := p0.callM (i := 0) rfl d0 m0
 have m0 := p0.dM 0 q0 i0
 have q0 := p0.dM 0 m0 u0
 refine ⟨_, rfl, fun m0 u0 => ?_⟩
 obtain ⟨m0, p0, i0, d0⟩ := agA_at hkb hsb v0 (k := 0) (by omega)
 obtain ⟨d0, i0, p0, m0⟩ := agA_at hkb hsb v0 (k := 1) (by omega)
 have m0 := sWI q0 4 (pB 0 1 pn)
 refine ⟨m0, ?_⟩
 refine dtA 16 f0 u0 m0 (fun p0 i0 => ?_)
 refine dtA 17 f0 i0 m0 (fun p0 u0 => ?_)
 refine wpAnyH_done (by kernel_rfl) (b0 _ _ ?_) _
 refine x_then_n (c0 _ _ ?_)
 refine wp_seq_k (fun c0 b0 => ?_)
 obtain ⟨c0, p0, i0⟩ := q0.agree
 refine d_reg3 (n := 20) i0 9 (pB 0 1 pn) (pan_then pan_body) (fun p0 c0 q0 m0 f0 d0 => ?_)
 refine dtM 0 c0 u0 d0 (fun m0 p0 => ?_)
 refine dtN 1 c0 p0 d0 (fun m0 u0 => ?_)
 refine dtF 2 0 c0 u0 d0 Tryd.underlying74 sz72 (fun m0 p0 => ?_)
 refine dtM 3 c0 p0 d0 (fun m0 u0 => ?_)
 refine dtN 4 c0 u0 d0 (fun m0 p0 => ?_)
 refine dtF 5 4 c0 p0 d0 Tryd.underlying74 sz32 (fun m0 u0 => ?_)
 refine dtF 6 5 c0 u0 d0 Tryd.underlying32 sz3 (fun m0 p0 => ?_)
 refine dtC 7 4 c0 p0 d0 Tryd.underlying3 (fun m0 u0 => ?_)
 refine dtM 8 c0 u0 d0 (fun m0 p0 => ?_)
 refine dtN 9 c0 p0 d0 (fun m0 u0 => ?_)
 refine dtF 10 0 c0 u0 d0 Tryd.underlying74 sz72 (fun m0 p0 => ?_)
 refine dt 11 rfl c0 p0 (want_n rfl) (fun x hx => m_build (ps := [(0, .const (.int .i64 8))]) (v := .agg #[.int .i64 8, .int .i64 0, .int .i64 0, .string (⟨#[]⟩ : ByteArray)]) (sy p0) p0 rfl rfl rfl (fun _ => by kernel_rfl) (by decide) gt) d0 (fun m0 u0 => ?_)
 refine dtM 12 c0 u0 d0 (fun m0 p0 => ?_)
 refine dtN 13 c0 p0 d0 (fun m0 u0 => ?_)
 refine dtF 14 3 c0 u0 d0 Tryd.underlying74 sz22 (fun m0 p0 => ?_)
 refine dtC 15 2 c0 p0 d0 Tryd.underlying22 (fun m0 u0 => ?_)
 refine d1 16 ?_
 have m0 := f0.data (dAll [((ctA, ctc, ct) : Sl)]) (all_cons (f0.get (i := 3) rfl) all_nil)
 refine mbs [(0, .tmp 39)] [.slice ctA ct.length ctc] (st_opV rfl (want_n rfl)) u0 m0 Tryd.underlying39 zi22 (fun f0 p0 d0 i0 k0 => ?_)
 have p0 := sWI k0 9 (pB 0 1 pn)
 refine ⟨p0, ?_⟩
 refine d1 17 ?_
 have p0 := k0.nf
 have k0 := own_cap (p0.res (i := 1) rfl)
 obtain ⟨f0, m0⟩ := p0.row_dataM (i := 1) rfl (j := 0) rfl (by decide)
 have p0 := f0.data (dRow 1 (some ⟨d0, 0, none⟩) 1 1 (encSs ([((ctA, ctc, ct) : Sl)]))) ⟨k0, m0⟩
 refine k_call (xs := [.tmp 34, .tmp 35, .tmp 40]) (st_op rfl (want_n rfl)) i0 rfl rfl rfl (by decide) ok93 (node_calls _ _ p0.il _ _ _ _ (⟨8, 0, 0, (⟨#[]⟩ : ByteArray)⟩ : Nd) _ _ ([((ctA, ctc, ct) : Sl)]) (p0.z 0) (imm_box (i := 0) rfl) (p0.g 11) (p0.g 10) (hb := (by simp; omega))) ?_
 rintro i0 m0 ⟨f0, k0, d0, rfl, u0, n0, s0, x0⟩
 have d0 := p0.callM (i := 0) rfl u0 n0
 have n0 := p0.dM 0 d0 s0
 refine ⟨_, rfl, fun d0 s0 => ?_⟩
 obtain ⟨d0, p0⟩ := noZ1 x0 (by first | decide | assumption) (by assumption)
 have p0 := sWI n0 9 (pB 0 1 pn)
 refine ⟨p0, ?_⟩
 refine d1 18 ?_
 have p0 := n0.nf
 refine k_call (xs := [.tmp 26, .tmp 31, .tmp 41]) (st_op rfl (want_n rfl)) s0 rfl rfl rfl (by decide) ok118 (place_calls _ _ p0.il _ _ _ _ (cn.N) _ _ _ (p0.z 0) (imm_box (i := 0) rfl) (p0.g 12)) ?_
 rintro s0 n0 ⟨d0, u0, k0, rfl, f0, m0, i0, y0⟩
 have n0 := p0.callM (i := 0) rfl f0 m0
 have m0 := p0.dM 0 n0 i0
 refine ⟨_, rfl, fun n0 i0 => ?_⟩
 obtain ⟨n0, p0⟩ := plZ y0 (by assumption)
 have p0 := sWI m0 9 (pB 0 1 pn)
 refine ⟨p0, ?_⟩
 refine dtA 19 c0 i0 p0 (fun n0 f0 => ?_)
 refine wpAnyH_done (by kernel_rfl) (q0 _ _ ?_) _
 refine x_then_n (b0 _ _ ?_)
 refine wp_seq_k (fun b0 q0 => ?_)
 obtain ⟨b0, n0, p0⟩ := m0.agree
 refine d_reg3 (n := 21) p0 14 (pB 0 1 pn) (pan_then pan_body) (fun b0 m0 i0 c0 s0 z0 => ?_)
 refine dtM 0 m0 f0 z0 (fun c0 b0 => ?_)
 refine dtN 1 m0 b0 z0 (fun c0 f0 => ?_)
 refine dtF 2 0 m0 f0 z0 Tryd.underlying74 sz72 (fun c0 b0 => ?_)
 refine dtM 3 m0 b0 z0 (fun c0 f0 => ?_)
 refine dtN 4 m0 f0 z0 (fun c0 b0 => ?_)
 refine dtF 5 4 m0 b0 z0 Tryd.underlying74 sz32 (fun c0 f0 => ?_)
 refine dtF 6 5 m0 f0 z0 Tryd.underlying32 sz3 (fun c0 b0 => ?_)
 refine dtC 7 4 m0 b0 z0 Tryd.underlying3 (fun c0 f0 => ?_)
 refine dtM 8 m0 f0 z0 (fun c0 b0 => ?_)
 refine dtN 9 m0 b0 z0 (fun c0 f0 => ?_)
 refine dtF 10 0 m0 f0 z0 Tryd.underlying74 sz72 (fun c0 b0 => ?_)
 refine dtM 11 m0 b0 z0 (fun c0 f0 => ?_)
 refine dt 12 rfl m0 f0 (want_n rfl) (fun x hx => m_index (i := 0) (j := 0 * 1) (sy f0) f0 rfl rfl rfl rfl Tryd.underlying39 sz22 (by omega) (by omega) (ss_elem (t := j0) (k := 0) (sdat (n0 5 _ rfl) hx.ag).2 (by omega)).some_ rfl (by decide) gt) z0 (fun c0 b0 => ?_)
 refine dt 13 rfl m0 b0 (want_n rfl) (fun x hx => m_loadE (sy b0) b0 rfl rfl rfl 0 (0 * 1) (ss_elem (t := j0) (k := 0) (sdat (n0 5 _ rfl) hx.ag).2 (by omega)) rfl rfl Tryd.underlying22 rfl (by decide) gt) z0 (fun c0 f0 => ?_)
 have c0 := s0.data (dRow 4 ((nthS j0 0).1) ((nthS j0 0).2.2.length) ((nthS j0 0).2.1) (encNs ((nthS j0 0).2.2))) (all_at (t := j0) (k := 0) (s0.get (i := 6) rfl) (by omega))
 refine dtM 14 m0 f0 z0 (fun s0 b0 => ?_)
 refine dt 15 rfl m0 b0 (want_n rfl) (fun x hx => m_index (i := 0) (j := 0 * 1) (sy b0) b0 rfl rfl rfl rfl Tryd.underlying39 sz22 (by omega) (by omega) (ss_elem (t := o0) (k := 0) (sdat (n0 7 _ rfl) hx.ag).2 (by omega)).some_ rfl (by decide) gt) z0 (fun s0 f0 => ?_)
 refine dt 16 rfl m0 f0 (want_n rfl) (fun x hx => m_loadE (sy f0) f0 rfl rfl rfl 0 (0 * 1) (ss_elem (t := o0) (k := 0) (sdat (n0 7 _ rfl) hx.ag).2 (by omega)) rfl rfl Tryd.underlying22 rfl (by decide) gt) z0 (fun s0 b0 => ?_)
 have s0 := c0.data (dRow 4 ((nthS o0 0).1) ((nthS o0 0).2.2.length) ((nthS o0 0).2.1) (encNs ((nthS o0 0).2.2))) (all_at (t := o0) (k := 0) (c0.get (i := 8) rfl) (by omega))
 refine dtM 17 m0 b0 z0 (fun c0 f0 => ?_)
 refine d1 18 ?_
 have c0 := s0.nf
 refine k_call (xs := [.tmp 53, .tmp 56, .tmp 59, .tmp 60]) (st_op rfl (want_n rfl)) f0 rfl rfl rfl (by decide) ok94 (cast_calls _ _ c0.il _ _ _ _ _ _ ((nthS j0 0).2.2) _ _ ((nthS o0 0).2.2) _ _ _ (c0.z 0) (imm_box (i := 0) rfl) (c0.g 15) (c0.g 16) (c0.g 13)) ?_
 rintro f0 s0 ⟨b0, z0, n0, rfl, p0, b1, c1, f1⟩
 have n0 := c0.callM (i := 0) rfl p0 b1
 have b1 := c0.dM 0 n0 c1
 refine ⟨_, rfl, fun n0 c1 => ?_⟩
 obtain ⟨n0, c0⟩ := caZ f1 (by assumption) (by assumption) (by assumption)
 have c0 := sWI b1 14 (pB 0 1 pn)
 refine ⟨c0, ?_⟩
 refine d1 19 ?_
 have c0 := b1.nf
 refine k_call (xs := [.tmp 45, .tmp 50, .tmp 61]) (st_op rfl (want_n rfl)) c1 rfl rfl rfl (by decide) ok118 (place_calls _ _ c0.il _ _ _ _ (cn.N) _ _ _ (c0.z 0) (imm_box (i := 0) rfl) (c0.g 17)) ?_
 rintro c1 b1 ⟨n0, p0, z0, rfl, b0, s0, f0, h1⟩
 have b1 := c0.callM (i := 0) rfl b0 s0
 have s0 := c0.dM 0 b1 f0
 refine ⟨_, rfl, fun b1 f0 => ?_⟩
 obtain ⟨b1, c0⟩ := plZ h1 (by assumption)
 have c0 := sWI s0 14 (pB 0 1 pn)
 refine ⟨c0, ?_⟩
 refine dtA 20 m0 f0 c0 (fun b1 b0 => ?_)
 refine wpAnyH_done (by kernel_rfl) (i0 _ _ ?_) _
 refine x_then_n (q0 _ _ ?_)
 refine wsc (fun q0 i0 => ?_)
 refine mv b0 (fun q0 b1 => ?_)
 refine r_nilCheck sv b1 rfl rfl rfl (by decide) (fun q0 b0 => ?_)
 refine m_field (j' := 0) sv b0 rfl rfl rfl Tryd.underlying74 rfl sz72 rfl rfl (by decide) (fun q0 b1 => ?_)
 have q0 := s0.nf
 refine k_call (xs := [.tmp 65]) se b1 rfl rfl rfl (by decide) ok82 (tick_calls _ _ q0.il _ _ _ _ (q0.z 0) (imm_box (i := 0) rfl)) ?_
 rintro b1 s0 ⟨b0, c0, f0, rfl, m0, c1, i1, j1⟩
 have s0 := q0.callM (i := 0) rfl m0 c1
 have c1 := q0.dM 0 s0 i1
 refine ⟨_, rfl, fun s0 i1 => ?_⟩
 obtain ⟨s0, q0⟩ := noZ0 j1 (by decide)
 refine asg i1 (fun q0 s0 => ?_)
 refine wpList_nil (x_then_n (i0 _ _ ?_))
 refine wp_seq_k (fun i0 q0 => ?_)
 refine wsc (fun i0 i1 => ?_)
 refine mv s0 (fun i0 m0 => ?_)
 refine r_nilCheck sv m0 rfl rfl rfl (by decide) (fun i0 s0 => ?_)
 refine m_field (j' := 4) sv s0 rfl rfl rfl Tryd.underlying74 rfl sz32 rfl rfl (by decide) (fun i0 m0 => ?_)
 refine m_field (j' := 5) sv m0 rfl rfl rfl Tryd.underlying32 rfl sz3 rfl rfl (by decide) (fun i0 s0 => ?_)
 refine m_load (i := 0) sv s0 c1 rfl rfl rfl rfl rfl Tryd.underlying3 rfl (by decide) (fun i0 m0 => ?_)
 refine r_int (v := .int .i64 ((bandI (cn.N) 1))) sv m0 rfl rfl rfl rfl (by decide) (run_andI (b := 1) (by omega) (by omega) (by decide)) (fun i0 s0 => ?_)
 refine r_eql sv s0 rfl rfl rfl rfl (by decide) (fun i0 m0 => ?_)
 refine wpList_nil (x_then_n (i1 _ _ ?_))
 rcases Decidable.em (((bandI (cn.N) 1)) = 0) with i1 | i1
 ·
  have i0 := m0.setb (d := 73) (b := true) rfl (decide_eq_true i1)
  refine wp_cond_true (i0.ev rfl) ?_
  obtain ⟨s0, b1, k1⟩ := c1.agree
  refine d_reg3 (n := 33) k1 20 (pB 0 1 pn) (pan_then pan_body) (fun s0 m1 n1 o1 p1 q1 => ?_)
  refine dtM 0 m1 i0 q1 (fun o1 s0 => ?_)
  refine dtN 1 m1 s0 q1 (fun o1 i0 => ?_)
  refine dtF 2 0 m1 i0 q1 Tryd.underlying74 sz72 (fun o1 s0 => ?_)
  refine dtM 3 m1 s0 q1 (fun o1 i0 => ?_)
  refine dtN 4 m1 i0 q1 (fun o1 s0 => ?_)
  refine dtF 5 0 m1 s0 q1 Tryd.underlying74 sz72 (fun o1 i0 => ?_)
  refine dtM 6 m1 i0 q1 (fun o1 s0 => ?_)
  refine dt 7 rfl m1 s0 (want_n rfl) (fun x hx => m_index (i := 1) (j := 1 * 1) (sy s0) s0 rfl rfl rfl rfl Tryd.underlying39 sz22 (by omega) (by omega) (ss_elem (t := j0) (k := 1) (sdat (b1 5 _ rfl) hx.ag).2 (by omega)).some_ rfl (by decide) gt) q1 (fun o1 i0 => ?_)
  refine dt 8 rfl m1 i0 (want_n rfl) (fun x hx => m_loadE (sy i0) i0 rfl rfl rfl 0 (1 * 1) (ss_elem (t := j0) (k := 1) (sdat (b1 5 _ rfl) hx.ag).2 (by omega)) rfl rfl Tryd.underlying22 rfl (by decide) gt) q1 (fun o1 s0 => ?_)
  have o1 := p1.data (dRow 4 ((nthS j0 1).1) ((nthS j0 1).2.2.length) ((nthS j0 1).2.1) (encNs ((nthS j0 1).2.2))) (all_at (t := j0) (k := 1) (p1.get (i := 6) rfl) (by omega))
  refine dtM 9 m1 s0 q1 (fun p1 i0 => ?_)
  refine dtM 12 m1 i0 q1 (fun p1 s0 => ?_)
  refine dtN 13 m1 s0 q1 (fun p1 i0 => ?_)
  refine dtF 14 0 m1 i0 q1 Tryd.underlying74 sz72 (fun p1 s0 => ?_)
  refine dtM 15 m1 s0 q1 (fun p1 i0 => ?_)
  refine dt 16 rfl m1 i0 (want_n rfl) (fun x hx => m_index (i := 1) (j := 1 * 1) (sy i0) i0 rfl rfl rfl rfl Tryd.underlying39 sz22 (by omega) (by omega) (ss_elem (t := o0) (k := 1) (sdat (b1 7 _ rfl) hx.ag).2 (by omega)).some_ rfl (by decide) gt) q1 (fun p1 s0 => ?_)
  refine dt 17 rfl m1 s0 (want_n rfl) (fun x hx => m_loadE (sy s0) s0 rfl rfl rfl 0 (1 * 1) (ss_elem (t := o0) (k := 1) (sdat (b1 7 _ rfl) hx.ag).2 (by omega)) rfl rfl Tryd.underlying22 rfl (by decide) gt) q1 (fun p1 i0 => ?_)
  have p1 := o1.data (dRow 4 ((nthS o0 1).1) ((nthS o0 1).2.2.length) ((nthS o0 1).2.1) (encNs ((nthS o0 1).2.2))) (all_at (t := o0) (k := 1) (o1.get (i := 8) rfl) (by omega))
  refine dtM 18 m1 i0 q1 (fun o1 s0 => ?_)
  refine dtM 21 m1 s0 q1 (fun o1 i0 => ?_)
  refine dtN 22 m1 i0 q1 (fun o1 s0 => ?_)
  refine dtF 23 0 m1 s0 q1 Tryd.underlying74 sz72 (fun o1 i0 => ?_)
  refine dt 24 rfl m1 i0 (want_n rfl) (fun x hx => m_build (ps := [(0, .const (.int .i64 9))]) (v := .agg #[.int .i64 9, .int .i64 0, .int .i64 0, .string (⟨#[]⟩ : ByteArray)]) (sy i0) i0 rfl rfl rfl (fun _ => by kernel_rfl) (by decide) gt) q1 (fun o1 s0 => ?_)
  refine dtM 25 m1 s0 q1 (fun o1 i0 => ?_)
  refine dtN 26 m1 i0 q1 (fun o1 s0 => ?_)
  refine dtF 27 3 m1 s0 q1 Tryd.underlying74 sz22 (fun o1 i0 => ?_)
  refine dtC 28 2 m1 i0 q1 Tryd.underlying22 (fun o1 s0 => ?_)
  refine wpAnyH_all (rs := [10, 19, 29]) (by kernel_rfl) (by simp) ?_
  rintro i o1
  simp only [List.mem_cons, List.not_mem_nil, or_false] at o1
  rcases o1 with rfl | rfl | rfl
  ·
   have o1 := p1.data (dAll [((d0, u0, k0) : Sl)]) (all_cons (p1.get (i := 13) rfl) all_nil)
   refine mbs [(0, .tmp 83)] [.slice d0 k0.length u0] (st_opV rfl (want_n rfl)) s0 o1 Tryd.underlying39 zi22 (fun i0 q1 b1 k1 s1 => ?_)
   have q1 := sWI s1 20 (pB 0 1 pn)
   refine ⟨q1, ?_⟩
   refine wpAnyH_all (rs := [11, 19, 29]) (by kernel_rfl) (by simp) ?_
   rintro i q1
   simp only [List.mem_cons, List.not_mem_nil, or_false] at q1
   rcases q1 with rfl | rfl | rfl
   ·
    have q1 := s1.nf
    have i0 := own_cap (q1.res (i := 1) rfl)
    obtain ⟨o1, t1⟩ := q1.row_dataM (i := 1) rfl (j := 0) rfl (by decide)
    have q1 := o1.data (dRow 1 (some ⟨b1, 0, none⟩) 1 1 (encSs ([((d0, u0, k0) : Sl)]))) ⟨i0, t1⟩
    refine k_call (xs := [.tmp 79, .tmp 82, .tmp 84]) (st_op rfl (want_n rfl)) k1 rfl rfl rfl (by decide) ok121 (minst_calls _ _ q1.il _ _ _ _ _ _ ((nthS j0 1).2.2) _ _ ([((d0, u0, k0) : Sl)]) (q1.g 0) (q1.z 0) (imm_box (i := 0) rfl) (q1.g 21) (q1.g 24) (q1.g 23) (hsm := (by assumption)) (hl := (by omega)) (hls := (by simp only [lsts, List.map_cons, List.map_nil, List.mem_cons, List.not_mem_nil, or_false, forall_eq_or_imp, forall_eq]; first | assumption | omega | (and_intros <;> first | assumption | omega))) (hlb := (by simp only [lsts, List.map_cons, List.map_nil, List.mem_cons, List.not_mem_nil, or_false, forall_eq_or_imp, forall_eq]; first | assumption | omega | (and_intros <;> first | assumption | omega))) (hl0 := (by simp))) ?_
    rintro t1 o1 ⟨i0, u1, v1, rfl, x1, y1, z1, b2⟩
    have v1 := q1.callM (i := 0) rfl x1 y1
    have y1 := q1.dM 0 v1 z1
    refine ⟨_, rfl, fun v1 z1 => ?_⟩
    obtain ⟨v1, q1⟩ := inZ b2 (by assumption) (by simp only [lsts, List.map_cons, List.map_nil, List.mem_cons, List.not_mem_nil, or_false, forall_eq_or_imp, forall_eq]; first | assumption | (and_intros <;> assumption))
    have q1 := sWI y1 20 (pB 0 1 pn)
    refine ⟨q1, ?_⟩
    refine wpAnyH_all (rs := [19, 29]) (by kernel_rfl) (by simp) ?_
    rintro i q1
    simp only [List.mem_cons, List.not_mem_nil, or_false] at q1
    rcases q1 with rfl | rfl
    ·
     have q1 := y1.data (dAll [((n0, p0, z0) : Sl)]) (all_cons (y1.get (i := 18) rfl) all_nil)
     refine mbs [(0, .tmp 92)] [.slice n0 z0.length p0] (st_opV rfl (want_n rfl)) z1 q1 Tryd.underlying39 zi22 (fun v1 x1 u1 i0 o1 => ?_)
     have x1 := sWI o1 20 (pB 0 1 pn)
     refine ⟨x1, ?_⟩
     refine wpAnyH_all (rs := [20, 29]) (by kernel_rfl) (by simp) ?_
     rintro i x1
     simp only [List.mem_cons, List.not_mem_nil, or_false] at x1
     rcases x1 with rfl | rfl
     ·
      have x1 := o1.nf
      have v1 := own_cap (x1.res (i := 1) rfl)
      obtain ⟨q1, t1⟩ := x1.row_dataM (i := 1) rfl (j := 0) rfl (by decide)
      have x1 := q1.data (dRow 1 (some ⟨u1, 0, none⟩) 1 1 (encSs ([((n0, p0, z0) : Sl)]))) ⟨v1, t1⟩
      refine k_call (xs := [.tmp 88, .tmp 91, .tmp 93]) (st_op rfl (want_n rfl)) i0 rfl rfl rfl (by decide) ok121 (minst_calls _ _ x1.il _ _ _ _ _ _ ((nthS o0 1).2.2) _ _ ([((n0, p0, z0) : Sl)]) (x1.g 0) (x1.z 0) (imm_box (i := 0) rfl) (x1.g 22) (x1.g 27) (x1.g 26) (hsm := (by assumption)) (hl := (by omega)) (hls := (by simp only [lsts, List.map_cons, List.map_nil, List.mem_cons, List.not_mem_nil, or_false, forall_eq_or_imp, forall_eq]; first | assumption | omega | (and_intros <;> first | assumption | omega))) (hlb := (by simp only [lsts, List.map_cons, List.map_nil, List.mem_cons, List.not_mem_nil, or_false, forall_eq_or_imp, forall_eq]; first | assumption | omega | (and_intros <;> first | assumption | omega))) (hl0 := (by simp))) ?_
      rintro t1 q1 ⟨v1, c2, d2, rfl, f2, h2, i2, j2⟩
      have d2 := x1.callM (i := 0) rfl f2 h2
      have h2 := x1.dM 0 d2 i2
      refine ⟨_, rfl, fun d2 i2 => ?_⟩
      obtain ⟨d2, x1⟩ := inZ j2 (by assumption) (by simp only [lsts, List.map_cons, List.map_nil, List.mem_cons, List.not_mem_nil, or_false, forall_eq_or_imp, forall_eq]; first | assumption | (and_intros <;> assumption))
      have x1 := sWI h2 20 (pB 0 1 pn)
      refine ⟨x1, ?_⟩
      refine d1 29 ?_
      have x1 := h2.data (dAll [((ctA, ctc, ct) : Sl)]) (all_cons (h2.get (i := 3) rfl) all_nil)
      refine mbs [(0, .tmp 102)] [.slice ctA ct.length ctc] (st_opV rfl (want_n rfl)) i2 x1 Tryd.underlying39 zi22 (fun h2 d2 f2 c2 v1 => ?_)
      have d2 := sWI v1 20 (pB 0 1 pn)
      refine ⟨d2, ?_⟩
      refine d1 30 ?_
      have d2 := v1.nf
      have v1 := own_cap (d2.res (i := 1) rfl)
      obtain ⟨h2, x1⟩ := d2.row_dataM (i := 1) rfl (j := 0) rfl (by decide)
      have d2 := h2.data (dRow 1 (some ⟨f2, 0, none⟩) 1 1 (encSs ([((ctA, ctc, ct) : Sl)]))) ⟨v1, x1⟩
      refine k_call (xs := [.tmp 97, .tmp 98, .tmp 103]) (st_op rfl (want_n rfl)) c2 rfl rfl rfl (by decide) ok93 (node_calls _ _ d2.il _ _ _ _ (⟨9, 0, 0, (⟨#[]⟩ : ByteArray)⟩ : Nd) _ _ ([((ctA, ctc, ct) : Sl)]) (d2.z 0) (imm_box (i := 0) rfl) (d2.g 30) (d2.g 29) (hb := (by simp; omega))) ?_
      rintro c2 x1 ⟨h2, v1, f2, rfl, i2, q1, t1, k2⟩
      have f2 := d2.callM (i := 0) rfl i2 q1
      have q1 := d2.dM 0 f2 t1
      refine ⟨_, rfl, fun f2 t1 => ?_⟩
      obtain ⟨f2, d2⟩ := noZ1 k2 (by first | decide | assumption) (by assumption)
      have d2 := sWI q1 20 (pB 0 1 pn)
      refine ⟨d2, ?_⟩
      refine d1 31 ?_
      have d2 := q1.nf
      refine k_call (xs := [.tmp 76, .tmp 85, .tmp 94, .tmp 104]) (st_op rfl (want_n rfl)) t1 rfl rfl rfl (by decide) ok94 (cast_calls _ _ d2.il _ _ _ _ _ _ _ _ _ _ _ _ _ (d2.z 0) (imm_box (i := 0) rfl) (d2.g 25) (d2.g 28) (d2.g 31)) ?_
      rintro t1 q1 ⟨f2, i2, v1, rfl, h2, x1, c2, m2⟩
      have q1 := d2.callM (i := 0) rfl h2 x1
      have x1 := d2.dM 0 q1 c2
      refine ⟨_, rfl, fun q1 c2 => ?_⟩
      obtain ⟨q1, d2⟩ := caZ m2 (by assumption) (by assumption) (by assumption)
      have d2 := sWI x1 20 (pB 0 1 pn)
      refine ⟨d2, ?_⟩
      refine dtA 32 m1 c2 d2 (fun q1 h2 => ?_)
      refine wpAnyH_done (by kernel_rfl) (n1 _ _ ?_) _
      refine x_then_n (q0 _ _ ?_)
      refine wp_seq_k (fun q1 d2 => ?_)
      obtain ⟨q1, c2, t1⟩ := x1.agree
      refine d_reg3 (n := 13) t1 33 (pB 0 1 pn) (pan_then pan_body) (fun c2 q1 x1 n2 o2 p2 => ?_)
      refine dtM 0 q1 h2 p2 (fun n2 c2 => ?_)
      refine dtN 1 q1 c2 p2 (fun n2 h2 => ?_)
      refine dtF 2 0 q1 h2 p2 Tryd.underlying74 sz72 (fun n2 c2 => ?_)
      refine dt 3 rfl q1 c2 (want_n rfl) (fun x hx => m_build (ps := [(0, .const (.int .i64 7))]) (v := .agg #[.int .i64 7, .int .i64 0, .int .i64 0, .string (⟨#[]⟩ : ByteArray)]) (sy c2) c2 rfl rfl rfl (fun _ => by kernel_rfl) (by decide) gt) p2 (fun n2 h2 => ?_)
      refine dtM 4 q1 h2 p2 (fun n2 c2 => ?_)
      refine dtN 5 q1 c2 p2 (fun n2 h2 => ?_)
      refine dtF 6 2 q1 h2 p2 Tryd.underlying74 sz22 (fun n2 c2 => ?_)
      refine dtC 7 1 q1 c2 p2 Tryd.underlying22 (fun n2 h2 => ?_)
      refine dtM 8 q1 h2 p2 (fun n2 c2 => ?_)
      refine dtM 9 q1 c2 p2 (fun n2 h2 => ?_)
      refine d1 10 ?_
      have n2 := o2.data (dAll [((cbA, cbc, cb) : Sl), ((n0, p0, z0) : Sl), ((f2, i2, v1) : Sl)]) (all_cons (o2.get (i := 2) rfl) (all_cons (o2.get (i := 18) rfl) (all_cons (o2.get (i := 32) rfl) all_nil)))
      refine mbs [(0, .tmp 113), (1, .tmp 114), (2, .tmp 115)] [.slice cbA cb.length cbc, .slice n0 z0.length p0, .slice f2 v1.length i2] (st_opV rfl (want_n rfl)) h2 n2 Tryd.underlying39 zi22 (fun o2 c2 p2 t1 q2 => ?_)
      have c2 := sWI q2 33 (pB 0 1 pn)
      refine ⟨c2, ?_⟩
      refine d1 11 ?_
      have c2 := q2.nf
      have q2 := own_cap (c2.res (i := 1) rfl)
      obtain ⟨o2, n2⟩ := c2.row_dataM (i := 1) rfl (j := 0) rfl (by decide)
      have c2 := o2.data (dRow 1 (some ⟨p2, 0, none⟩) 3 3 (encSs ([((cbA, cbc, cb) : Sl), ((n0, p0, z0) : Sl), ((f2, i2, v1) : Sl)]))) ⟨q2, n2⟩
      refine k_call (xs := [.tmp 108, .tmp 109, .tmp 116]) (st_op rfl (want_n rfl)) t1 rfl rfl rfl (by decide) ok93 (node_calls _ _ c2.il _ _ _ _ (⟨7, 0, 0, (⟨#[]⟩ : ByteArray)⟩ : Nd) _ _ ([((cbA, cbc, cb) : Sl), ((n0, p0, z0) : Sl), ((f2, i2, v1) : Sl)]) (c2.z 0) (imm_box (i := 0) rfl) (c2.g 35) (c2.g 34) (hb := (by simp; omega))) ?_
      rintro t1 n2 ⟨o2, q2, p2, rfl, h2, s2, t2, u2⟩
      have n2 := c2.callM (i := 0) rfl h2 s2
      have s2 := c2.dM 0 n2 t2
      refine ⟨_, rfl, fun n2 t2 => ?_⟩
      have n2 : p2.length ≤ (lsts ([((cbA, cbc, cb) : Sl), ((n0, p0, z0) : Sl), ((f2, i2, v1) : Sl)])).flatten.length + 1 := by rw [u2]; exact noL_len
      simp only [lsts, List.map_cons, List.map_nil, List.flatten_cons, List.flatten_nil, List.length_append, List.length_nil] at n2
      have n2 : sml p2 := by rw [u2]; exact noL_sml (by first | decide | assumption) (by simp only [lsts, List.map_cons, List.map_nil, List.mem_cons, List.not_mem_nil, or_false, forall_eq_or_imp, forall_eq]; first | assumption | (and_intros <;> assumption))
      have n2 := sWI s2 33 (pB 0 1 pn)
      refine ⟨n2, ?_⟩
      refine dtA 12 q1 t2 n2 (fun v1 i2 => ?_)
      refine wpAnyH_done (by kernel_rfl) (x1 _ _ ?_) _
      refine x_then_n (d2 _ _ ?_)
      refine wp_ret ?_
      refine e_ret1 i2 rfl rfl rfl ?_
      refine ⟨o2, q2, p2, ?_, s2.fr, (by rw [show (sgE ce (agA ca) (agA cb) ct cn.N : Int) = (((((inQ ((inQ ((((((((ce)))))))) ((nthS j0 1).2.2) (lsts ([((d0, u0, k0) : Sl)])))) ((nthS o0 1).2.2) (lsts ([((n0, p0, z0) : Sl)]))))))) by (unfold sgE; simp only [lsts_nth, t0, v0, x0, y0, f1, h1, j1, b2, j2, k2, m2, u2, i1, if_true, if_false]; first | done | rfl)]; exact s2.res (i := 0) rfl), s2.rx 36, (by unfold sgL sgE; simp only [lsts_nth, t0, v0, x0, y0, f1, h1, j1, b2, j2, k2, m2, u2, i1, if_true, if_false]; first | done | rfl)⟩
      exact congrArg Ending.returned (ret_s (by first | rfl | (simp; done)))
     ·
      have s2 := o1.data (dAll [((ctA, ctc, ct) : Sl)]) (all_cons (o1.get (i := 3) rfl) all_nil)
      refine mbs [(0, .tmp 102)] [.slice ctA ct.length ctc] (st_opV rfl (want_n rfl)) i0 s2 Tryd.underlying39 zi22 (fun o1 u2 p2 q2 o2 => ?_)
      have u2 := sWI o2 20 (pB 0 1 pn)
      refine ⟨u2, ?_⟩
      refine d1 20 ?_
      have u2 := o2.nf
      have o2 := own_cap (u2.res (i := 1) rfl)
      obtain ⟨o1, s2⟩ := u2.row_dataM (i := 1) rfl (j := 0) rfl (by decide)
      have u2 := o1.data (dRow 1 (some ⟨u1, 0, none⟩) 1 1 (encSs ([((n0, p0, z0) : Sl)]))) ⟨o2, s2⟩
      refine k_call (xs := [.tmp 88, .tmp 91, .tmp 93]) (st_op rfl (want_n rfl)) q2 rfl rfl rfl (by decide) ok121 (minst_calls _ _ u2.il _ _ _ _ _ _ ((nthS o0 1).2.2) _ _ ([((n0, p0, z0) : Sl)]) (u2.g 0) (u2.z 0) (imm_box (i := 0) rfl) (u2.g 22) (u2.g 28) (u2.g 26) (hsm := (by assumption)) (hl := (by omega)) (hls := (by simp only [lsts, List.map_cons, List.map_nil, List.mem_cons, List.not_mem_nil, or_false, forall_eq_or_imp, forall_eq]; first | assumption | omega | (and_intros <;> first | assumption | omega))) (hlb := (by simp only [lsts, List.map_cons, List.map_nil, List.mem_cons, List.not_mem_nil, or_false, forall_eq_or_imp, forall_eq]; first | assumption | omega | (and_intros <;> first | assumption | omega))) (hl0 := (by simp))) ?_
      rintro q2 s2 ⟨o1, o2, u1, rfl, i0, m2, k2, j2⟩
      have u1 := u2.callM (i := 0) rfl i0 m2
      have m2 := u2.dM 0 u1 k2
      refine ⟨_, rfl, fun u1 k2 => ?_⟩
      obtain ⟨u1, u2⟩ := inZ j2 (by assumption) (by simp only [lsts, List.map_cons, List.map_nil, List.mem_cons, List.not_mem_nil, or_false, forall_eq_or_imp, forall_eq]; first | assumption | (and_intros <;> assumption))
      have u2 := sWI m2 20 (pB 0 1 pn)
      refine ⟨u2, ?_⟩
      refine d1 30 ?_
      have u2 := m2.nf
      have m2 := own_cap (u2.res (i := 1) rfl)
      obtain ⟨u1, i0⟩ := u2.row_dataM (i := 1) rfl (j := 0) rfl (by decide)
      have u2 := u1.data (dRow 1 (some ⟨p2, 0, none⟩) 1 1 (encSs ([((ctA, ctc, ct) : Sl)]))) ⟨m2, i0⟩
      refine k_call (xs := [.tmp 97, .tmp 98, .tmp 103]) (st_op rfl (want_n rfl)) k2 rfl rfl rfl (by decide) ok93 (node_calls _ _ u2.il _ _ _ _ (⟨9, 0, 0, (⟨#[]⟩ : ByteArray)⟩ : Nd) _ _ ([((ctA, ctc, ct) : Sl)]) (u2.z 0) (imm_box (i := 0) rfl) (u2.g 30) (u2.g 27) (hb := (by simp; omega))) ?_
      rintro k2 i0 ⟨u1, m2, p2, rfl, o2, o1, s2, q2⟩
      have p2 := u2.callM (i := 0) rfl o2 o1
      have o1 := u2.dM 0 p2 s2
      refine ⟨_, rfl, fun p2 s2 => ?_⟩
      obtain ⟨p2, u2⟩ := noZ1 q2 (by first | decide | assumption) (by assumption)
      have u2 := sWI o1 20 (pB 0 1 pn)
      refine ⟨u2, ?_⟩
      refine d1 31 ?_
      have u2 := o1.nf
      refine k_call (xs := [.tmp 76, .tmp 85, .tmp 94, .tmp 104]) (st_op rfl (want_n rfl)) s2 rfl rfl rfl (by decide) ok94 (cast_calls _ _ u2.il _ _ _ _ _ _ _ _ _ _ _ _ _ (u2.z 0) (imm_box (i := 0) rfl) (u2.g 25) (u2.g 29) (u2.g 31)) ?_
      rintro s2 o1 ⟨p2, o2, m2, rfl, u1, i0, k2, i2⟩
      have o1 := u2.callM (i := 0) rfl u1 i0
      have i0 := u2.dM 0 o1 k2
      refine ⟨_, rfl, fun o1 k2 => ?_⟩
      obtain ⟨o1, u2⟩ := caZ i2 (by assumption) (by assumption) (by assumption)
      have u2 := sWI i0 20 (pB 0 1 pn)
      refine ⟨u2, ?_⟩
      refine dtA 32 m1 k2 u2 (fun o1 u1 => ?_)
      refine wpAnyH_done (by kernel_rfl) (n1 _ _ ?_) _
      refine x_then_n (q0 _ _ ?_)
      refine wp_seq_k (fun o1 u2 => ?_)
      obtain ⟨o1, k2, s2⟩ := i0.agree
      refine d_reg3 (n := 13) s2 33 (pB 0 1 pn) (pan_then pan_body) (fun k2 o1 i0 d2 x1 v1 => ?_)
      refine dtM 0 o1 u1 v1 (fun d2 k2 => ?_)
      refine dtN 1 o1 k2 v1 (fun d2 u1 => ?_)
      refine dtF 2 0 o1 u1 v1 Tryd.underlying74 sz72 (fun d2 k2 => ?_)
      refine dt 3 rfl o1 k2 (want_n rfl) (fun x hx => m_build (ps := [(0, .const (.int .i64 7))]) (v := .agg #[.int .i64 7, .int .i64 0, .int .i64 0, .string (⟨#[]⟩ : ByteArray)]) (sy k2) k2 rfl rfl rfl (fun _ => by kernel_rfl) (by decide) gt) v1 (fun d2 u1 => ?_)
      refine dtM 4 o1 u1 v1 (fun d2 k2 => ?_)
      refine dtN 5 o1 k2 v1 (fun d2 u1 => ?_)
      refine dtF 6 2 o1 u1 v1 Tryd.underlying74 sz22 (fun d2 k2 => ?_)
      refine dtC 7 1 o1 k2 v1 Tryd.underlying22 (fun d2 u1 => ?_)
      refine dtM 8 o1 u1 v1 (fun d2 k2 => ?_)
      refine dtM 9 o1 k2 v1 (fun d2 u1 => ?_)
      refine d1 10 ?_
      have d2 := x1.data (dAll [((cbA, cbc, cb) : Sl), ((n0, p0, z0) : Sl), ((p2, o2, m2) : Sl)]) (all_cons (x1.get (i := 2) rfl) (all_cons (x1.get (i := 18) rfl) (all_cons (x1.get (i := 32) rfl) all_nil)))
      refine mbs [(0, .tmp 113), (1, .tmp 114), (2, .tmp 115)] [.slice cbA cb.length cbc, .slice n0 z0.length p0, .slice p2 m2.length o2] (st_opV rfl (want_n rfl)) u1 d2 Tryd.underlying39 zi22 (fun x1 k2 v1 s2 n2 => ?_)
      have k2 := sWI n2 33 (pB 0 1 pn)
      refine ⟨k2, ?_⟩
      refine d1 11 ?_
      have k2 := n2.nf
      have n2 := own_cap (k2.res (i := 1) rfl)
      obtain ⟨x1, d2⟩ := k2.row_dataM (i := 1) rfl (j := 0) rfl (by decide)
      have k2 := x1.data (dRow 1 (some ⟨v1, 0, none⟩) 3 3 (encSs ([((cbA, cbc, cb) : Sl), ((n0, p0, z0) : Sl), ((p2, o2, m2) : Sl)]))) ⟨n2, d2⟩
      refine k_call (xs := [.tmp 108, .tmp 109, .tmp 116]) (st_op rfl (want_n rfl)) s2 rfl rfl rfl (by decide) ok93 (node_calls _ _ k2.il _ _ _ _ (⟨7, 0, 0, (⟨#[]⟩ : ByteArray)⟩ : Nd) _ _ ([((cbA, cbc, cb) : Sl), ((n0, p0, z0) : Sl), ((p2, o2, m2) : Sl)]) (k2.z 0) (imm_box (i := 0) rfl) (k2.g 35) (k2.g 34) (hb := (by simp; omega))) ?_
      rintro s2 d2 ⟨x1, n2, v1, rfl, u1, t2, q1, f2⟩
      have d2 := k2.callM (i := 0) rfl u1 t2
      have t2 := k2.dM 0 d2 q1
      refine ⟨_, rfl, fun d2 q1 => ?_⟩
      have d2 : v1.length ≤ (lsts ([((cbA, cbc, cb) : Sl), ((n0, p0, z0) : Sl), ((p2, o2, m2) : Sl)])).flatten.length + 1 := by rw [f2]; exact noL_len
      simp only [lsts, List.map_cons, List.map_nil, List.flatten_cons, List.flatten_nil, List.length_append, List.length_nil] at d2
      have d2 : sml v1 := by rw [f2]; exact noL_sml (by first | decide | assumption) (by simp only [lsts, List.map_cons, List.map_nil, List.mem_cons, List.not_mem_nil, or_false, forall_eq_or_imp, forall_eq]; first | assumption | (and_intros <;> assumption))
      have d2 := sWI t2 33 (pB 0 1 pn)
      refine ⟨d2, ?_⟩
      refine dtA 12 o1 q1 d2 (fun m2 o2 => ?_)
      refine wpAnyH_done (by kernel_rfl) (i0 _ _ ?_) _
      refine x_then_n (u2 _ _ ?_)
      refine wp_ret ?_
      refine e_ret1 o2 rfl rfl rfl ?_
      refine ⟨x1, n2, v1, ?_, t2.fr, (by rw [show (sgE ce (agA ca) (agA cb) ct cn.N : Int) = (((((inQ ((inQ ((((((((ce)))))))) ((nthS j0 1).2.2) (lsts ([((d0, u0, k0) : Sl)])))) ((nthS o0 1).2.2) (lsts ([((n0, p0, z0) : Sl)]))))))) by (unfold sgE; simp only [lsts_nth, t0, v0, x0, y0, f1, h1, j1, b2, j2, q2, i2, f2, i1, if_true, if_false]; first | done | rfl)]; exact t2.res (i := 0) rfl), t2.rx 36, (by unfold sgL sgE; simp only [lsts_nth, t0, v0, x0, y0, f1, h1, j1, b2, j2, q2, i2, f2, i1, if_true, if_false]; first | done | rfl)⟩
      exact congrArg Ending.returned (ret_s (by first | rfl | (simp; done)))
    ·
     have t2 := y1.data (dAll [((ctA, ctc, ct) : Sl)]) (all_cons (y1.get (i := 3) rfl) all_nil)
     refine mbs [(0, .tmp 102)] [.slice ctA ct.length ctc] (st_opV rfl (want_n rfl)) z1 t2 Tryd.underlying39 zi22 (fun y1 f2 v1 n2 x1 => ?_)
     have f2 := sWI x1 20 (pB 0 1 pn)
     refine ⟨f2, ?_⟩
     refine d1 19 ?_
     have f2 := x1.data (dAll [((n0, p0, z0) : Sl)]) (all_cons (x1.get (i := 18) rfl) all_nil)
     refine mbs [(0, .tmp 92)] [.slice n0 z0.length p0] (st_opV rfl (want_n rfl)) n2 f2 Tryd.underlying39 zi22 (fun x1 y1 t2 z1 i2 => ?_)
     have y1 := sWI i2 20 (pB 0 1 pn)
     refine ⟨y1, ?_⟩
     refine d1 20 ?_
     have y1 := i2.nf
     have i2 := own_cap (y1.res (i := 2) rfl)
     obtain ⟨x1, f2⟩ := y1.row_dataM (i := 2) rfl (j := 0) rfl (by decide)
     have y1 := x1.data (dRow 1 (some ⟨t2, 0, none⟩) 1 1 (encSs ([((n0, p0, z0) : Sl)]))) ⟨i2, f2⟩
     refine k_call (xs := [.tmp 88, .tmp 91, .tmp 93]) (st_op rfl (want_n rfl)) z1 rfl rfl rfl (by decide) ok121 (minst_calls _ _ y1.il _ _ _ _ _ _ ((nthS o0 1).2.2) _ _ ([((n0, p0, z0) : Sl)]) (y1.g 0) (y1.z 0) (imm_box (i := 0) rfl) (y1.g 22) (y1.g 28) (y1.g 27) (hsm := (by assumption)) (hl := (by omega)) (hls := (by simp only [lsts, List.map_cons, List.map_nil, List.mem_cons, List.not_mem_nil, or_false, forall_eq_or_imp, forall_eq]; first | assumption | omega | (and_intros <;> first | assumption | omega))) (hlb := (by simp only [lsts, List.map_cons, List.map_nil, List.mem_cons, List.not_mem_nil, or_false, forall_eq_or_imp, forall_eq]; first | assumption | omega | (and_intros <;> first | assumption | omega))) (hl0 := (by simp))) ?_
     rintro z1 f2 ⟨x1, i2, t2, rfl, n2, q2, j2, o2⟩
     have t2 := y1.callM (i := 0) rfl n2 q2
     have q2 := y1.dM 0 t2 j2
     refine ⟨_, rfl, fun t2 j2 => ?_⟩
     obtain ⟨t2, y1⟩ := inZ o2 (by assumption) (by simp only [lsts, List.map_cons, List.map_nil, List.mem_cons, List.not_mem_nil, or_false, forall_eq_or_imp, forall_eq]; first | assumption | (and_intros <;> assumption))
     have y1 := sWI q2 20 (pB 0 1 pn)
     refine ⟨y1, ?_⟩
     refine d1 30 ?_
     have y1 := q2.nf
     have q2 := own_cap (y1.res (i := 1) rfl)
     obtain ⟨t2, n2⟩ := y1.row_dataM (i := 1) rfl (j := 0) rfl (by decide)
     have y1 := t2.data (dRow 1 (some ⟨v1, 0, none⟩) 1 1 (encSs ([((ctA, ctc, ct) : Sl)]))) ⟨q2, n2⟩
     refine k_call (xs := [.tmp 97, .tmp 98, .tmp 103]) (st_op rfl (want_n rfl)) j2 rfl rfl rfl (by decide) ok93 (node_calls _ _ y1.il _ _ _ _ (⟨9, 0, 0, (⟨#[]⟩ : ByteArray)⟩ : Nd) _ _ ([((ctA, ctc, ct) : Sl)]) (y1.z 0) (imm_box (i := 0) rfl) (y1.g 30) (y1.g 26) (hb := (by simp; omega))) ?_
     rintro j2 n2 ⟨t2, q2, v1, rfl, i2, x1, f2, z1⟩
     have v1 := y1.callM (i := 0) rfl i2 x1
     have x1 := y1.dM 0 v1 f2
     refine ⟨_, rfl, fun v1 f2 => ?_⟩
     obtain ⟨v1, y1⟩ := noZ1 z1 (by first | decide | assumption) (by assumption)
     have y1 := sWI x1 20 (pB 0 1 pn)
     refine ⟨y1, ?_⟩
     refine d1 31 ?_
     have y1 := x1.nf
     refine k_call (xs := [.tmp 76, .tmp 85, .tmp 94, .tmp 104]) (st_op rfl (want_n rfl)) f2 rfl rfl rfl (by decide) ok94 (cast_calls _ _ y1.il _ _ _ _ _ _ _ _ _ _ _ _ _ (y1.z 0) (imm_box (i := 0) rfl) (y1.g 25) (y1.g 29) (y1.g 31)) ?_
     rintro f2 x1 ⟨v1, i2, q2, rfl, t2, n2, j2, u2⟩
     have x1 := y1.callM (i := 0) rfl t2 n2
     have n2 := y1.dM 0 x1 j2
     refine ⟨_, rfl, fun x1 j2 => ?_⟩
     obtain ⟨x1, y1⟩ := caZ u2 (by assumption) (by assumption) (by assumption)
     have y1 := sWI n2 20 (pB 0 1 pn)
     refine ⟨y1, ?_⟩
     refine dtA 32 m1 j2 y1 (fun x1 t2 => ?_)
     refine wpAnyH_done (by kernel_rfl) (n1 _ _ ?_) _
     refine x_then_n (q0 _ _ ?_)
     refine wp_seq_k (fun x1 y1 => ?_)
     obtain ⟨x1, j2, f2⟩ := n2.agree
     refine d_reg3 (n := 13) f2 33 (pB 0 1 pn) (pan_then pan_body) (fun j2 x1 n2 i0 m2 d2 => ?_)
     refine dtM 0 x1 t2 d2 (fun i0 j2 => ?_)
     refine dtN 1 x1 j2 d2 (fun i0 t2 => ?_)
     refine dtF 2 0 x1 t2 d2 Tryd.underlying74 sz72 (fun i0 j2 => ?_)
     refine dt 3 rfl x1 j2 (want_n rfl) (fun x hx => m_build (ps := [(0, .const (.int .i64 7))]) (v := .agg #[.int .i64 7, .int .i64 0, .int .i64 0, .string (⟨#[]⟩ : ByteArray)]) (sy j2) j2 rfl rfl rfl (fun _ => by kernel_rfl) (by decide) gt) d2 (fun i0 t2 => ?_)
     refine dtM 4 x1 t2 d2 (fun i0 j2 => ?_)
     refine dtN 5 x1 j2 d2 (fun i0 t2 => ?_)
     refine dtF 6 2 x1 t2 d2 Tryd.underlying74 sz22 (fun i0 j2 => ?_)
     refine dtC 7 1 x1 j2 d2 Tryd.underlying22 (fun i0 t2 => ?_)
     refine dtM 8 x1 t2 d2 (fun i0 j2 => ?_)
     refine dtM 9 x1 j2 d2 (fun i0 t2 => ?_)
     refine d1 10 ?_
     have i0 := m2.data (dAll [((cbA, cbc, cb) : Sl), ((n0, p0, z0) : Sl), ((v1, i2, q2) : Sl)]) (all_cons (m2.get (i := 2) rfl) (all_cons (m2.get (i := 18) rfl) (all_cons (m2.get (i := 32) rfl) all_nil)))
     refine mbs [(0, .tmp 113), (1, .tmp 114), (2, .tmp 115)] [.slice cbA cb.length cbc, .slice n0 z0.length p0, .slice v1 q2.length i2] (st_opV rfl (want_n rfl)) t2 i0 Tryd.underlying39 zi22 (fun m2 j2 d2 f2 q1 => ?_)
     have j2 := sWI q1 33 (pB 0 1 pn)
     refine ⟨j2, ?_⟩
     refine d1 11 ?_
     have j2 := q1.nf
     have q1 := own_cap (j2.res (i := 1) rfl)
     obtain ⟨m2, i0⟩ := j2.row_dataM (i := 1) rfl (j := 0) rfl (by decide)
     have j2 := m2.data (dRow 1 (some ⟨d2, 0, none⟩) 3 3 (encSs ([((cbA, cbc, cb) : Sl), ((n0, p0, z0) : Sl), ((v1, i2, q2) : Sl)]))) ⟨q1, i0⟩
     refine k_call (xs := [.tmp 108, .tmp 109, .tmp 116]) (st_op rfl (want_n rfl)) f2 rfl rfl rfl (by decide) ok93 (node_calls _ _ j2.il _ _ _ _ (⟨7, 0, 0, (⟨#[]⟩ : ByteArray)⟩ : Nd) _ _ ([((cbA, cbc, cb) : Sl), ((n0, p0, z0) : Sl), ((v1, i2, q2) : Sl)]) (j2.z 0) (imm_box (i := 0) rfl) (j2.g 35) (j2.g 34) (hb := (by simp; omega))) ?_
     rintro f2 i0 ⟨m2, q1, d2, rfl, t2, o1, p2, k2⟩
     have i0 := j2.callM (i := 0) rfl t2 o1
     have o1 := j2.dM 0 i0 p2
     refine ⟨_, rfl, fun i0 p2 => ?_⟩
     have i0 : d2.length ≤ (lsts ([((cbA, cbc, cb) : Sl), ((n0, p0, z0) : Sl), ((v1, i2, q2) : Sl)])).flatten.length + 1 := by rw [k2]; exact noL_len
     simp only [lsts, List.map_cons, List.map_nil, List.flatten_cons, List.flatten_nil, List.length_append, List.length_nil] at i0
     have i0 : sml d2 := by rw [k2]; exact noL_sml (by first | decide | assumption) (by simp only [lsts, List.map_cons, List.map_nil, List.mem_cons, List.not_mem_nil, or_false, forall_eq_or_imp, forall_eq]; first | assumption | (and_intros <;> assumption))
     have i0 := sWI o1 33 (pB 0 1 pn)
     refine ⟨i0, ?_⟩
     refine dtA 12 x1 p2 i0 (fun q2 i2 => ?_)
     refine wpAnyH_done (by kernel_rfl) (n2 _ _ ?_) _
     refine x_then_n (y1 _ _ ?_)
     refine wp_ret ?_
     refine e_ret1 i2 rfl rfl rfl ?_
     refine ⟨m2, q1, d2, ?_, o1.fr, (by rw [show (sgE ce (agA ca) (agA cb) ct cn.N : Int) = (((((inQ ((inQ ((((((((ce)))))))) ((nthS j0 1).2.2) (lsts ([((d0, u0, k0) : Sl)])))) ((nthS o0 1).2.2) (lsts ([((n0, p0, z0) : Sl)]))))))) by (unfold sgE; simp only [lsts_nth, t0, v0, x0, y0, f1, h1, j1, b2, o2, z1, u2, k2, i1, if_true, if_false]; first | done | rfl)]; exact o1.res (i := 0) rfl), o1.rx 36, (by unfold sgL sgE; simp only [lsts_nth, t0, v0, x0, y0, f1, h1, j1, b2, o2, z1, u2, k2, i1, if_true, if_false]; first | done | rfl)⟩
     exact congrArg Ending.returned (ret_s (by first | rfl | (simp; done)))
   ·
    have o1 := s1.data (dAll [((n0, p0, z0) : Sl)]) (all_cons (s1.get (i := 18) rfl) all_nil)
    refine mbs [(0, .tmp 92)] [.slice n0 z0.length p0] (st_opV rfl (want_n rfl)) k1 o1 Tryd.underlying39 zi22 (fun k2 d2 q1 m2 u2 => ?_)
    have d2 := sWI u2 20 (pB 0 1 pn)
    refine ⟨d2, ?_⟩
    refine wpAnyH_all (rs := [11, 29]) (by kernel_rfl) (by simp) ?_
    rintro i d2
    simp only [List.mem_cons, List.not_mem_nil, or_false] at d2
    rcases d2 with rfl | rfl
    ·
     have d2 := u2.nf
     have k2 := own_cap (d2.res (i := 1) rfl)
     obtain ⟨o1, z1⟩ := d2.row_dataM (i := 1) rfl (j := 0) rfl (by decide)
     have d2 := o1.data (dRow 1 (some ⟨b1, 0, none⟩) 1 1 (encSs ([((d0, u0, k0) : Sl)]))) ⟨k2, z1⟩
     refine k_call (xs := [.tmp 79, .tmp 82, .tmp 84]) (st_op rfl (want_n rfl)) m2 rfl rfl rfl (by decide) ok121 (minst_calls _ _ d2.il _ _ _ _ _ _ ((nthS j0 1).2.2) _ _ ([((d0, u0, k0) : Sl)]) (d2.g 0) (d2.z 0) (imm_box (i := 0) rfl) (d2.g 21) (d2.g 25) (d2.g 23) (hsm := (by assumption)) (hl := (by omega)) (hls := (by simp only [lsts, List.map_cons, List.map_nil, List.mem_cons, List.not_mem_nil, or_false, forall_eq_or_imp, forall_eq]; first | assumption | omega | (and_intros <;> first | assumption | omega))) (hlb := (by simp only [lsts, List.map_cons, List.map_nil, List.mem_cons, List.not_mem_nil, or_false, forall_eq_or_imp, forall_eq]; first | assumption | omega | (and_intros <;> first | assumption | omega))) (hl0 := (by simp))) ?_
     rintro z1 o1 ⟨k2, o2, b2, rfl, i2, y1, n2, q2⟩
     have b2 := d2.callM (i := 0) rfl i2 y1
     have y1 := d2.dM 0 b2 n2
     refine ⟨_, rfl, fun b2 n2 => ?_⟩
     obtain ⟨b2, d2⟩ := inZ q2 (by assumption) (by simp only [lsts, List.map_cons, List.map_nil, List.mem_cons, List.not_mem_nil, or_false, forall_eq_or_imp, forall_eq]; first | assumption | (and_intros <;> assumption))
     have d2 := sWI y1 20 (pB 0 1 pn)
     refine ⟨d2, ?_⟩
     refine wpAnyH_all (rs := [20, 29]) (by kernel_rfl) (by simp) ?_
     rintro i d2
     simp only [List.mem_cons, List.not_mem_nil, or_false] at d2
     rcases d2 with rfl | rfl
     ·
      have d2 := y1.nf
      have b2 := own_cap (d2.res (i := 1) rfl)
      obtain ⟨i2, o2⟩ := d2.row_dataM (i := 1) rfl (j := 0) rfl (by decide)
      have d2 := i2.data (dRow 1 (some ⟨q1, 0, none⟩) 1 1 (encSs ([((n0, p0, z0) : Sl)]))) ⟨b2, o2⟩
      refine k_call (xs := [.tmp 88, .tmp 91, .tmp 93]) (st_op rfl (want_n rfl)) n2 rfl rfl rfl (by decide) ok121 (minst_calls _ _ d2.il _ _ _ _ _ _ ((nthS o0 1).2.2) _ _ ([((n0, p0, z0) : Sl)]) (d2.g 0) (d2.z 0) (imm_box (i := 0) rfl) (d2.g 22) (d2.g 27) (d2.g 24) (hsm := (by assumption)) (hl := (by omega)) (hls := (by simp only [lsts, List.map_cons, List.map_nil, List.mem_cons, List.not_mem_nil, or_false, forall_eq_or_imp, forall_eq]; first | assumption | omega | (and_intros <;> first | assumption | omega))) (hlb := (by simp only [lsts, List.map_cons, List.map_nil, List.mem_cons, List.not_mem_nil, or_false, forall_eq_or_imp, forall_eq]; first | assumption | omega | (and_intros <;> first | assumption | omega))) (hl0 := (by simp))) ?_
      rintro o2 i2 ⟨b2, k2, o1, rfl, z1, i0, p2, x1⟩
      have o1 := d2.callM (i := 0) rfl z1 i0
      have i0 := d2.dM 0 o1 p2
      refine ⟨_, rfl, fun o1 p2 => ?_⟩
      obtain ⟨o1, d2⟩ := inZ x1 (by assumption) (by simp only [lsts, List.map_cons, List.map_nil, List.mem_cons, List.not_mem_nil, or_false, forall_eq_or_imp, forall_eq]; first | assumption | (and_intros <;> assumption))
      have d2 := sWI i0 20 (pB 0 1 pn)
      refine ⟨d2, ?_⟩
      refine d1 29 ?_
      have d2 := i0.data (dAll [((ctA, ctc, ct) : Sl)]) (all_cons (i0.get (i := 3) rfl) all_nil)
      refine mbs [(0, .tmp 102)] [.slice ctA ct.length ctc] (st_opV rfl (want_n rfl)) p2 d2 Tryd.underlying39 zi22 (fun i0 o1 z1 k2 b2 => ?_)
      have o1 := sWI b2 20 (pB 0 1 pn)
      refine ⟨o1, ?_⟩
      refine d1 30 ?_
      have o1 := b2.nf
      have b2 := own_cap (o1.res (i := 1) rfl)
      obtain ⟨i0, d2⟩ := o1.row_dataM (i := 1) rfl (j := 0) rfl (by decide)
      have o1 := i0.data (dRow 1 (some ⟨z1, 0, none⟩) 1 1 (encSs ([((ctA, ctc, ct) : Sl)]))) ⟨b2, d2⟩
      refine k_call (xs := [.tmp 97, .tmp 98, .tmp 103]) (st_op rfl (want_n rfl)) k2 rfl rfl rfl (by decide) ok93 (node_calls _ _ o1.il _ _ _ _ (⟨9, 0, 0, (⟨#[]⟩ : ByteArray)⟩ : Nd) _ _ ([((ctA, ctc, ct) : Sl)]) (o1.z 0) (imm_box (i := 0) rfl) (o1.g 30) (o1.g 29) (hb := (by simp; omega))) ?_
      rintro k2 d2 ⟨i0, b2, z1, rfl, p2, i2, o2, v1⟩
      have z1 := o1.callM (i := 0) rfl p2 i2
      have i2 := o1.dM 0 z1 o2
      refine ⟨_, rfl, fun z1 o2 => ?_⟩
      obtain ⟨z1, o1⟩ := noZ1 v1 (by first | decide | assumption) (by assumption)
      have o1 := sWI i2 20 (pB 0 1 pn)
      refine ⟨o1, ?_⟩
      refine d1 31 ?_
      have o1 := i2.nf
      refine k_call (xs := [.tmp 76, .tmp 85, .tmp 94, .tmp 104]) (st_op rfl (want_n rfl)) o2 rfl rfl rfl (by decide) ok94 (cast_calls _ _ o1.il _ _ _ _ _ _ _ _ _ _ _ _ _ (o1.z 0) (imm_box (i := 0) rfl) (o1.g 26) (o1.g 28) (o1.g 31)) ?_
      rintro o2 i2 ⟨z1, p2, b2, rfl, i0, d2, k2, j2⟩
      have i2 := o1.callM (i := 0) rfl i0 d2
      have d2 := o1.dM 0 i2 k2
      refine ⟨_, rfl, fun i2 k2 => ?_⟩
      obtain ⟨i2, o1⟩ := caZ j2 (by assumption) (by assumption) (by assumption)
      have o1 := sWI d2 20 (pB 0 1 pn)
      refine ⟨o1, ?_⟩
      refine dtA 32 m1 k2 o1 (fun i2 i0 => ?_)
      refine wpAnyH_done (by kernel_rfl) (n1 _ _ ?_) _
      refine x_then_n (q0 _ _ ?_)
      refine wp_seq_k (fun i2 o1 => ?_)
      obtain ⟨i2, k2, o2⟩ := d2.agree
      refine d_reg3 (n := 13) o2 33 (pB 0 1 pn) (pan_then pan_body) (fun k2 i2 d2 t2 f2 u1 => ?_)
      refine dtM 0 i2 i0 u1 (fun t2 k2 => ?_)
      refine dtN 1 i2 k2 u1 (fun t2 i0 => ?_)
      refine dtF 2 0 i2 i0 u1 Tryd.underlying74 sz72 (fun t2 k2 => ?_)
      refine dt 3 rfl i2 k2 (want_n rfl) (fun x hx => m_build (ps := [(0, .const (.int .i64 7))]) (v := .agg #[.int .i64 7, .int .i64 0, .int .i64 0, .string (⟨#[]⟩ : ByteArray)]) (sy k2) k2 rfl rfl rfl (fun _ => by kernel_rfl) (by decide) gt) u1 (fun t2 i0 => ?_)
      refine dtM 4 i2 i0 u1 (fun t2 k2 => ?_)
      refine dtN 5 i2 k2 u1 (fun t2 i0 => ?_)
      refine dtF 6 2 i2 i0 u1 Tryd.underlying74 sz22 (fun t2 k2 => ?_)
      refine dtC 7 1 i2 k2 u1 Tryd.underlying22 (fun t2 i0 => ?_)
      refine dtM 8 i2 i0 u1 (fun t2 k2 => ?_)
      refine dtM 9 i2 k2 u1 (fun t2 i0 => ?_)
      refine d1 10 ?_
      have t2 := f2.data (dAll [((cbA, cbc, cb) : Sl), ((n0, p0, z0) : Sl), ((z1, p2, b2) : Sl)]) (all_cons (f2.get (i := 2) rfl) (all_cons (f2.get (i := 18) rfl) (all_cons (f2.get (i := 32) rfl) all_nil)))
      refine mbs [(0, .tmp 113), (1, .tmp 114), (2, .tmp 115)] [.slice cbA cb.length cbc, .slice n0 z0.length p0, .slice z1 b2.length p2] (st_opV rfl (want_n rfl)) i0 t2 Tryd.underlying39 zi22 (fun f2 k2 u1 o2 s2 => ?_)
      have k2 := sWI s2 33 (pB 0 1 pn)
      refine ⟨k2, ?_⟩
      refine d1 11 ?_
      have k2 := s2.nf
      have s2 := own_cap (k2.res (i := 1) rfl)
      obtain ⟨f2, t2⟩ := k2.row_dataM (i := 1) rfl (j := 0) rfl (by decide)
      have k2 := f2.data (dRow 1 (some ⟨u1, 0, none⟩) 3 3 (encSs ([((cbA, cbc, cb) : Sl), ((n0, p0, z0) : Sl), ((z1, p2, b2) : Sl)]))) ⟨s2, t2⟩
      refine k_call (xs := [.tmp 108, .tmp 109, .tmp 116]) (st_op rfl (want_n rfl)) o2 rfl rfl rfl (by decide) ok93 (node_calls _ _ k2.il _ _ _ _ (⟨7, 0, 0, (⟨#[]⟩ : ByteArray)⟩ : Nd) _ _ ([((cbA, cbc, cb) : Sl), ((n0, p0, z0) : Sl), ((z1, p2, b2) : Sl)]) (k2.z 0) (imm_box (i := 0) rfl) (k2.g 35) (k2.g 34) (hb := (by simp; omega))) ?_
      rintro o2 t2 ⟨f2, s2, u1, rfl, i0, c2, h2, t1⟩
      have t2 := k2.callM (i := 0) rfl i0 c2
      have c2 := k2.dM 0 t2 h2
      refine ⟨_, rfl, fun t2 h2 => ?_⟩
      have t2 : u1.length ≤ (lsts ([((cbA, cbc, cb) : Sl), ((n0, p0, z0) : Sl), ((z1, p2, b2) : Sl)])).flatten.length + 1 := by rw [t1]; exact noL_len
      simp only [lsts, List.map_cons, List.map_nil, List.flatten_cons, List.flatten_nil, List.length_append, List.length_nil] at t2
      have t2 : sml u1 := by rw [t1]; exact noL_sml (by first | decide | assumption) (by simp only [lsts, List.map_cons, List.map_nil, List.mem_cons, List.not_mem_nil, or_false, forall_eq_or_imp, forall_eq]; first | assumption | (and_intros <;> assumption))
      have t2 := sWI c2 33 (pB 0 1 pn)
      refine ⟨t2, ?_⟩
      refine dtA 12 i2 h2 t2 (fun b2 p2 => ?_)
      refine wpAnyH_done (by kernel_rfl) (d2 _ _ ?_) _
      refine x_then_n (o1 _ _ ?_)
      refine wp_ret ?_
      refine e_ret1 p2 rfl rfl rfl ?_
      refine ⟨f2, s2, u1, ?_, c2.fr, (by rw [show (sgE ce (agA ca) (agA cb) ct cn.N : Int) = (((((inQ ((inQ ((((((((ce)))))))) ((nthS j0 1).2.2) (lsts ([((d0, u0, k0) : Sl)])))) ((nthS o0 1).2.2) (lsts ([((n0, p0, z0) : Sl)]))))))) by (unfold sgE; simp only [lsts_nth, t0, v0, x0, y0, f1, h1, j1, q2, x1, v1, j2, t1, i1, if_true, if_false]; first | done | rfl)]; exact c2.res (i := 0) rfl), c2.rx 36, (by unfold sgL sgE; simp only [lsts_nth, t0, v0, x0, y0, f1, h1, j1, q2, x1, v1, j2, t1, i1, if_true, if_false]; first | done | rfl)⟩
      exact congrArg Ending.returned (ret_s (by first | rfl | (simp; done)))
     ·
      have c2 := y1.data (dAll [((ctA, ctc, ct) : Sl)]) (all_cons (y1.get (i := 3) rfl) all_nil)
      refine mbs [(0, .tmp 102)] [.slice ctA ct.length ctc] (st_opV rfl (want_n rfl)) n2 c2 Tryd.underlying39 zi22 (fun y1 t1 u1 s2 f2 => ?_)
      have t1 := sWI f2 20 (pB 0 1 pn)
      refine ⟨t1, ?_⟩
      refine d1 20 ?_
      have t1 := f2.nf
      have f2 := own_cap (t1.res (i := 1) rfl)
      obtain ⟨y1, c2⟩ := t1.row_dataM (i := 1) rfl (j := 0) rfl (by decide)
      have t1 := y1.data (dRow 1 (some ⟨q1, 0, none⟩) 1 1 (encSs ([((n0, p0, z0) : Sl)]))) ⟨f2, c2⟩
      refine k_call (xs := [.tmp 88, .tmp 91, .tmp 93]) (st_op rfl (want_n rfl)) s2 rfl rfl rfl (by decide) ok121 (minst_calls _ _ t1.il _ _ _ _ _ _ ((nthS o0 1).2.2) _ _ ([((n0, p0, z0) : Sl)]) (t1.g 0) (t1.z 0) (imm_box (i := 0) rfl) (t1.g 22) (t1.g 28) (t1.g 24) (hsm := (by assumption)) (hl := (by omega)) (hls := (by simp only [lsts, List.map_cons, List.map_nil, List.mem_cons, List.not_mem_nil, or_false, forall_eq_or_imp, forall_eq]; first | assumption | omega | (and_intros <;> first | assumption | omega))) (hlb := (by simp only [lsts, List.map_cons, List.map_nil, List.mem_cons, List.not_mem_nil, or_false, forall_eq_or_imp, forall_eq]; first | assumption | omega | (and_intros <;> first | assumption | omega))) (hl0 := (by simp))) ?_
      rintro s2 c2 ⟨y1, f2, n2, rfl, j2, v1, x1, p2⟩
      have n2 := t1.callM (i := 0) rfl j2 v1
      have v1 := t1.dM 0 n2 x1
      refine ⟨_, rfl, fun n2 x1 => ?_⟩
      obtain ⟨n2, t1⟩ := inZ p2 (by assumption) (by simp only [lsts, List.map_cons, List.map_nil, List.mem_cons, List.not_mem_nil, or_false, forall_eq_or_imp, forall_eq]; first | assumption | (and_intros <;> assumption))
      have t1 := sWI v1 20 (pB 0 1 pn)
      refine ⟨t1, ?_⟩
      refine d1 30 ?_
      have t1 := v1.nf
      have v1 := own_cap (t1.res (i := 1) rfl)
      obtain ⟨n2, j2⟩ := t1.row_dataM (i := 1) rfl (j := 0) rfl (by decide)
      have t1 := n2.data (dRow 1 (some ⟨u1, 0, none⟩) 1 1 (encSs ([((ctA, ctc, ct) : Sl)]))) ⟨v1, j2⟩
      refine k_call (xs := [.tmp 97, .tmp 98, .tmp 103]) (st_op rfl (want_n rfl)) x1 rfl rfl rfl (by decide) ok93 (node_calls _ _ t1.il _ _ _ _ (⟨9, 0, 0, (⟨#[]⟩ : ByteArray)⟩ : Nd) _ _ ([((ctA, ctc, ct) : Sl)]) (t1.z 0) (imm_box (i := 0) rfl) (t1.g 30) (t1.g 27) (hb := (by simp; omega))) ?_
      rintro x1 j2 ⟨n2, v1, u1, rfl, f2, y1, c2, s2⟩
      have u1 := t1.callM (i := 0) rfl f2 y1
      have y1 := t1.dM 0 u1 c2
      refine ⟨_, rfl, fun u1 c2 => ?_⟩
      obtain ⟨u1, t1⟩ := noZ1 s2 (by first | decide | assumption) (by assumption)
      have t1 := sWI y1 20 (pB 0 1 pn)
      refine ⟨t1, ?_⟩
      refine d1 31 ?_
      have t1 := y1.nf
      refine k_call (xs := [.tmp 76, .tmp 85, .tmp 94, .tmp 104]) (st_op rfl (want_n rfl)) c2 rfl rfl rfl (by decide) ok94 (cast_calls _ _ t1.il _ _ _ _ _ _ _ _ _ _ _ _ _ (t1.z 0) (imm_box (i := 0) rfl) (t1.g 26) (t1.g 29) (t1.g 31)) ?_
      rintro c2 y1 ⟨u1, f2, v1, rfl, n2, j2, x1, o1⟩
      have y1 := t1.callM (i := 0) rfl n2 j2
      have j2 := t1.dM 0 y1 x1
      refine ⟨_, rfl, fun y1 x1 => ?_⟩
      obtain ⟨y1, t1⟩ := caZ o1 (by assumption) (by assumption) (by assumption)
      have t1 := sWI j2 20 (pB 0 1 pn)
      refine ⟨t1, ?_⟩
      refine dtA 32 m1 x1 t1 (fun y1 n2 => ?_)
      refine wpAnyH_done (by kernel_rfl) (n1 _ _ ?_) _
      refine x_then_n (q0 _ _ ?_)
      refine wp_seq_k (fun y1 t1 => ?_)
      obtain ⟨y1, x1, c2⟩ := j2.agree
      refine d_reg3 (n := 13) c2 33 (pB 0 1 pn) (pan_then pan_body) (fun x1 y1 j2 d2 b2 t2 => ?_)
      refine dtM 0 y1 n2 t2 (fun d2 x1 => ?_)
      refine dtN 1 y1 x1 t2 (fun d2 n2 => ?_)
      refine dtF 2 0 y1 n2 t2 Tryd.underlying74 sz72 (fun d2 x1 => ?_)
      refine dt 3 rfl y1 x1 (want_n rfl) (fun x hx => m_build (ps := [(0, .const (.int .i64 7))]) (v := .agg #[.int .i64 7, .int .i64 0, .int .i64 0, .string (⟨#[]⟩ : ByteArray)]) (sy x1) x1 rfl rfl rfl (fun _ => by kernel_rfl) (by decide) gt) t2 (fun d2 n2 => ?_)
      refine dtM 4 y1 n2 t2 (fun d2 x1 => ?_)
      refine dtN 5 y1 x1 t2 (fun d2 n2 => ?_)
      refine dtF 6 2 y1 n2 t2 Tryd.underlying74 sz22 (fun d2 x1 => ?_)
      refine dtC 7 1 y1 x1 t2 Tryd.underlying22 (fun d2 n2 => ?_)
      refine dtM 8 y1 n2 t2 (fun d2 x1 => ?_)
      refine dtM 9 y1 x1 t2 (fun d2 n2 => ?_)
      refine d1 10 ?_
      have d2 := b2.data (dAll [((cbA, cbc, cb) : Sl), ((n0, p0, z0) : Sl), ((u1, f2, v1) : Sl)]) (all_cons (b2.get (i := 2) rfl) (all_cons (b2.get (i := 18) rfl) (all_cons (b2.get (i := 32) rfl) all_nil)))
      refine mbs [(0, .tmp 113), (1, .tmp 114), (2, .tmp 115)] [.slice cbA cb.length cbc, .slice n0 z0.length p0, .slice u1 v1.length f2] (st_opV rfl (want_n rfl)) n2 d2 Tryd.underlying39 zi22 (fun b2 x1 t2 c2 h2 => ?_)
      have x1 := sWI h2 33 (pB 0 1 pn)
      refine ⟨x1, ?_⟩
      refine d1 11 ?_
      have x1 := h2.nf
      have h2 := own_cap (x1.res (i := 1) rfl)
      obtain ⟨b2, d2⟩ := x1.row_dataM (i := 1) rfl (j := 0) rfl (by decide)
      have x1 := b2.data (dRow 1 (some ⟨t2, 0, none⟩) 3 3 (encSs ([((cbA, cbc, cb) : Sl), ((n0, p0, z0) : Sl), ((u1, f2, v1) : Sl)]))) ⟨h2, d2⟩
      refine k_call (xs := [.tmp 108, .tmp 109, .tmp 116]) (st_op rfl (want_n rfl)) c2 rfl rfl rfl (by decide) ok93 (node_calls _ _ x1.il _ _ _ _ (⟨7, 0, 0, (⟨#[]⟩ : ByteArray)⟩ : Nd) _ _ ([((cbA, cbc, cb) : Sl), ((n0, p0, z0) : Sl), ((u1, f2, v1) : Sl)]) (x1.z 0) (imm_box (i := 0) rfl) (x1.g 35) (x1.g 34) (hb := (by simp; omega))) ?_
      rintro c2 d2 ⟨b2, h2, t2, rfl, n2, i2, z1, k2⟩
      have d2 := x1.callM (i := 0) rfl n2 i2
      have i2 := x1.dM 0 d2 z1
      refine ⟨_, rfl, fun d2 z1 => ?_⟩
      have d2 : t2.length ≤ (lsts ([((cbA, cbc, cb) : Sl), ((n0, p0, z0) : Sl), ((u1, f2, v1) : Sl)])).flatten.length + 1 := by rw [k2]; exact noL_len
      simp only [lsts, List.map_cons, List.map_nil, List.flatten_cons, List.flatten_nil, List.length_append, List.length_nil] at d2
      have d2 : sml t2 := by rw [k2]; exact noL_sml (by first | decide | assumption) (by simp only [lsts, List.map_cons, List.map_nil, List.mem_cons, List.not_mem_nil, or_false, forall_eq_or_imp, forall_eq]; first | assumption | (and_intros <;> assumption))
      have d2 := sWI i2 33 (pB 0 1 pn)
      refine ⟨d2, ?_⟩
      refine dtA 12 y1 z1 d2 (fun v1 f2 => ?_)
      refine wpAnyH_done (by kernel_rfl) (j2 _ _ ?_) _
      refine x_then_n (t1 _ _ ?_)
      refine wp_ret ?_
      refine e_ret1 f2 rfl rfl rfl ?_
      refine ⟨b2, h2, t2, ?_, i2.fr, (by rw [show (sgE ce (agA ca) (agA cb) ct cn.N : Int) = (((((inQ ((inQ ((((((((ce)))))))) ((nthS j0 1).2.2) (lsts ([((d0, u0, k0) : Sl)])))) ((nthS o0 1).2.2) (lsts ([((n0, p0, z0) : Sl)]))))))) by (unfold sgE; simp only [lsts_nth, t0, v0, x0, y0, f1, h1, j1, q2, p2, s2, o1, k2, i1, if_true, if_false]; first | done | rfl)]; exact i2.res (i := 0) rfl), i2.rx 36, (by unfold sgL sgE; simp only [lsts_nth, t0, v0, x0, y0, f1, h1, j1, q2, p2, s2, o1, k2, i1, if_true, if_false]; first | done | rfl)⟩
      exact congrArg Ending.returned (ret_s (by first | rfl | (simp; done)))
    ·
     have i2 := u2.data (dAll [((ctA, ctc, ct) : Sl)]) (all_cons (u2.get (i := 3) rfl) all_nil)
     refine mbs [(0, .tmp 102)] [.slice ctA ct.length ctc] (st_opV rfl (want_n rfl)) m2 i2 Tryd.underlying39 zi22 (fun u2 k2 t2 h2 b2 => ?_)
     have k2 := sWI b2 20 (pB 0 1 pn)
     refine ⟨k2, ?_⟩
     refine d1 11 ?_
     have k2 := b2.nf
     have b2 := own_cap (k2.res (i := 1) rfl)
     obtain ⟨u2, i2⟩ := k2.row_dataM (i := 1) rfl (j := 0) rfl (by decide)
     have k2 := u2.data (dRow 1 (some ⟨b1, 0, none⟩) 1 1 (encSs ([((d0, u0, k0) : Sl)]))) ⟨b2, i2⟩
     refine k_call (xs := [.tmp 79, .tmp 82, .tmp 84]) (st_op rfl (want_n rfl)) h2 rfl rfl rfl (by decide) ok121 (minst_calls _ _ k2.il _ _ _ _ _ _ ((nthS j0 1).2.2) _ _ ([((d0, u0, k0) : Sl)]) (k2.g 0) (k2.z 0) (imm_box (i := 0) rfl) (k2.g 21) (k2.g 26) (k2.g 23) (hsm := (by assumption)) (hl := (by omega)) (hls := (by simp only [lsts, List.map_cons, List.map_nil, List.mem_cons, List.not_mem_nil, or_false, forall_eq_or_imp, forall_eq]; first | assumption | omega | (and_intros <;> first | assumption | omega))) (hlb := (by simp only [lsts, List.map_cons, List.map_nil, List.mem_cons, List.not_mem_nil, or_false, forall_eq_or_imp, forall_eq]; first | assumption | omega | (and_intros <;> first | assumption | omega))) (hl0 := (by simp))) ?_
     rintro h2 i2 ⟨u2, b2, m2, rfl, o1, s2, p2, q2⟩
     have m2 := k2.callM (i := 0) rfl o1 s2
     have s2 := k2.dM 0 m2 p2
     refine ⟨_, rfl, fun m2 p2 => ?_⟩
     obtain ⟨m2, k2⟩ := inZ q2 (by assumption) (by simp only [lsts, List.map_cons, List.map_nil, List.mem_cons, List.not_mem_nil, or_false, forall_eq_or_imp, forall_eq]; first | assumption | (and_intros <;> assumption))
     have k2 := sWI s2 20 (pB 0 1 pn)
     refine ⟨k2, ?_⟩
     refine d1 20 ?_
     have k2 := s2.nf
     have s2 := own_cap (k2.res (i := 1) rfl)
     obtain ⟨m2, o1⟩ := k2.row_dataM (i := 1) rfl (j := 0) rfl (by decide)
     have k2 := m2.data (dRow 1 (some ⟨q1, 0, none⟩) 1 1 (encSs ([((n0, p0, z0) : Sl)]))) ⟨s2, o1⟩
     refine k_call (xs := [.tmp 88, .tmp 91, .tmp 93]) (st_op rfl (want_n rfl)) p2 rfl rfl rfl (by decide) ok121 (minst_calls _ _ k2.il _ _ _ _ _ _ ((nthS o0 1).2.2) _ _ ([((n0, p0, z0) : Sl)]) (k2.g 0) (k2.z 0) (imm_box (i := 0) rfl) (k2.g 22) (k2.g 28) (k2.g 24) (hsm := (by assumption)) (hl := (by omega)) (hls := (by simp only [lsts, List.map_cons, List.map_nil, List.mem_cons, List.not_mem_nil, or_false, forall_eq_or_imp, forall_eq]; first | assumption | omega | (and_intros <;> first | assumption | omega))) (hlb := (by simp only [lsts, List.map_cons, List.map_nil, List.mem_cons, List.not_mem_nil, or_false, forall_eq_or_imp, forall_eq]; first | assumption | omega | (and_intros <;> first | assumption | omega))) (hl0 := (by simp))) ?_
     rintro p2 o1 ⟨m2, s2, q1, rfl, b2, u2, i2, h2⟩
     have q1 := k2.callM (i := 0) rfl b2 u2
     have u2 := k2.dM 0 q1 i2
     refine ⟨_, rfl, fun q1 i2 => ?_⟩
     obtain ⟨q1, k2⟩ := inZ h2 (by assumption) (by simp only [lsts, List.map_cons, List.map_nil, List.mem_cons, List.not_mem_nil, or_false, forall_eq_or_imp, forall_eq]; first | assumption | (and_intros <;> assumption))
     have k2 := sWI u2 20 (pB 0 1 pn)
     refine ⟨k2, ?_⟩
     refine d1 30 ?_
     have k2 := u2.nf
     have u2 := own_cap (k2.res (i := 1) rfl)
     obtain ⟨q1, b2⟩ := k2.row_dataM (i := 1) rfl (j := 0) rfl (by decide)
     have k2 := q1.data (dRow 1 (some ⟨t2, 0, none⟩) 1 1 (encSs ([((ctA, ctc, ct) : Sl)]))) ⟨u2, b2⟩
     refine k_call (xs := [.tmp 97, .tmp 98, .tmp 103]) (st_op rfl (want_n rfl)) i2 rfl rfl rfl (by decide) ok93 (node_calls _ _ k2.il _ _ _ _ (⟨9, 0, 0, (⟨#[]⟩ : ByteArray)⟩ : Nd) _ _ ([((ctA, ctc, ct) : Sl)]) (k2.z 0) (imm_box (i := 0) rfl) (k2.g 30) (k2.g 25) (hb := (by simp; omega))) ?_
     rintro i2 b2 ⟨q1, u2, t2, rfl, s2, m2, o1, p2⟩
     have t2 := k2.callM (i := 0) rfl s2 m2
     have m2 := k2.dM 0 t2 o1
     refine ⟨_, rfl, fun t2 o1 => ?_⟩
     obtain ⟨t2, k2⟩ := noZ1 p2 (by first | decide | assumption) (by assumption)
     have k2 := sWI m2 20 (pB 0 1 pn)
     refine ⟨k2, ?_⟩
     refine d1 31 ?_
     have k2 := m2.nf
     refine k_call (xs := [.tmp 76, .tmp 85, .tmp 94, .tmp 104]) (st_op rfl (want_n rfl)) o1 rfl rfl rfl (by decide) ok94 (cast_calls _ _ k2.il _ _ _ _ _ _ _ _ _ _ _ _ _ (k2.z 0) (imm_box (i := 0) rfl) (k2.g 27) (k2.g 29) (k2.g 31)) ?_
     rintro o1 m2 ⟨t2, s2, u2, rfl, q1, b2, i2, f2⟩
     have m2 := k2.callM (i := 0) rfl q1 b2
     have b2 := k2.dM 0 m2 i2
     refine ⟨_, rfl, fun m2 i2 => ?_⟩
     obtain ⟨m2, k2⟩ := caZ f2 (by assumption) (by assumption) (by assumption)
     have k2 := sWI b2 20 (pB 0 1 pn)
     refine ⟨k2, ?_⟩
     refine dtA 32 m1 i2 k2 (fun m2 q1 => ?_)
     refine wpAnyH_done (by kernel_rfl) (n1 _ _ ?_) _
     refine x_then_n (q0 _ _ ?_)
     refine wp_seq_k (fun m2 k2 => ?_)
     obtain ⟨m2, i2, o1⟩ := b2.agree
     refine d_reg3 (n := 13) o1 33 (pB 0 1 pn) (pan_then pan_body) (fun i2 m2 b2 t1 j2 v1 => ?_)
     refine dtM 0 m2 q1 v1 (fun t1 i2 => ?_)
     refine dtN 1 m2 i2 v1 (fun t1 q1 => ?_)
     refine dtF 2 0 m2 q1 v1 Tryd.underlying74 sz72 (fun t1 i2 => ?_)
     refine dt 3 rfl m2 i2 (want_n rfl) (fun x hx => m_build (ps := [(0, .const (.int .i64 7))]) (v := .agg #[.int .i64 7, .int .i64 0, .int .i64 0, .string (⟨#[]⟩ : ByteArray)]) (sy i2) i2 rfl rfl rfl (fun _ => by kernel_rfl) (by decide) gt) v1 (fun t1 q1 => ?_)
     refine dtM 4 m2 q1 v1 (fun t1 i2 => ?_)
     refine dtN 5 m2 i2 v1 (fun t1 q1 => ?_)
     refine dtF 6 2 m2 q1 v1 Tryd.underlying74 sz22 (fun t1 i2 => ?_)
     refine dtC 7 1 m2 i2 v1 Tryd.underlying22 (fun t1 q1 => ?_)
     refine dtM 8 m2 q1 v1 (fun t1 i2 => ?_)
     refine dtM 9 m2 i2 v1 (fun t1 q1 => ?_)
     refine d1 10 ?_
     have t1 := j2.data (dAll [((cbA, cbc, cb) : Sl), ((n0, p0, z0) : Sl), ((t2, s2, u2) : Sl)]) (all_cons (j2.get (i := 2) rfl) (all_cons (j2.get (i := 18) rfl) (all_cons (j2.get (i := 32) rfl) all_nil)))
     refine mbs [(0, .tmp 113), (1, .tmp 114), (2, .tmp 115)] [.slice cbA cb.length cbc, .slice n0 z0.length p0, .slice t2 u2.length s2] (st_opV rfl (want_n rfl)) q1 t1 Tryd.underlying39 zi22 (fun j2 i2 v1 o1 d2 => ?_)
     have i2 := sWI d2 33 (pB 0 1 pn)
     refine ⟨i2, ?_⟩
     refine d1 11 ?_
     have i2 := d2.nf
     have d2 := own_cap (i2.res (i := 1) rfl)
     obtain ⟨j2, t1⟩ := i2.row_dataM (i := 1) rfl (j := 0) rfl (by decide)
     have i2 := j2.data (dRow 1 (some ⟨v1, 0, none⟩) 3 3 (encSs ([((cbA, cbc, cb) : Sl), ((n0, p0, z0) : Sl), ((t2, s2, u2) : Sl)]))) ⟨d2, t1⟩
     refine k_call (xs := [.tmp 108, .tmp 109, .tmp 116]) (st_op rfl (want_n rfl)) o1 rfl rfl rfl (by decide) ok93 (node_calls _ _ i2.il _ _ _ _ (⟨7, 0, 0, (⟨#[]⟩ : ByteArray)⟩ : Nd) _ _ ([((cbA, cbc, cb) : Sl), ((n0, p0, z0) : Sl), ((t2, s2, u2) : Sl)]) (i2.z 0) (imm_box (i := 0) rfl) (i2.g 35) (i2.g 34) (hb := (by simp; omega))) ?_
     rintro o1 t1 ⟨j2, d2, v1, rfl, q1, z1, y1, u1⟩
     have t1 := i2.callM (i := 0) rfl q1 z1
     have z1 := i2.dM 0 t1 y1
     refine ⟨_, rfl, fun t1 y1 => ?_⟩
     have t1 : v1.length ≤ (lsts ([((cbA, cbc, cb) : Sl), ((n0, p0, z0) : Sl), ((t2, s2, u2) : Sl)])).flatten.length + 1 := by rw [u1]; exact noL_len
     simp only [lsts, List.map_cons, List.map_nil, List.flatten_cons, List.flatten_nil, List.length_append, List.length_nil] at t1
     have t1 : sml v1 := by rw [u1]; exact noL_sml (by first | decide | assumption) (by simp only [lsts, List.map_cons, List.map_nil, List.mem_cons, List.not_mem_nil, or_false, forall_eq_or_imp, forall_eq]; first | assumption | (and_intros <;> assumption))
     have t1 := sWI z1 33 (pB 0 1 pn)
     refine ⟨t1, ?_⟩
     refine dtA 12 m2 y1 t1 (fun u2 s2 => ?_)
     refine wpAnyH_done (by kernel_rfl) (b2 _ _ ?_) _
     refine x_then_n (k2 _ _ ?_)
     refine wp_ret ?_
     refine e_ret1 s2 rfl rfl rfl ?_
     refine ⟨j2, d2, v1, ?_, z1.fr, (by rw [show (sgE ce (agA ca) (agA cb) ct cn.N : Int) = (((((inQ ((inQ ((((((((ce)))))))) ((nthS j0 1).2.2) (lsts ([((d0, u0, k0) : Sl)])))) ((nthS o0 1).2.2) (lsts ([((n0, p0, z0) : Sl)]))))))) by (unfold sgE; simp only [lsts_nth, t0, v0, x0, y0, f1, h1, j1, q2, h2, p2, f2, u1, i1, if_true, if_false]; first | done | rfl)]; exact z1.res (i := 0) rfl), z1.rx 36, (by unfold sgL sgE; simp only [lsts_nth, t0, v0, x0, y0, f1, h1, j1, q2, h2, p2, f2, u1, i1, if_true, if_false]; first | done | rfl)⟩
     exact congrArg Ending.returned (ret_s (by first | rfl | (simp; done)))
   ·
    have z1 := s1.data (dAll [((ctA, ctc, ct) : Sl)]) (all_cons (s1.get (i := 3) rfl) all_nil)
    refine mbs [(0, .tmp 102)] [.slice ctA ct.length ctc] (st_opV rfl (want_n rfl)) k1 z1 Tryd.underlying39 zi22 (fun s1 u1 v1 d2 j2 => ?_)
    have u1 := sWI j2 20 (pB 0 1 pn)
    refine ⟨u1, ?_⟩
    refine wpAnyH_all (rs := [11, 19]) (by kernel_rfl) (by simp) ?_
    rintro i u1
    simp only [List.mem_cons, List.not_mem_nil, or_false] at u1
    rcases u1 with rfl | rfl
    ·
     have u1 := j2.nf
     have s1 := own_cap (u1.res (i := 1) rfl)
     obtain ⟨z1, k1⟩ := u1.row_dataM (i := 1) rfl (j := 0) rfl (by decide)
     have u1 := z1.data (dRow 1 (some ⟨b1, 0, none⟩) 1 1 (encSs ([((d0, u0, k0) : Sl)]))) ⟨s1, k1⟩
     refine k_call (xs := [.tmp 79, .tmp 82, .tmp 84]) (st_op rfl (want_n rfl)) d2 rfl rfl rfl (by decide) ok121 (minst_calls _ _ u1.il _ _ _ _ _ _ ((nthS j0 1).2.2) _ _ ([((d0, u0, k0) : Sl)]) (u1.g 0) (u1.z 0) (imm_box (i := 0) rfl) (u1.g 21) (u1.g 25) (u1.g 23) (hsm := (by assumption)) (hl := (by omega)) (hls := (by simp only [lsts, List.map_cons, List.map_nil, List.mem_cons, List.not_mem_nil, or_false, forall_eq_or_imp, forall_eq]; first | assumption | omega | (and_intros <;> first | assumption | omega))) (hlb := (by simp only [lsts, List.map_cons, List.map_nil, List.mem_cons, List.not_mem_nil, or_false, forall_eq_or_imp, forall_eq]; first | assumption | omega | (and_intros <;> first | assumption | omega))) (hl0 := (by simp))) ?_
     rintro k1 z1 ⟨s1, f2, p2, rfl, h2, q2, s2, k2⟩
     have p2 := u1.callM (i := 0) rfl h2 q2
     have q2 := u1.dM 0 p2 s2
     refine ⟨_, rfl, fun p2 s2 => ?_⟩
     obtain ⟨p2, u1⟩ := inZ k2 (by assumption) (by simp only [lsts, List.map_cons, List.map_nil, List.mem_cons, List.not_mem_nil, or_false, forall_eq_or_imp, forall_eq]; first | assumption | (and_intros <;> assumption))
     have u1 := sWI q2 20 (pB 0 1 pn)
     refine ⟨u1, ?_⟩
     refine d1 19 ?_
     have u1 := q2.data (dAll [((n0, p0, z0) : Sl)]) (all_cons (q2.get (i := 18) rfl) all_nil)
     refine mbs [(0, .tmp 92)] [.slice n0 z0.length p0] (st_opV rfl (want_n rfl)) s2 u1 Tryd.underlying39 zi22 (fun q2 p2 h2 f2 s1 => ?_)
     have p2 := sWI s1 20 (pB 0 1 pn)
     refine ⟨p2, ?_⟩
     refine d1 20 ?_
     have p2 := s1.nf
     have s1 := own_cap (p2.res (i := 2) rfl)
     obtain ⟨q2, u1⟩ := p2.row_dataM (i := 2) rfl (j := 0) rfl (by decide)
     have p2 := q2.data (dRow 1 (some ⟨h2, 0, none⟩) 1 1 (encSs ([((n0, p0, z0) : Sl)]))) ⟨s1, u1⟩
     refine k_call (xs := [.tmp 88, .tmp 91, .tmp 93]) (st_op rfl (want_n rfl)) f2 rfl rfl rfl (by decide) ok121 (minst_calls _ _ p2.il _ _ _ _ _ _ ((nthS o0 1).2.2) _ _ ([((n0, p0, z0) : Sl)]) (p2.g 0) (p2.z 0) (imm_box (i := 0) rfl) (p2.g 22) (p2.g 28) (p2.g 27) (hsm := (by assumption)) (hl := (by omega)) (hls := (by simp only [lsts, List.map_cons, List.map_nil, List.mem_cons, List.not_mem_nil, or_false, forall_eq_or_imp, forall_eq]; first | assumption | omega | (and_intros <;> first | assumption | omega))) (hlb := (by simp only [lsts, List.map_cons, List.map_nil, List.mem_cons, List.not_mem_nil, or_false, forall_eq_or_imp, forall_eq]; first | assumption | omega | (and_intros <;> first | assumption | omega))) (hl0 := (by simp))) ?_
     rintro f2 u1 ⟨q2, s1, h2, rfl, s2, z1, k1, b2⟩
     have h2 := p2.callM (i := 0) rfl s2 z1
     have z1 := p2.dM 0 h2 k1
     refine ⟨_, rfl, fun h2 k1 => ?_⟩
     obtain ⟨h2, p2⟩ := inZ b2 (by assumption) (by simp only [lsts, List.map_cons, List.map_nil, List.mem_cons, List.not_mem_nil, or_false, forall_eq_or_imp, forall_eq]; first | assumption | (and_intros <;> assumption))
     have p2 := sWI z1 20 (pB 0 1 pn)
     refine ⟨p2, ?_⟩
     refine d1 30 ?_
     have p2 := z1.nf
     have z1 := own_cap (p2.res (i := 1) rfl)
     obtain ⟨h2, s2⟩ := p2.row_dataM (i := 1) rfl (j := 0) rfl (by decide)
     have p2 := h2.data (dRow 1 (some ⟨v1, 0, none⟩) 1 1 (encSs ([((ctA, ctc, ct) : Sl)]))) ⟨z1, s2⟩
     refine k_call (xs := [.tmp 97, .tmp 98, .tmp 103]) (st_op rfl (want_n rfl)) k1 rfl rfl rfl (by decide) ok93 (node_calls _ _ p2.il _ _ _ _ (⟨9, 0, 0, (⟨#[]⟩ : ByteArray)⟩ : Nd) _ _ ([((ctA, ctc, ct) : Sl)]) (p2.z 0) (imm_box (i := 0) rfl) (p2.g 30) (p2.g 24) (hb := (by simp; omega))) ?_
     rintro k1 s2 ⟨h2, z1, s1, rfl, q2, u1, f2, u2⟩
     have s1 := p2.callM (i := 0) rfl q2 u1
     have u1 := p2.dM 0 s1 f2
     refine ⟨_, rfl, fun s1 f2 => ?_⟩
     obtain ⟨s1, p2⟩ := noZ1 u2 (by first | decide | assumption) (by assumption)
     have p2 := sWI u1 20 (pB 0 1 pn)
     refine ⟨p2, ?_⟩
     refine d1 31 ?_
     have p2 := u1.nf
     refine k_call (xs := [.tmp 76, .tmp 85, .tmp 94, .tmp 104]) (st_op rfl (want_n rfl)) f2 rfl rfl rfl (by decide) ok94 (cast_calls _ _ p2.il _ _ _ _ _ _ _ _ _ _ _ _ _ (p2.z 0) (imm_box (i := 0) rfl) (p2.g 26) (p2.g 29) (p2.g 31)) ?_
     rintro f2 u1 ⟨s1, q2, z1, rfl, h2, s2, k1, t1⟩
     have u1 := p2.callM (i := 0) rfl h2 s2
     have s2 := p2.dM 0 u1 k1
     refine ⟨_, rfl, fun u1 k1 => ?_⟩
     obtain ⟨u1, p2⟩ := caZ t1 (by assumption) (by assumption) (by assumption)
     have p2 := sWI s2 20 (pB 0 1 pn)
     refine ⟨p2, ?_⟩
     refine dtA 32 m1 k1 p2 (fun u1 h2 => ?_)
     refine wpAnyH_done (by kernel_rfl) (n1 _ _ ?_) _
     refine x_then_n (q0 _ _ ?_)
     refine wp_seq_k (fun u1 p2 => ?_)
     obtain ⟨u1, k1, f2⟩ := s2.agree
     refine d_reg3 (n := 13) f2 33 (pB 0 1 pn) (pan_then pan_body) (fun k1 u1 s2 y1 m2 t2 => ?_)
     refine dtM 0 u1 h2 t2 (fun y1 k1 => ?_)
     refine dtN 1 u1 k1 t2 (fun y1 h2 => ?_)
     refine dtF 2 0 u1 h2 t2 Tryd.underlying74 sz72 (fun y1 k1 => ?_)
     refine dt 3 rfl u1 k1 (want_n rfl) (fun x hx => m_build (ps := [(0, .const (.int .i64 7))]) (v := .agg #[.int .i64 7, .int .i64 0, .int .i64 0, .string (⟨#[]⟩ : ByteArray)]) (sy k1) k1 rfl rfl rfl (fun _ => by kernel_rfl) (by decide) gt) t2 (fun y1 h2 => ?_)
     refine dtM 4 u1 h2 t2 (fun y1 k1 => ?_)
     refine dtN 5 u1 k1 t2 (fun y1 h2 => ?_)
     refine dtF 6 2 u1 h2 t2 Tryd.underlying74 sz22 (fun y1 k1 => ?_)
     refine dtC 7 1 u1 k1 t2 Tryd.underlying22 (fun y1 h2 => ?_)
     refine dtM 8 u1 h2 t2 (fun y1 k1 => ?_)
     refine dtM 9 u1 k1 t2 (fun y1 h2 => ?_)
     refine d1 10 ?_
     have y1 := m2.data (dAll [((cbA, cbc, cb) : Sl), ((n0, p0, z0) : Sl), ((s1, q2, z1) : Sl)]) (all_cons (m2.get (i := 2) rfl) (all_cons (m2.get (i := 18) rfl) (all_cons (m2.get (i := 32) rfl) all_nil)))
     refine mbs [(0, .tmp 113), (1, .tmp 114), (2, .tmp 115)] [.slice cbA cb.length cbc, .slice n0 z0.length p0, .slice s1 z1.length q2] (st_opV rfl (want_n rfl)) h2 y1 Tryd.underlying39 zi22 (fun m2 k1 t2 f2 i2 => ?_)
     have k1 := sWI i2 33 (pB 0 1 pn)
     refine ⟨k1, ?_⟩
     refine d1 11 ?_
     have k1 := i2.nf
     have i2 := own_cap (k1.res (i := 1) rfl)
     obtain ⟨m2, y1⟩ := k1.row_dataM (i := 1) rfl (j := 0) rfl (by decide)
     have k1 := m2.data (dRow 1 (some ⟨t2, 0, none⟩) 3 3 (encSs ([((cbA, cbc, cb) : Sl), ((n0, p0, z0) : Sl), ((s1, q2, z1) : Sl)]))) ⟨i2, y1⟩
     refine k_call (xs := [.tmp 108, .tmp 109, .tmp 116]) (st_op rfl (want_n rfl)) f2 rfl rfl rfl (by decide) ok93 (node_calls _ _ k1.il _ _ _ _ (⟨7, 0, 0, (⟨#[]⟩ : ByteArray)⟩ : Nd) _ _ ([((cbA, cbc, cb) : Sl), ((n0, p0, z0) : Sl), ((s1, q2, z1) : Sl)]) (k1.z 0) (imm_box (i := 0) rfl) (k1.g 35) (k1.g 34) (hb := (by simp; omega))) ?_
     rintro f2 y1 ⟨m2, i2, t2, rfl, h2, q1, o1, x1⟩
     have y1 := k1.callM (i := 0) rfl h2 q1
     have q1 := k1.dM 0 y1 o1
     refine ⟨_, rfl, fun y1 o1 => ?_⟩
     have y1 : t2.length ≤ (lsts ([((cbA, cbc, cb) : Sl), ((n0, p0, z0) : Sl), ((s1, q2, z1) : Sl)])).flatten.length + 1 := by rw [x1]; exact noL_len
     simp only [lsts, List.map_cons, List.map_nil, List.flatten_cons, List.flatten_nil, List.length_append, List.length_nil] at y1
     have y1 : sml t2 := by rw [x1]; exact noL_sml (by first | decide | assumption) (by simp only [lsts, List.map_cons, List.map_nil, List.mem_cons, List.not_mem_nil, or_false, forall_eq_or_imp, forall_eq]; first | assumption | (and_intros <;> assumption))
     have y1 := sWI q1 33 (pB 0 1 pn)
     refine ⟨y1, ?_⟩
     refine dtA 12 u1 o1 y1 (fun z1 q2 => ?_)
     refine wpAnyH_done (by kernel_rfl) (s2 _ _ ?_) _
     refine x_then_n (p2 _ _ ?_)
     refine wp_ret ?_
     refine e_ret1 q2 rfl rfl rfl ?_
     refine ⟨m2, i2, t2, ?_, q1.fr, (by rw [show (sgE ce (agA ca) (agA cb) ct cn.N : Int) = (((((inQ ((inQ ((((((((ce)))))))) ((nthS j0 1).2.2) (lsts ([((d0, u0, k0) : Sl)])))) ((nthS o0 1).2.2) (lsts ([((n0, p0, z0) : Sl)]))))))) by (unfold sgE; simp only [lsts_nth, t0, v0, x0, y0, f1, h1, j1, k2, b2, u2, t1, x1, i1, if_true, if_false]; first | done | rfl)]; exact q1.res (i := 0) rfl), q1.rx 36, (by unfold sgL sgE; simp only [lsts_nth, t0, v0, x0, y0, f1, h1, j1, k2, b2, u2, t1, x1, i1, if_true, if_false]; first | done | rfl)⟩
     exact congrArg Ending.returned (ret_s (by first | rfl | (simp; done)))
    ·
     have q1 := j2.data (dAll [((n0, p0, z0) : Sl)]) (all_cons (j2.get (i := 18) rfl) all_nil)
     refine mbs [(0, .tmp 92)] [.slice n0 z0.length p0] (st_opV rfl (want_n rfl)) d2 q1 Tryd.underlying39 zi22 (fun j2 x1 t2 i2 m2 => ?_)
     have x1 := sWI m2 20 (pB 0 1 pn)
     refine ⟨x1, ?_⟩
     refine d1 11 ?_
     have x1 := m2.nf
     have m2 := own_cap (x1.res (i := 1) rfl)
     obtain ⟨j2, q1⟩ := x1.row_dataM (i := 1) rfl (j := 0) rfl (by decide)
     have x1 := j2.data (dRow 1 (some ⟨b1, 0, none⟩) 1 1 (encSs ([((d0, u0, k0) : Sl)]))) ⟨m2, q1⟩
     refine k_call (xs := [.tmp 79, .tmp 82, .tmp 84]) (st_op rfl (want_n rfl)) i2 rfl rfl rfl (by decide) ok121 (minst_calls _ _ x1.il _ _ _ _ _ _ ((nthS j0 1).2.2) _ _ ([((d0, u0, k0) : Sl)]) (x1.g 0) (x1.z 0) (imm_box (i := 0) rfl) (x1.g 21) (x1.g 26) (x1.g 23) (hsm := (by assumption)) (hl := (by omega)) (hls := (by simp only [lsts, List.map_cons, List.map_nil, List.mem_cons, List.not_mem_nil, or_false, forall_eq_or_imp, forall_eq]; first | assumption | omega | (and_intros <;> first | assumption | omega))) (hlb := (by simp only [lsts, List.map_cons, List.map_nil, List.mem_cons, List.not_mem_nil, or_false, forall_eq_or_imp, forall_eq]; first | assumption | omega | (and_intros <;> first | assumption | omega))) (hl0 := (by simp))) ?_
     rintro i2 q1 ⟨j2, m2, b1, rfl, d2, t1, u2, b2⟩
     have b1 := x1.callM (i := 0) rfl d2 t1
     have t1 := x1.dM 0 b1 u2
     refine ⟨_, rfl, fun b1 u2 => ?_⟩
     obtain ⟨b1, x1⟩ := inZ b2 (by assumption) (by simp only [lsts, List.map_cons, List.map_nil, List.mem_cons, List.not_mem_nil, or_false, forall_eq_or_imp, forall_eq]; first | assumption | (and_intros <;> assumption))
     have x1 := sWI t1 20 (pB 0 1 pn)
     refine ⟨x1, ?_⟩
     refine d1 20 ?_
     have x1 := t1.nf
     have t1 := own_cap (x1.res (i := 2) rfl)
     obtain ⟨b1, d2⟩ := x1.row_dataM (i := 2) rfl (j := 0) rfl (by decide)
     have x1 := b1.data (dRow 1 (some ⟨t2, 0, none⟩) 1 1 (encSs ([((n0, p0, z0) : Sl)]))) ⟨t1, d2⟩
     refine k_call (xs := [.tmp 88, .tmp 91, .tmp 93]) (st_op rfl (want_n rfl)) u2 rfl rfl rfl (by decide) ok121 (minst_calls _ _ x1.il _ _ _ _ _ _ ((nthS o0 1).2.2) _ _ ([((n0, p0, z0) : Sl)]) (x1.g 0) (x1.z 0) (imm_box (i := 0) rfl) (x1.g 22) (x1.g 28) (x1.g 25) (hsm := (by assumption)) (hl := (by omega)) (hls := (by simp only [lsts, List.map_cons, List.map_nil, List.mem_cons, List.not_mem_nil, or_false, forall_eq_or_imp, forall_eq]; first | assumption | omega | (and_intros <;> first | assumption | omega))) (hlb := (by simp only [lsts, List.map_cons, List.map_nil, List.mem_cons, List.not_mem_nil, or_false, forall_eq_or_imp, forall_eq]; first | assumption | omega | (and_intros <;> first | assumption | omega))) (hl0 := (by simp))) ?_
     rintro u2 d2 ⟨b1, t1, t2, rfl, m2, j2, q1, i2⟩
     have t2 := x1.callM (i := 0) rfl m2 j2
     have j2 := x1.dM 0 t2 q1
     refine ⟨_, rfl, fun t2 q1 => ?_⟩
     obtain ⟨t2, x1⟩ := inZ i2 (by assumption) (by simp only [lsts, List.map_cons, List.map_nil, List.mem_cons, List.not_mem_nil, or_false, forall_eq_or_imp, forall_eq]; first | assumption | (and_intros <;> assumption))
     have x1 := sWI j2 20 (pB 0 1 pn)
     refine ⟨x1, ?_⟩
     refine d1 30 ?_
     have x1 := j2.nf
     have j2 := own_cap (x1.res (i := 1) rfl)
     obtain ⟨t2, m2⟩ := x1.row_dataM (i := 1) rfl (j := 0) rfl (by decide)
     have x1 := t2.data (dRow 1 (some ⟨v1, 0, none⟩) 1 1 (encSs ([((ctA, ctc, ct) : Sl)]))) ⟨j2, m2⟩
     refine k_call (xs := [.tmp 97, .tmp 98, .tmp 103]) (st_op rfl (want_n rfl)) q1 rfl rfl rfl (by decide) ok93 (node_calls _ _ x1.il _ _ _ _ (⟨9, 0, 0, (⟨#[]⟩ : ByteArray)⟩ : Nd) _ _ ([((ctA, ctc, ct) : Sl)]) (x1.z 0) (imm_box (i := 0) rfl) (x1.g 30) (x1.g 24) (hb := (by simp; omega))) ?_
     rintro q1 m2 ⟨t2, j2, v1, rfl, t1, b1, d2, u2⟩
     have v1 := x1.callM (i := 0) rfl t1 b1
     have b1 := x1.dM 0 v1 d2
     refine ⟨_, rfl, fun v1 d2 => ?_⟩
     obtain ⟨v1, x1⟩ := noZ1 u2 (by first | decide | assumption) (by assumption)
     have x1 := sWI b1 20 (pB 0 1 pn)
     refine ⟨x1, ?_⟩
     refine d1 31 ?_
     have x1 := b1.nf
     refine k_call (xs := [.tmp 76, .tmp 85, .tmp 94, .tmp 104]) (st_op rfl (want_n rfl)) d2 rfl rfl rfl (by decide) ok94 (cast_calls _ _ x1.il _ _ _ _ _ _ _ _ _ _ _ _ _ (x1.z 0) (imm_box (i := 0) rfl) (x1.g 27) (x1.g 29) (x1.g 31)) ?_
     rintro d2 b1 ⟨v1, t1, j2, rfl, t2, m2, q1, k2⟩
     have b1 := x1.callM (i := 0) rfl t2 m2
     have m2 := x1.dM 0 b1 q1
     refine ⟨_, rfl, fun b1 q1 => ?_⟩
     obtain ⟨b1, x1⟩ := caZ k2 (by assumption) (by assumption) (by assumption)
     have x1 := sWI m2 20 (pB 0 1 pn)
     refine ⟨x1, ?_⟩
     refine dtA 32 m1 q1 x1 (fun b1 t2 => ?_)
     refine wpAnyH_done (by kernel_rfl) (n1 _ _ ?_) _
     refine x_then_n (q0 _ _ ?_)
     refine wp_seq_k (fun b1 x1 => ?_)
     obtain ⟨b1, q1, d2⟩ := m2.agree
     refine d_reg3 (n := 13) d2 33 (pB 0 1 pn) (pan_then pan_body) (fun q1 b1 m2 q2 p2 s2 => ?_)
     refine dtM 0 b1 t2 s2 (fun q2 q1 => ?_)
     refine dtN 1 b1 q1 s2 (fun q2 t2 => ?_)
     refine dtF 2 0 b1 t2 s2 Tryd.underlying74 sz72 (fun q2 q1 => ?_)
     refine dt 3 rfl b1 q1 (want_n rfl) (fun x hx => m_build (ps := [(0, .const (.int .i64 7))]) (v := .agg #[.int .i64 7, .int .i64 0, .int .i64 0, .string (⟨#[]⟩ : ByteArray)]) (sy q1) q1 rfl rfl rfl (fun _ => by kernel_rfl) (by decide) gt) s2 (fun q2 t2 => ?_)
     refine dtM 4 b1 t2 s2 (fun q2 q1 => ?_)
     refine dtN 5 b1 q1 s2 (fun q2 t2 => ?_)
     refine dtF 6 2 b1 t2 s2 Tryd.underlying74 sz22 (fun q2 q1 => ?_)
     refine dtC 7 1 b1 q1 s2 Tryd.underlying22 (fun q2 t2 => ?_)
     refine dtM 8 b1 t2 s2 (fun q2 q1 => ?_)
     refine dtM 9 b1 q1 s2 (fun q2 t2 => ?_)
     refine d1 10 ?_
     have q2 := p2.data (dAll [((cbA, cbc, cb) : Sl), ((n0, p0, z0) : Sl), ((v1, t1, j2) : Sl)]) (all_cons (p2.get (i := 2) rfl) (all_cons (p2.get (i := 18) rfl) (all_cons (p2.get (i := 32) rfl) all_nil)))
     refine mbs [(0, .tmp 113), (1, .tmp 114), (2, .tmp 115)] [.slice cbA cb.length cbc, .slice n0 z0.length p0, .slice v1 j2.length t1] (st_opV rfl (want_n rfl)) t2 q2 Tryd.underlying39 zi22 (fun p2 q1 s2 d2 z1 => ?_)
     have q1 := sWI z1 33 (pB 0 1 pn)
     refine ⟨q1, ?_⟩
     refine d1 11 ?_
     have q1 := z1.nf
     have z1 := own_cap (q1.res (i := 1) rfl)
     obtain ⟨p2, q2⟩ := q1.row_dataM (i := 1) rfl (j := 0) rfl (by decide)
     have q1 := p2.data (dRow 1 (some ⟨s2, 0, none⟩) 3 3 (encSs ([((cbA, cbc, cb) : Sl), ((n0, p0, z0) : Sl), ((v1, t1, j2) : Sl)]))) ⟨z1, q2⟩
     refine k_call (xs := [.tmp 108, .tmp 109, .tmp 116]) (st_op rfl (want_n rfl)) d2 rfl rfl rfl (by decide) ok93 (node_calls _ _ q1.il _ _ _ _ (⟨7, 0, 0, (⟨#[]⟩ : ByteArray)⟩ : Nd) _ _ ([((cbA, cbc, cb) : Sl), ((n0, p0, z0) : Sl), ((v1, t1, j2) : Sl)]) (q1.z 0) (imm_box (i := 0) rfl) (q1.g 35) (q1.g 34) (hb := (by simp; omega))) ?_
     rintro d2 q2 ⟨p2, z1, s2, rfl, t2, y1, o1, u1⟩
     have q2 := q1.callM (i := 0) rfl t2 y1
     have y1 := q1.dM 0 q2 o1
     refine ⟨_, rfl, fun q2 o1 => ?_⟩
     have q2 : s2.length ≤ (lsts ([((cbA, cbc, cb) : Sl), ((n0, p0, z0) : Sl), ((v1, t1, j2) : Sl)])).flatten.length + 1 := by rw [u1]; exact noL_len
     simp only [lsts, List.map_cons, List.map_nil, List.flatten_cons, List.flatten_nil, List.length_append, List.length_nil] at q2
     have q2 : sml s2 := by rw [u1]; exact noL_sml (by first | decide | assumption) (by simp only [lsts, List.map_cons, List.map_nil, List.mem_cons, List.not_mem_nil, or_false, forall_eq_or_imp, forall_eq]; first | assumption | (and_intros <;> assumption))
     have q2 := sWI y1 33 (pB 0 1 pn)
     refine ⟨q2, ?_⟩
     refine dtA 12 b1 o1 q2 (fun j2 t1 => ?_)
     refine wpAnyH_done (by kernel_rfl) (m2 _ _ ?_) _
     refine x_then_n (x1 _ _ ?_)
     refine wp_ret ?_
     refine e_ret1 t1 rfl rfl rfl ?_
     refine ⟨p2, z1, s2, ?_, y1.fr, (by rw [show (sgE ce (agA ca) (agA cb) ct cn.N : Int) = (((((inQ ((inQ ((((((((ce)))))))) ((nthS j0 1).2.2) (lsts ([((d0, u0, k0) : Sl)])))) ((nthS o0 1).2.2) (lsts ([((n0, p0, z0) : Sl)]))))))) by (unfold sgE; simp only [lsts_nth, t0, v0, x0, y0, f1, h1, j1, b2, i2, u2, k2, u1, i1, if_true, if_false]; first | done | rfl)]; exact y1.res (i := 0) rfl), y1.rx 36, (by unfold sgL sgE; simp only [lsts_nth, t0, v0, x0, y0, f1, h1, j1, b2, i2, u2, k2, u1, i1, if_true, if_false]; first | done | rfl)⟩
     exact congrArg Ending.returned (ret_s (by first | rfl | (simp; done)))
  ·
   have y1 := p1.data (dAll [((n0, p0, z0) : Sl)]) (all_cons (p1.get (i := 18) rfl) all_nil)
   refine mbs [(0, .tmp 92)] [.slice n0 z0.length p0] (st_opV rfl (want_n rfl)) s0 y1 Tryd.underlying39 zi22 (fun u1 s2 z1 p2 k2 => ?_)
   have s2 := sWI k2 20 (pB 0 1 pn)
   refine ⟨s2, ?_⟩
   refine wpAnyH_all (rs := [10, 29]) (by kernel_rfl) (by simp) ?_
   rintro i s2
   simp only [List.mem_cons, List.not_mem_nil, or_false] at s2
   rcases s2 with rfl | rfl
   ·
    have s2 := k2.data (dAll [((d0, u0, k0) : Sl)]) (all_cons (k2.get (i := 13) rfl) all_nil)
    refine mbs [(0, .tmp 83)] [.slice d0 k0.length u0] (st_opV rfl (want_n rfl)) p2 s2 Tryd.underlying39 zi22 (fun u1 y1 u2 i2 b2 => ?_)
    have y1 := sWI b2 20 (pB 0 1 pn)
    refine ⟨y1, ?_⟩
    refine wpAnyH_all (rs := [11, 29]) (by kernel_rfl) (by simp) ?_
    rintro i y1
    simp only [List.mem_cons, List.not_mem_nil, or_false] at y1
    rcases y1 with rfl | rfl
    ·
     have y1 := b2.nf
     have u1 := own_cap (y1.res (i := 2) rfl)
     obtain ⟨s2, t1⟩ := y1.row_dataM (i := 2) rfl (j := 0) rfl (by decide)
     have y1 := s2.data (dRow 1 (some ⟨u2, 0, none⟩) 1 1 (encSs ([((d0, u0, k0) : Sl)]))) ⟨u1, t1⟩
     refine k_call (xs := [.tmp 79, .tmp 82, .tmp 84]) (st_op rfl (want_n rfl)) i2 rfl rfl rfl (by decide) ok121 (minst_calls _ _ y1.il _ _ _ _ _ _ ((nthS j0 1).2.2) _ _ ([((d0, u0, k0) : Sl)]) (y1.g 0) (y1.z 0) (imm_box (i := 0) rfl) (y1.g 21) (y1.g 25) (y1.g 24) (hsm := (by assumption)) (hl := (by omega)) (hls := (by simp only [lsts, List.map_cons, List.map_nil, List.mem_cons, List.not_mem_nil, or_false, forall_eq_or_imp, forall_eq]; first | assumption | omega | (and_intros <;> first | assumption | omega))) (hlb := (by simp only [lsts, List.map_cons, List.map_nil, List.mem_cons, List.not_mem_nil, or_false, forall_eq_or_imp, forall_eq]; first | assumption | omega | (and_intros <;> first | assumption | omega))) (hl0 := (by simp))) ?_
     rintro t1 s2 ⟨u1, x1, m2, rfl, j2, q2, o1, b1⟩
     have m2 := y1.callM (i := 0) rfl j2 q2
     have q2 := y1.dM 0 m2 o1
     refine ⟨_, rfl, fun m2 o1 => ?_⟩
     obtain ⟨m2, y1⟩ := inZ b1 (by assumption) (by simp only [lsts, List.map_cons, List.map_nil, List.mem_cons, List.not_mem_nil, or_false, forall_eq_or_imp, forall_eq]; first | assumption | (and_intros <;> assumption))
     have y1 := sWI q2 20 (pB 0 1 pn)
     refine ⟨y1, ?_⟩
     refine wpAnyH_all (rs := [20, 29]) (by kernel_rfl) (by simp) ?_
     rintro i y1
     simp only [List.mem_cons, List.not_mem_nil, or_false] at y1
     rcases y1 with rfl | rfl
     ·
      have y1 := q2.nf
      have m2 := own_cap (y1.res (i := 1) rfl)
      obtain ⟨j2, x1⟩ := y1.row_dataM (i := 1) rfl (j := 0) rfl (by decide)
      have y1 := j2.data (dRow 1 (some ⟨z1, 0, none⟩) 1 1 (encSs ([((n0, p0, z0) : Sl)]))) ⟨m2, x1⟩
      refine k_call (xs := [.tmp 88, .tmp 91, .tmp 93]) (st_op rfl (want_n rfl)) o1 rfl rfl rfl (by decide) ok121 (minst_calls _ _ y1.il _ _ _ _ _ _ ((nthS o0 1).2.2) _ _ ([((n0, p0, z0) : Sl)]) (y1.g 0) (y1.z 0) (imm_box (i := 0) rfl) (y1.g 22) (y1.g 27) (y1.g 23) (hsm := (by assumption)) (hl := (by omega)) (hls := (by simp only [lsts, List.map_cons, List.map_nil, List.mem_cons, List.not_mem_nil, or_false, forall_eq_or_imp, forall_eq]; first | assumption | omega | (and_intros <;> first | assumption | omega))) (hlb := (by simp only [lsts, List.map_cons, List.map_nil, List.mem_cons, List.not_mem_nil, or_false, forall_eq_or_imp, forall_eq]; first | assumption | omega | (and_intros <;> first | assumption | omega))) (hl0 := (by simp))) ?_
      rintro x1 j2 ⟨m2, u1, s2, rfl, t1, v1, q1, t2⟩
      have s2 := y1.callM (i := 0) rfl t1 v1
      have v1 := y1.dM 0 s2 q1
      refine ⟨_, rfl, fun s2 q1 => ?_⟩
      obtain ⟨s2, y1⟩ := inZ t2 (by assumption) (by simp only [lsts, List.map_cons, List.map_nil, List.mem_cons, List.not_mem_nil, or_false, forall_eq_or_imp, forall_eq]; first | assumption | (and_intros <;> assumption))
      have y1 := sWI v1 20 (pB 0 1 pn)
      refine ⟨y1, ?_⟩
      refine d1 29 ?_
      have y1 := v1.data (dAll [((ctA, ctc, ct) : Sl)]) (all_cons (v1.get (i := 3) rfl) all_nil)
      refine mbs [(0, .tmp 102)] [.slice ctA ct.length ctc] (st_opV rfl (want_n rfl)) q1 y1 Tryd.underlying39 zi22 (fun v1 s2 t1 u1 m2 => ?_)
      have s2 := sWI m2 20 (pB 0 1 pn)
      refine ⟨s2, ?_⟩
      refine d1 30 ?_
      have s2 := m2.nf
      have m2 := own_cap (s2.res (i := 1) rfl)
      obtain ⟨v1, y1⟩ := s2.row_dataM (i := 1) rfl (j := 0) rfl (by decide)
      have s2 := v1.data (dRow 1 (some ⟨t1, 0, none⟩) 1 1 (encSs ([((ctA, ctc, ct) : Sl)]))) ⟨m2, y1⟩
      refine k_call (xs := [.tmp 97, .tmp 98, .tmp 103]) (st_op rfl (want_n rfl)) u1 rfl rfl rfl (by decide) ok93 (node_calls _ _ s2.il _ _ _ _ (⟨9, 0, 0, (⟨#[]⟩ : ByteArray)⟩ : Nd) _ _ ([((ctA, ctc, ct) : Sl)]) (s2.z 0) (imm_box (i := 0) rfl) (s2.g 30) (s2.g 29) (hb := (by simp; omega))) ?_
      rintro u1 y1 ⟨v1, m2, t1, rfl, q1, j2, x1, d2⟩
      have t1 := s2.callM (i := 0) rfl q1 j2
      have j2 := s2.dM 0 t1 x1
      refine ⟨_, rfl, fun t1 x1 => ?_⟩
      obtain ⟨t1, s2⟩ := noZ1 d2 (by first | decide | assumption) (by assumption)
      have s2 := sWI j2 20 (pB 0 1 pn)
      refine ⟨s2, ?_⟩
      refine d1 31 ?_
      have s2 := j2.nf
      refine k_call (xs := [.tmp 76, .tmp 85, .tmp 94, .tmp 104]) (st_op rfl (want_n rfl)) x1 rfl rfl rfl (by decide) ok94 (cast_calls _ _ s2.il _ _ _ _ _ _ _ _ _ _ _ _ _ (s2.z 0) (imm_box (i := 0) rfl) (s2.g 26) (s2.g 28) (s2.g 31)) ?_
      rintro x1 j2 ⟨t1, q1, m2, rfl, v1, y1, u1, s1⟩
      have j2 := s2.callM (i := 0) rfl v1 y1
      have y1 := s2.dM 0 j2 u1
      refine ⟨_, rfl, fun j2 u1 => ?_⟩
      obtain ⟨j2, s2⟩ := caZ s1 (by assumption) (by assumption) (by assumption)
      have s2 := sWI y1 20 (pB 0 1 pn)
      refine ⟨s2, ?_⟩
      refine dtA 32 m1 u1 s2 (fun j2 v1 => ?_)
      refine wpAnyH_done (by kernel_rfl) (n1 _ _ ?_) _
      refine x_then_n (q0 _ _ ?_)
      refine wp_seq_k (fun j2 s2 => ?_)
      obtain ⟨j2, u1, x1⟩ := y1.agree
      refine d_reg3 (n := 13) x1 33 (pB 0 1 pn) (pan_then pan_body) (fun u1 j2 y1 k1 h2 f2 => ?_)
      refine dtM 0 j2 v1 f2 (fun k1 u1 => ?_)
      refine dtN 1 j2 u1 f2 (fun k1 v1 => ?_)
      refine dtF 2 0 j2 v1 f2 Tryd.underlying74 sz72 (fun k1 u1 => ?_)
      refine dt 3 rfl j2 u1 (want_n rfl) (fun x hx => m_build (ps := [(0, .const (.int .i64 7))]) (v := .agg #[.int .i64 7, .int .i64 0, .int .i64 0, .string (⟨#[]⟩ : ByteArray)]) (sy u1) u1 rfl rfl rfl (fun _ => by kernel_rfl) (by decide) gt) f2 (fun k1 v1 => ?_)
      refine dtM 4 j2 v1 f2 (fun k1 u1 => ?_)
      refine dtN 5 j2 u1 f2 (fun k1 v1 => ?_)
      refine dtF 6 2 j2 v1 f2 Tryd.underlying74 sz22 (fun k1 u1 => ?_)
      refine dtC 7 1 j2 u1 f2 Tryd.underlying22 (fun k1 v1 => ?_)
      refine dtM 8 j2 v1 f2 (fun k1 u1 => ?_)
      refine dtM 9 j2 u1 f2 (fun k1 v1 => ?_)
      refine d1 10 ?_
      have k1 := h2.data (dAll [((cbA, cbc, cb) : Sl), ((n0, p0, z0) : Sl), ((t1, q1, m2) : Sl)]) (all_cons (h2.get (i := 2) rfl) (all_cons (h2.get (i := 18) rfl) (all_cons (h2.get (i := 32) rfl) all_nil)))
      refine mbs [(0, .tmp 113), (1, .tmp 114), (2, .tmp 115)] [.slice cbA cb.length cbc, .slice n0 z0.length p0, .slice t1 m2.length q1] (st_opV rfl (want_n rfl)) v1 k1 Tryd.underlying39 zi22 (fun h2 u1 f2 x1 n2 => ?_)
      have u1 := sWI n2 33 (pB 0 1 pn)
      refine ⟨u1, ?_⟩
      refine d1 11 ?_
      have u1 := n2.nf
      have n2 := own_cap (u1.res (i := 1) rfl)
      obtain ⟨h2, k1⟩ := u1.row_dataM (i := 1) rfl (j := 0) rfl (by decide)
      have u1 := h2.data (dRow 1 (some ⟨f2, 0, none⟩) 3 3 (encSs ([((cbA, cbc, cb) : Sl), ((n0, p0, z0) : Sl), ((t1, q1, m2) : Sl)]))) ⟨n2, k1⟩
      refine k_call (xs := [.tmp 108, .tmp 109, .tmp 116]) (st_op rfl (want_n rfl)) x1 rfl rfl rfl (by decide) ok93 (node_calls _ _ u1.il _ _ _ _ (⟨7, 0, 0, (⟨#[]⟩ : ByteArray)⟩ : Nd) _ _ ([((cbA, cbc, cb) : Sl), ((n0, p0, z0) : Sl), ((t1, q1, m2) : Sl)]) (u1.z 0) (imm_box (i := 0) rfl) (u1.g 35) (u1.g 34) (hb := (by simp; omega))) ?_
      rintro x1 k1 ⟨h2, n2, f2, rfl, v1, c2, i0, o2⟩
      have k1 := u1.callM (i := 0) rfl v1 c2
      have c2 := u1.dM 0 k1 i0
      refine ⟨_, rfl, fun k1 i0 => ?_⟩
      have k1 : f2.length ≤ (lsts ([((cbA, cbc, cb) : Sl), ((n0, p0, z0) : Sl), ((t1, q1, m2) : Sl)])).flatten.length + 1 := by rw [o2]; exact noL_len
      simp only [lsts, List.map_cons, List.map_nil, List.flatten_cons, List.flatten_nil, List.length_append, List.length_nil] at k1
      have k1 : sml f2 := by rw [o2]; exact noL_sml (by first | decide | assumption) (by simp only [lsts, List.map_cons, List.map_nil, List.mem_cons, List.not_mem_nil, or_false, forall_eq_or_imp, forall_eq]; first | assumption | (and_intros <;> assumption))
      have k1 := sWI c2 33 (pB 0 1 pn)
      refine ⟨k1, ?_⟩
      refine dtA 12 j2 i0 k1 (fun m2 q1 => ?_)
      refine wpAnyH_done (by kernel_rfl) (y1 _ _ ?_) _
      refine x_then_n (s2 _ _ ?_)
      refine wp_ret ?_
      refine e_ret1 q1 rfl rfl rfl ?_
      refine ⟨h2, n2, f2, ?_, c2.fr, (by rw [show (sgE ce (agA ca) (agA cb) ct cn.N : Int) = (((((inQ ((inQ ((((((((ce)))))))) ((nthS j0 1).2.2) (lsts ([((d0, u0, k0) : Sl)])))) ((nthS o0 1).2.2) (lsts ([((n0, p0, z0) : Sl)]))))))) by (unfold sgE; simp only [lsts_nth, t0, v0, x0, y0, f1, h1, j1, b1, t2, d2, s1, o2, i1, if_true, if_false]; first | done | rfl)]; exact c2.res (i := 0) rfl), c2.rx 36, (by unfold sgL sgE; simp only [lsts_nth, t0, v0, x0, y0, f1, h1, j1, b1, t2, d2, s1, o2, i1, if_true, if_false]; first | done | rfl)⟩
      exact congrArg Ending.returned (ret_s (by first | rfl | (simp; done)))
     ·
      have c2 := q2.data (dAll [((ctA, ctc, ct) : Sl)]) (all_cons (q2.get (i := 3) rfl) all_nil)
      refine mbs [(0, .tmp 102)] [.slice ctA ct.length ctc] (st_opV rfl (want_n rfl)) o1 c2 Tryd.underlying39 zi22 (fun q2 o2 f2 n2 h2 => ?_)
      have o2 := sWI h2 20 (pB 0 1 pn)
      refine ⟨o2, ?_⟩
      refine d1 20 ?_
      have o2 := h2.nf
      have h2 := own_cap (o2.res (i := 1) rfl)
      obtain ⟨q2, c2⟩ := o2.row_dataM (i := 1) rfl (j := 0) rfl (by decide)
      have o2 := q2.data (dRow 1 (some ⟨z1, 0, none⟩) 1 1 (encSs ([((n0, p0, z0) : Sl)]))) ⟨h2, c2⟩
      refine k_call (xs := [.tmp 88, .tmp 91, .tmp 93]) (st_op rfl (want_n rfl)) n2 rfl rfl rfl (by decide) ok121 (minst_calls _ _ o2.il _ _ _ _ _ _ ((nthS o0 1).2.2) _ _ ([((n0, p0, z0) : Sl)]) (o2.g 0) (o2.z 0) (imm_box (i := 0) rfl) (o2.g 22) (o2.g 28) (o2.g 23) (hsm := (by assumption)) (hl := (by omega)) (hls := (by simp only [lsts, List.map_cons, List.map_nil, List.mem_cons, List.not_mem_nil, or_false, forall_eq_or_imp, forall_eq]; first | assumption | omega | (and_intros <;> first | assumption | omega))) (hlb := (by simp only [lsts, List.map_cons, List.map_nil, List.mem_cons, List.not_mem_nil, or_false, forall_eq_or_imp, forall_eq]; first | assumption | omega | (and_intros <;> first | assumption | omega))) (hl0 := (by simp))) ?_
      rintro n2 c2 ⟨q2, h2, o1, rfl, s1, d2, t2, q1⟩
      have o1 := o2.callM (i := 0) rfl s1 d2
      have d2 := o2.dM 0 o1 t2
      refine ⟨_, rfl, fun o1 t2 => ?_⟩
      obtain ⟨o1, o2⟩ := inZ q1 (by assumption) (by simp only [lsts, List.map_cons, List.map_nil, List.mem_cons, List.not_mem_nil, or_false, forall_eq_or_imp, forall_eq]; first | assumption | (and_intros <;> assumption))
      have o2 := sWI d2 20 (pB 0 1 pn)
      refine ⟨o2, ?_⟩
      refine d1 30 ?_
      have o2 := d2.nf
      have d2 := own_cap (o2.res (i := 1) rfl)
      obtain ⟨o1, s1⟩ := o2.row_dataM (i := 1) rfl (j := 0) rfl (by decide)
      have o2 := o1.data (dRow 1 (some ⟨f2, 0, none⟩) 1 1 (encSs ([((ctA, ctc, ct) : Sl)]))) ⟨d2, s1⟩
      refine k_call (xs := [.tmp 97, .tmp 98, .tmp 103]) (st_op rfl (want_n rfl)) t2 rfl rfl rfl (by decide) ok93 (node_calls _ _ o2.il _ _ _ _ (⟨9, 0, 0, (⟨#[]⟩ : ByteArray)⟩ : Nd) _ _ ([((ctA, ctc, ct) : Sl)]) (o2.z 0) (imm_box (i := 0) rfl) (o2.g 30) (o2.g 27) (hb := (by simp; omega))) ?_
      rintro t2 s1 ⟨o1, d2, f2, rfl, h2, q2, c2, n2⟩
      have f2 := o2.callM (i := 0) rfl h2 q2
      have q2 := o2.dM 0 f2 c2
      refine ⟨_, rfl, fun f2 c2 => ?_⟩
      obtain ⟨f2, o2⟩ := noZ1 n2 (by first | decide | assumption) (by assumption)
      have o2 := sWI q2 20 (pB 0 1 pn)
      refine ⟨o2, ?_⟩
      refine d1 31 ?_
      have o2 := q2.nf
      refine k_call (xs := [.tmp 76, .tmp 85, .tmp 94, .tmp 104]) (st_op rfl (want_n rfl)) c2 rfl rfl rfl (by decide) ok94 (cast_calls _ _ o2.il _ _ _ _ _ _ _ _ _ _ _ _ _ (o2.z 0) (imm_box (i := 0) rfl) (o2.g 26) (o2.g 29) (o2.g 31)) ?_
      rintro c2 q2 ⟨f2, h2, d2, rfl, o1, s1, t2, s2⟩
      have q2 := o2.callM (i := 0) rfl o1 s1
      have s1 := o2.dM 0 q2 t2
      refine ⟨_, rfl, fun q2 t2 => ?_⟩
      obtain ⟨q2, o2⟩ := caZ s2 (by assumption) (by assumption) (by assumption)
      have o2 := sWI s1 20 (pB 0 1 pn)
      refine ⟨o2, ?_⟩
      refine dtA 32 m1 t2 o2 (fun q2 o1 => ?_)
      refine wpAnyH_done (by kernel_rfl) (n1 _ _ ?_) _
      refine x_then_n (q0 _ _ ?_)
      refine wp_seq_k (fun q2 o2 => ?_)
      obtain ⟨q2, t2, c2⟩ := s1.agree
      refine d_reg3 (n := 13) c2 33 (pB 0 1 pn) (pan_then pan_body) (fun t2 q2 s1 y1 m2 k1 => ?_)
      refine dtM 0 q2 o1 k1 (fun y1 t2 => ?_)
      refine dtN 1 q2 t2 k1 (fun y1 o1 => ?_)
      refine dtF 2 0 q2 o1 k1 Tryd.underlying74 sz72 (fun y1 t2 => ?_)
      refine dt 3 rfl q2 t2 (want_n rfl) (fun x hx => m_build (ps := [(0, .const (.int .i64 7))]) (v := .agg #[.int .i64 7, .int .i64 0, .int .i64 0, .string (⟨#[]⟩ : ByteArray)]) (sy t2) t2 rfl rfl rfl (fun _ => by kernel_rfl) (by decide) gt) k1 (fun y1 o1 => ?_)
      refine dtM 4 q2 o1 k1 (fun y1 t2 => ?_)
      refine dtN 5 q2 t2 k1 (fun y1 o1 => ?_)
      refine dtF 6 2 q2 o1 k1 Tryd.underlying74 sz22 (fun y1 t2 => ?_)
      refine dtC 7 1 q2 t2 k1 Tryd.underlying22 (fun y1 o1 => ?_)
      refine dtM 8 q2 o1 k1 (fun y1 t2 => ?_)
      refine dtM 9 q2 t2 k1 (fun y1 o1 => ?_)
      refine d1 10 ?_
      have y1 := m2.data (dAll [((cbA, cbc, cb) : Sl), ((n0, p0, z0) : Sl), ((f2, h2, d2) : Sl)]) (all_cons (m2.get (i := 2) rfl) (all_cons (m2.get (i := 18) rfl) (all_cons (m2.get (i := 32) rfl) all_nil)))
      refine mbs [(0, .tmp 113), (1, .tmp 114), (2, .tmp 115)] [.slice cbA cb.length cbc, .slice n0 z0.length p0, .slice f2 d2.length h2] (st_opV rfl (want_n rfl)) o1 y1 Tryd.underlying39 zi22 (fun m2 t2 k1 c2 i0 => ?_)
      have t2 := sWI i0 33 (pB 0 1 pn)
      refine ⟨t2, ?_⟩
      refine d1 11 ?_
      have t2 := i0.nf
      have i0 := own_cap (t2.res (i := 1) rfl)
      obtain ⟨m2, y1⟩ := t2.row_dataM (i := 1) rfl (j := 0) rfl (by decide)
      have t2 := m2.data (dRow 1 (some ⟨k1, 0, none⟩) 3 3 (encSs ([((cbA, cbc, cb) : Sl), ((n0, p0, z0) : Sl), ((f2, h2, d2) : Sl)]))) ⟨i0, y1⟩
      refine k_call (xs := [.tmp 108, .tmp 109, .tmp 116]) (st_op rfl (want_n rfl)) c2 rfl rfl rfl (by decide) ok93 (node_calls _ _ t2.il _ _ _ _ (⟨7, 0, 0, (⟨#[]⟩ : ByteArray)⟩ : Nd) _ _ ([((cbA, cbc, cb) : Sl), ((n0, p0, z0) : Sl), ((f2, h2, d2) : Sl)]) (t2.z 0) (imm_box (i := 0) rfl) (t2.g 35) (t2.g 34) (hb := (by simp; omega))) ?_
      rintro c2 y1 ⟨m2, i0, k1, rfl, o1, j2, t1, u1⟩
      have y1 := t2.callM (i := 0) rfl o1 j2
      have j2 := t2.dM 0 y1 t1
      refine ⟨_, rfl, fun y1 t1 => ?_⟩
      have y1 : k1.length ≤ (lsts ([((cbA, cbc, cb) : Sl), ((n0, p0, z0) : Sl), ((f2, h2, d2) : Sl)])).flatten.length + 1 := by rw [u1]; exact noL_len
      simp only [lsts, List.map_cons, List.map_nil, List.flatten_cons, List.flatten_nil, List.length_append, List.length_nil] at y1
      have y1 : sml k1 := by rw [u1]; exact noL_sml (by first | decide | assumption) (by simp only [lsts, List.map_cons, List.map_nil, List.mem_cons, List.not_mem_nil, or_false, forall_eq_or_imp, forall_eq]; first | assumption | (and_intros <;> assumption))
      have y1 := sWI j2 33 (pB 0 1 pn)
      refine ⟨y1, ?_⟩
      refine dtA 12 q2 t1 y1 (fun d2 h2 => ?_)
      refine wpAnyH_done (by kernel_rfl) (s1 _ _ ?_) _
      refine x_then_n (o2 _ _ ?_)
      refine wp_ret ?_
      refine e_ret1 h2 rfl rfl rfl ?_
      refine ⟨m2, i0, k1, ?_, j2.fr, (by rw [show (sgE ce (agA ca) (agA cb) ct cn.N : Int) = (((((inQ ((inQ ((((((((ce)))))))) ((nthS j0 1).2.2) (lsts ([((d0, u0, k0) : Sl)])))) ((nthS o0 1).2.2) (lsts ([((n0, p0, z0) : Sl)]))))))) by (unfold sgE; simp only [lsts_nth, t0, v0, x0, y0, f1, h1, j1, b1, q1, n2, s2, u1, i1, if_true, if_false]; first | done | rfl)]; exact j2.res (i := 0) rfl), j2.rx 36, (by unfold sgL sgE; simp only [lsts_nth, t0, v0, x0, y0, f1, h1, j1, b1, q1, n2, s2, u1, i1, if_true, if_false]; first | done | rfl)⟩
      exact congrArg Ending.returned (ret_s (by first | rfl | (simp; done)))
    ·
     have j2 := b2.data (dAll [((ctA, ctc, ct) : Sl)]) (all_cons (b2.get (i := 3) rfl) all_nil)
     refine mbs [(0, .tmp 102)] [.slice ctA ct.length ctc] (st_opV rfl (want_n rfl)) i2 j2 Tryd.underlying39 zi22 (fun b2 u1 k1 i0 m2 => ?_)
     have u1 := sWI m2 20 (pB 0 1 pn)
     refine ⟨u1, ?_⟩
     refine d1 11 ?_
     have u1 := m2.nf
     have m2 := own_cap (u1.res (i := 2) rfl)
     obtain ⟨b2, j2⟩ := u1.row_dataM (i := 2) rfl (j := 0) rfl (by decide)
     have u1 := b2.data (dRow 1 (some ⟨u2, 0, none⟩) 1 1 (encSs ([((d0, u0, k0) : Sl)]))) ⟨m2, j2⟩
     refine k_call (xs := [.tmp 79, .tmp 82, .tmp 84]) (st_op rfl (want_n rfl)) i0 rfl rfl rfl (by decide) ok121 (minst_calls _ _ u1.il _ _ _ _ _ _ ((nthS j0 1).2.2) _ _ ([((d0, u0, k0) : Sl)]) (u1.g 0) (u1.z 0) (imm_box (i := 0) rfl) (u1.g 21) (u1.g 26) (u1.g 24) (hsm := (by assumption)) (hl := (by omega)) (hls := (by simp only [lsts, List.map_cons, List.map_nil, List.mem_cons, List.not_mem_nil, or_false, forall_eq_or_imp, forall_eq]; first | assumption | omega | (and_intros <;> first | assumption | omega))) (hlb := (by simp only [lsts, List.map_cons, List.map_nil, List.mem_cons, List.not_mem_nil, or_false, forall_eq_or_imp, forall_eq]; first | assumption | omega | (and_intros <;> first | assumption | omega))) (hl0 := (by simp))) ?_
     rintro i0 j2 ⟨b2, m2, u2, rfl, i2, s2, n2, q1⟩
     have u2 := u1.callM (i := 0) rfl i2 s2
     have s2 := u1.dM 0 u2 n2
     refine ⟨_, rfl, fun u2 n2 => ?_⟩
     obtain ⟨u2, u1⟩ := inZ q1 (by assumption) (by simp only [lsts, List.map_cons, List.map_nil, List.mem_cons, List.not_mem_nil, or_false, forall_eq_or_imp, forall_eq]; first | assumption | (and_intros <;> assumption))
     have u1 := sWI s2 20 (pB 0 1 pn)
     refine ⟨u1, ?_⟩
     refine d1 20 ?_
     have u1 := s2.nf
     have s2 := own_cap (u1.res (i := 1) rfl)
     obtain ⟨u2, i2⟩ := u1.row_dataM (i := 1) rfl (j := 0) rfl (by decide)
     have u1 := u2.data (dRow 1 (some ⟨z1, 0, none⟩) 1 1 (encSs ([((n0, p0, z0) : Sl)]))) ⟨s2, i2⟩
     refine k_call (xs := [.tmp 88, .tmp 91, .tmp 93]) (st_op rfl (want_n rfl)) n2 rfl rfl rfl (by decide) ok121 (minst_calls _ _ u1.il _ _ _ _ _ _ ((nthS o0 1).2.2) _ _ ([((n0, p0, z0) : Sl)]) (u1.g 0) (u1.z 0) (imm_box (i := 0) rfl) (u1.g 22) (u1.g 28) (u1.g 23) (hsm := (by assumption)) (hl := (by omega)) (hls := (by simp only [lsts, List.map_cons, List.map_nil, List.mem_cons, List.not_mem_nil, or_false, forall_eq_or_imp, forall_eq]; first | assumption | omega | (and_intros <;> first | assumption | omega))) (hlb := (by simp only [lsts, List.map_cons, List.map_nil, List.mem_cons, List.not_mem_nil, or_false, forall_eq_or_imp, forall_eq]; first | assumption | omega | (and_intros <;> first | assumption | omega))) (hl0 := (by simp))) ?_
     rintro n2 i2 ⟨u2, s2, m2, rfl, b2, j2, i0, b1⟩
     have m2 := u1.callM (i := 0) rfl b2 j2
     have j2 := u1.dM 0 m2 i0
     refine ⟨_, rfl, fun m2 i0 => ?_⟩
     obtain ⟨m2, u1⟩ := inZ b1 (by assumption) (by simp only [lsts, List.map_cons, List.map_nil, List.mem_cons, List.not_mem_nil, or_false, forall_eq_or_imp, forall_eq]; first | assumption | (and_intros <;> assumption))
     have u1 := sWI j2 20 (pB 0 1 pn)
     refine ⟨u1, ?_⟩
     refine d1 30 ?_
     have u1 := j2.nf
     have j2 := own_cap (u1.res (i := 1) rfl)
     obtain ⟨m2, b2⟩ := u1.row_dataM (i := 1) rfl (j := 0) rfl (by decide)
     have u1 := m2.data (dRow 1 (some ⟨k1, 0, none⟩) 1 1 (encSs ([((ctA, ctc, ct) : Sl)]))) ⟨j2, b2⟩
     refine k_call (xs := [.tmp 97, .tmp 98, .tmp 103]) (st_op rfl (want_n rfl)) i0 rfl rfl rfl (by decide) ok93 (node_calls _ _ u1.il _ _ _ _ (⟨9, 0, 0, (⟨#[]⟩ : ByteArray)⟩ : Nd) _ _ ([((ctA, ctc, ct) : Sl)]) (u1.z 0) (imm_box (i := 0) rfl) (u1.g 30) (u1.g 25) (hb := (by simp; omega))) ?_
     rintro i0 b2 ⟨m2, j2, k1, rfl, s2, u2, i2, n2⟩
     have k1 := u1.callM (i := 0) rfl s2 u2
     have u2 := u1.dM 0 k1 i2
     refine ⟨_, rfl, fun k1 i2 => ?_⟩
     obtain ⟨k1, u1⟩ := noZ1 n2 (by first | decide | assumption) (by assumption)
     have u1 := sWI u2 20 (pB 0 1 pn)
     refine ⟨u1, ?_⟩
     refine d1 31 ?_
     have u1 := u2.nf
     refine k_call (xs := [.tmp 76, .tmp 85, .tmp 94, .tmp 104]) (st_op rfl (want_n rfl)) i2 rfl rfl rfl (by decide) ok94 (cast_calls _ _ u1.il _ _ _ _ _ _ _ _ _ _ _ _ _ (u1.z 0) (imm_box (i := 0) rfl) (u1.g 27) (u1.g 29) (u1.g 31)) ?_
     rintro i2 u2 ⟨k1, s2, j2, rfl, m2, b2, i0, h2⟩
     have u2 := u1.callM (i := 0) rfl m2 b2
     have b2 := u1.dM 0 u2 i0
     refine ⟨_, rfl, fun u2 i0 => ?_⟩
     obtain ⟨u2, u1⟩ := caZ h2 (by assumption) (by assumption) (by assumption)
     have u1 := sWI b2 20 (pB 0 1 pn)
     refine ⟨u1, ?_⟩
     refine dtA 32 m1 i0 u1 (fun u2 m2 => ?_)
     refine wpAnyH_done (by kernel_rfl) (n1 _ _ ?_) _
     refine x_then_n (q0 _ _ ?_)
     refine wp_seq_k (fun u2 u1 => ?_)
     obtain ⟨u2, i0, i2⟩ := b2.agree
     refine d_reg3 (n := 13) i2 33 (pB 0 1 pn) (pan_then pan_body) (fun i0 u2 b2 o2 s1 d2 => ?_)
     refine dtM 0 u2 m2 d2 (fun o2 i0 => ?_)
     refine dtN 1 u2 i0 d2 (fun o2 m2 => ?_)
     refine dtF 2 0 u2 m2 d2 Tryd.underlying74 sz72 (fun o2 i0 => ?_)
     refine dt 3 rfl u2 i0 (want_n rfl) (fun x hx => m_build (ps := [(0, .const (.int .i64 7))]) (v := .agg #[.int .i64 7, .int .i64 0, .int .i64 0, .string (⟨#[]⟩ : ByteArray)]) (sy i0) i0 rfl rfl rfl (fun _ => by kernel_rfl) (by decide) gt) d2 (fun o2 m2 => ?_)
     refine dtM 4 u2 m2 d2 (fun o2 i0 => ?_)
     refine dtN 5 u2 i0 d2 (fun o2 m2 => ?_)
     refine dtF 6 2 u2 m2 d2 Tryd.underlying74 sz22 (fun o2 i0 => ?_)
     refine dtC 7 1 u2 i0 d2 Tryd.underlying22 (fun o2 m2 => ?_)
     refine dtM 8 u2 m2 d2 (fun o2 i0 => ?_)
     refine dtM 9 u2 i0 d2 (fun o2 m2 => ?_)
     refine d1 10 ?_
     have o2 := s1.data (dAll [((cbA, cbc, cb) : Sl), ((n0, p0, z0) : Sl), ((k1, s2, j2) : Sl)]) (all_cons (s1.get (i := 2) rfl) (all_cons (s1.get (i := 18) rfl) (all_cons (s1.get (i := 32) rfl) all_nil)))
     refine mbs [(0, .tmp 113), (1, .tmp 114), (2, .tmp 115)] [.slice cbA cb.length cbc, .slice n0 z0.length p0, .slice k1 j2.length s2] (st_opV rfl (want_n rfl)) m2 o2 Tryd.underlying39 zi22 (fun s1 i0 d2 i2 y1 => ?_)
     have i0 := sWI y1 33 (pB 0 1 pn)
     refine ⟨i0, ?_⟩
     refine d1 11 ?_
     have i0 := y1.nf
     have y1 := own_cap (i0.res (i := 1) rfl)
     obtain ⟨s1, o2⟩ := i0.row_dataM (i := 1) rfl (j := 0) rfl (by decide)
     have i0 := s1.data (dRow 1 (some ⟨d2, 0, none⟩) 3 3 (encSs ([((cbA, cbc, cb) : Sl), ((n0, p0, z0) : Sl), ((k1, s2, j2) : Sl)]))) ⟨y1, o2⟩
     refine k_call (xs := [.tmp 108, .tmp 109, .tmp 116]) (st_op rfl (want_n rfl)) i2 rfl rfl rfl (by decide) ok93 (node_calls _ _ i0.il _ _ _ _ (⟨7, 0, 0, (⟨#[]⟩ : ByteArray)⟩ : Nd) _ _ ([((cbA, cbc, cb) : Sl), ((n0, p0, z0) : Sl), ((k1, s2, j2) : Sl)]) (i0.z 0) (imm_box (i := 0) rfl) (i0.g 35) (i0.g 34) (hb := (by simp; omega))) ?_
     rintro i2 o2 ⟨s1, y1, d2, rfl, m2, t1, q2, f2⟩
     have o2 := i0.callM (i := 0) rfl m2 t1
     have t1 := i0.dM 0 o2 q2
     refine ⟨_, rfl, fun o2 q2 => ?_⟩
     have o2 : d2.length ≤ (lsts ([((cbA, cbc, cb) : Sl), ((n0, p0, z0) : Sl), ((k1, s2, j2) : Sl)])).flatten.length + 1 := by rw [f2]; exact noL_len
     simp only [lsts, List.map_cons, List.map_nil, List.flatten_cons, List.flatten_nil, List.length_append, List.length_nil] at o2
     have o2 : sml d2 := by rw [f2]; exact noL_sml (by first | decide | assumption) (by simp only [lsts, List.map_cons, List.map_nil, List.mem_cons, List.not_mem_nil, or_false, forall_eq_or_imp, forall_eq]; first | assumption | (and_intros <;> assumption))
     have o2 := sWI t1 33 (pB 0 1 pn)
     refine ⟨o2, ?_⟩
     refine dtA 12 u2 q2 o2 (fun j2 s2 => ?_)
     refine wpAnyH_done (by kernel_rfl) (b2 _ _ ?_) _
     refine x_then_n (u1 _ _ ?_)
     refine wp_ret ?_
     refine e_ret1 s2 rfl rfl rfl ?_
     refine ⟨s1, y1, d2, ?_, t1.fr, (by rw [show (sgE ce (agA ca) (agA cb) ct cn.N : Int) = (((((inQ ((inQ ((((((((ce)))))))) ((nthS j0 1).2.2) (lsts ([((d0, u0, k0) : Sl)])))) ((nthS o0 1).2.2) (lsts ([((n0, p0, z0) : Sl)]))))))) by (unfold sgE; simp only [lsts_nth, t0, v0, x0, y0, f1, h1, j1, q1, b1, n2, h2, f2, i1, if_true, if_false]; first | done | rfl)]; exact t1.res (i := 0) rfl), t1.rx 36, (by unfold sgL sgE; simp only [lsts_nth, t0, v0, x0, y0, f1, h1, j1, q1, b1, n2, h2, f2, i1, if_true, if_false]; first | done | rfl)⟩
     exact congrArg Ending.returned (ret_s (by first | rfl | (simp; done)))
   ·
    have t1 := k2.data (dAll [((ctA, ctc, ct) : Sl)]) (all_cons (k2.get (i := 3) rfl) all_nil)
    refine mbs [(0, .tmp 102)] [.slice ctA ct.length ctc] (st_opV rfl (want_n rfl)) p2 t1 Tryd.underlying39 zi22 (fun k2 f2 d2 y1 s1 => ?_)
    have f2 := sWI s1 20 (pB 0 1 pn)
    refine ⟨f2, ?_⟩
    refine d1 10 ?_
    have f2 := s1.data (dAll [((d0, u0, k0) : Sl)]) (all_cons (s1.get (i := 13) rfl) all_nil)
    refine mbs [(0, .tmp 83)] [.slice d0 k0.length u0] (st_opV rfl (want_n rfl)) y1 f2 Tryd.underlying39 zi22 (fun s1 k2 t1 p2 h2 => ?_)
    have k2 := sWI h2 20 (pB 0 1 pn)
    refine ⟨k2, ?_⟩
    refine d1 11 ?_
    have k2 := h2.nf
    have h2 := own_cap (k2.res (i := 3) rfl)
    obtain ⟨s1, f2⟩ := k2.row_dataM (i := 3) rfl (j := 0) rfl (by decide)
    have k2 := s1.data (dRow 1 (some ⟨t1, 0, none⟩) 1 1 (encSs ([((d0, u0, k0) : Sl)]))) ⟨h2, f2⟩
    refine k_call (xs := [.tmp 79, .tmp 82, .tmp 84]) (st_op rfl (want_n rfl)) p2 rfl rfl rfl (by decide) ok121 (minst_calls _ _ k2.il _ _ _ _ _ _ ((nthS j0 1).2.2) _ _ ([((d0, u0, k0) : Sl)]) (k2.g 0) (k2.z 0) (imm_box (i := 0) rfl) (k2.g 21) (k2.g 26) (k2.g 25) (hsm := (by assumption)) (hl := (by omega)) (hls := (by simp only [lsts, List.map_cons, List.map_nil, List.mem_cons, List.not_mem_nil, or_false, forall_eq_or_imp, forall_eq]; first | assumption | omega | (and_intros <;> first | assumption | omega))) (hlb := (by simp only [lsts, List.map_cons, List.map_nil, List.mem_cons, List.not_mem_nil, or_false, forall_eq_or_imp, forall_eq]; first | assumption | omega | (and_intros <;> first | assumption | omega))) (hl0 := (by simp))) ?_
    rintro p2 f2 ⟨s1, h2, t1, rfl, y1, n2, b1, q1⟩
    have t1 := k2.callM (i := 0) rfl y1 n2
    have n2 := k2.dM 0 t1 b1
    refine ⟨_, rfl, fun t1 b1 => ?_⟩
    obtain ⟨t1, k2⟩ := inZ q1 (by assumption) (by simp only [lsts, List.map_cons, List.map_nil, List.mem_cons, List.not_mem_nil, or_false, forall_eq_or_imp, forall_eq]; first | assumption | (and_intros <;> assumption))
    have k2 := sWI n2 20 (pB 0 1 pn)
    refine ⟨k2, ?_⟩
    refine d1 20 ?_
    have k2 := n2.nf
    have n2 := own_cap (k2.res (i := 1) rfl)
    obtain ⟨t1, y1⟩ := k2.row_dataM (i := 1) rfl (j := 0) rfl (by decide)
    have k2 := t1.data (dRow 1 (some ⟨z1, 0, none⟩) 1 1 (encSs ([((n0, p0, z0) : Sl)]))) ⟨n2, y1⟩
    refine k_call (xs := [.tmp 88, .tmp 91, .tmp 93]) (st_op rfl (want_n rfl)) b1 rfl rfl rfl (by decide) ok121 (minst_calls _ _ k2.il _ _ _ _ _ _ ((nthS o0 1).2.2) _ _ ([((n0, p0, z0) : Sl)]) (k2.g 0) (k2.z 0) (imm_box (i := 0) rfl) (k2.g 22) (k2.g 28) (k2.g 23) (hsm := (by assumption)) (hl := (by omega)) (hls := (by simp only [lsts, List.map_cons, List.map_nil, List.mem_cons, List.not_mem_nil, or_false, forall_eq_or_imp, forall_eq]; first | assumption | omega | (and_intros <;> first | assumption | omega))) (hlb := (by simp only [lsts, List.map_cons, List.map_nil, List.mem_cons, List.not_mem_nil, or_false, forall_eq_or_imp, forall_eq]; first | assumption | omega | (and_intros <;> first | assumption | omega))) (hl0 := (by simp))) ?_
    rintro b1 y1 ⟨t1, n2, z1, rfl, h2, s1, f2, p2⟩
    have z1 := k2.callM (i := 0) rfl h2 s1
    have s1 := k2.dM 0 z1 f2
    refine ⟨_, rfl, fun z1 f2 => ?_⟩
    obtain ⟨z1, k2⟩ := inZ p2 (by assumption) (by simp only [lsts, List.map_cons, List.map_nil, List.mem_cons, List.not_mem_nil, or_false, forall_eq_or_imp, forall_eq]; first | assumption | (and_intros <;> assumption))
    have k2 := sWI s1 20 (pB 0 1 pn)
    refine ⟨k2, ?_⟩
    refine d1 30 ?_
    have k2 := s1.nf
    have s1 := own_cap (k2.res (i := 1) rfl)
    obtain ⟨z1, h2⟩ := k2.row_dataM (i := 1) rfl (j := 0) rfl (by decide)
    have k2 := z1.data (dRow 1 (some ⟨d2, 0, none⟩) 1 1 (encSs ([((ctA, ctc, ct) : Sl)]))) ⟨s1, h2⟩
    refine k_call (xs := [.tmp 97, .tmp 98, .tmp 103]) (st_op rfl (want_n rfl)) f2 rfl rfl rfl (by decide) ok93 (node_calls _ _ k2.il _ _ _ _ (⟨9, 0, 0, (⟨#[]⟩ : ByteArray)⟩ : Nd) _ _ ([((ctA, ctc, ct) : Sl)]) (k2.z 0) (imm_box (i := 0) rfl) (k2.g 30) (k2.g 24) (hb := (by simp; omega))) ?_
    rintro f2 h2 ⟨z1, s1, d2, rfl, n2, t1, y1, b1⟩
    have d2 := k2.callM (i := 0) rfl n2 t1
    have t1 := k2.dM 0 d2 y1
    refine ⟨_, rfl, fun d2 y1 => ?_⟩
    obtain ⟨d2, k2⟩ := noZ1 b1 (by first | decide | assumption) (by assumption)
    have k2 := sWI t1 20 (pB 0 1 pn)
    refine ⟨k2, ?_⟩
    refine d1 31 ?_
    have k2 := t1.nf
    refine k_call (xs := [.tmp 76, .tmp 85, .tmp 94, .tmp 104]) (st_op rfl (want_n rfl)) y1 rfl rfl rfl (by decide) ok94 (cast_calls _ _ k2.il _ _ _ _ _ _ _ _ _ _ _ _ _ (k2.z 0) (imm_box (i := 0) rfl) (k2.g 27) (k2.g 29) (k2.g 31)) ?_
    rintro y1 t1 ⟨d2, n2, s1, rfl, z1, h2, f2, s2⟩
    have t1 := k2.callM (i := 0) rfl z1 h2
    have h2 := k2.dM 0 t1 f2
    refine ⟨_, rfl, fun t1 f2 => ?_⟩
    obtain ⟨t1, k2⟩ := caZ s2 (by assumption) (by assumption) (by assumption)
    have k2 := sWI h2 20 (pB 0 1 pn)
    refine ⟨k2, ?_⟩
    refine dtA 32 m1 f2 k2 (fun t1 z1 => ?_)
    refine wpAnyH_done (by kernel_rfl) (n1 _ _ ?_) _
    refine x_then_n (q0 _ _ ?_)
    refine wp_seq_k (fun t1 k2 => ?_)
    obtain ⟨t1, f2, y1⟩ := h2.agree
    refine d_reg3 (n := 13) y1 33 (pB 0 1 pn) (pan_then pan_body) (fun f2 t1 h2 u1 b2 j2 => ?_)
    refine dtM 0 t1 z1 j2 (fun u1 f2 => ?_)
    refine dtN 1 t1 f2 j2 (fun u1 z1 => ?_)
    refine dtF 2 0 t1 z1 j2 Tryd.underlying74 sz72 (fun u1 f2 => ?_)
    refine dt 3 rfl t1 f2 (want_n rfl) (fun x hx => m_build (ps := [(0, .const (.int .i64 7))]) (v := .agg #[.int .i64 7, .int .i64 0, .int .i64 0, .string (⟨#[]⟩ : ByteArray)]) (sy f2) f2 rfl rfl rfl (fun _ => by kernel_rfl) (by decide) gt) j2 (fun u1 z1 => ?_)
    refine dtM 4 t1 z1 j2 (fun u1 f2 => ?_)
    refine dtN 5 t1 f2 j2 (fun u1 z1 => ?_)
    refine dtF 6 2 t1 z1 j2 Tryd.underlying74 sz22 (fun u1 f2 => ?_)
    refine dtC 7 1 t1 f2 j2 Tryd.underlying22 (fun u1 z1 => ?_)
    refine dtM 8 t1 z1 j2 (fun u1 f2 => ?_)
    refine dtM 9 t1 f2 j2 (fun u1 z1 => ?_)
    refine d1 10 ?_
    have u1 := b2.data (dAll [((cbA, cbc, cb) : Sl), ((n0, p0, z0) : Sl), ((d2, n2, s1) : Sl)]) (all_cons (b2.get (i := 2) rfl) (all_cons (b2.get (i := 18) rfl) (all_cons (b2.get (i := 32) rfl) all_nil)))
    refine mbs [(0, .tmp 113), (1, .tmp 114), (2, .tmp 115)] [.slice cbA cb.length cbc, .slice n0 z0.length p0, .slice d2 s1.length n2] (st_opV rfl (want_n rfl)) z1 u1 Tryd.underlying39 zi22 (fun b2 f2 j2 y1 o2 => ?_)
    have f2 := sWI o2 33 (pB 0 1 pn)
    refine ⟨f2, ?_⟩
    refine d1 11 ?_
    have f2 := o2.nf
    have o2 := own_cap (f2.res (i := 1) rfl)
    obtain ⟨b2, u1⟩ := f2.row_dataM (i := 1) rfl (j := 0) rfl (by decide)
    have f2 := b2.data (dRow 1 (some ⟨j2, 0, none⟩) 3 3 (encSs ([((cbA, cbc, cb) : Sl), ((n0, p0, z0) : Sl), ((d2, n2, s1) : Sl)]))) ⟨o2, u1⟩
    refine k_call (xs := [.tmp 108, .tmp 109, .tmp 116]) (st_op rfl (want_n rfl)) y1 rfl rfl rfl (by decide) ok93 (node_calls _ _ f2.il _ _ _ _ (⟨7, 0, 0, (⟨#[]⟩ : ByteArray)⟩ : Nd) _ _ ([((cbA, cbc, cb) : Sl), ((n0, p0, z0) : Sl), ((d2, n2, s1) : Sl)]) (f2.z 0) (imm_box (i := 0) rfl) (f2.g 35) (f2.g 34) (hb := (by simp; omega))) ?_
    rintro y1 u1 ⟨b2, o2, j2, rfl, z1, q2, u2, k1⟩
    have u1 := f2.callM (i := 0) rfl z1 q2
    have q2 := f2.dM 0 u1 u2
    refine ⟨_, rfl, fun u1 u2 => ?_⟩
    have u1 : j2.length ≤ (lsts ([((cbA, cbc, cb) : Sl), ((n0, p0, z0) : Sl), ((d2, n2, s1) : Sl)])).flatten.length + 1 := by rw [k1]; exact noL_len
    simp only [lsts, List.map_cons, List.map_nil, List.flatten_cons, List.flatten_nil, List.length_append, List.length_nil] at u1
    have u1 : sml j2 := by rw [k1]; exact noL_sml (by first | decide | assumption) (by simp only [lsts, List.map_cons, List.map_nil, List.mem_cons, List.not_mem_nil, or_false, forall_eq_or_imp, forall_eq]; first | assumption | (and_intros <;> assumption))
    have u1 := sWI q2 33 (pB 0 1 pn)
    refine ⟨u1, ?_⟩
    refine dtA 12 t1 u2 u1 (fun s1 n2 => ?_)
    refine wpAnyH_done (by kernel_rfl) (h2 _ _ ?_) _
    refine x_then_n (k2 _ _ ?_)
    refine wp_ret ?_
    refine e_ret1 n2 rfl rfl rfl ?_
    refine ⟨b2, o2, j2, ?_, q2.fr, (by rw [show (sgE ce (agA ca) (agA cb) ct cn.N : Int) = (((((inQ ((inQ ((((((((ce)))))))) ((nthS j0 1).2.2) (lsts ([((d0, u0, k0) : Sl)])))) ((nthS o0 1).2.2) (lsts ([((n0, p0, z0) : Sl)]))))))) by (unfold sgE; simp only [lsts_nth, t0, v0, x0, y0, f1, h1, j1, q1, p2, b1, s2, k1, i1, if_true, if_false]; first | done | rfl)]; exact q2.res (i := 0) rfl), q2.rx 36, (by unfold sgL sgE; simp only [lsts_nth, t0, v0, x0, y0, f1, h1, j1, q1, p2, b1, s2, k1, i1, if_true, if_false]; first | done | rfl)⟩
    exact congrArg Ending.returned (ret_s (by first | rfl | (simp; done)))
  ·
   have q2 := p1.data (dAll [((ctA, ctc, ct) : Sl)]) (all_cons (p1.get (i := 3) rfl) all_nil)
   refine mbs [(0, .tmp 102)] [.slice ctA ct.length ctc] (st_opV rfl (want_n rfl)) s0 q2 Tryd.underlying39 zi22 (fun p1 k1 j2 o2 b2 => ?_)
   have k1 := sWI b2 20 (pB 0 1 pn)
   refine ⟨k1, ?_⟩
   refine wpAnyH_all (rs := [10, 19]) (by kernel_rfl) (by simp) ?_
   rintro i k1
   simp only [List.mem_cons, List.not_mem_nil, or_false] at k1
   rcases k1 with rfl | rfl
   ·
    have k1 := b2.data (dAll [((d0, u0, k0) : Sl)]) (all_cons (b2.get (i := 13) rfl) all_nil)
    refine mbs [(0, .tmp 83)] [.slice d0 k0.length u0] (st_opV rfl (want_n rfl)) o2 k1 Tryd.underlying39 zi22 (fun p1 q2 s0 s2 b1 => ?_)
    have q2 := sWI b1 20 (pB 0 1 pn)
    refine ⟨q2, ?_⟩
    refine wpAnyH_all (rs := [11, 19]) (by kernel_rfl) (by simp) ?_
    rintro i q2
    simp only [List.mem_cons, List.not_mem_nil, or_false] at q2
    rcases q2 with rfl | rfl
    ·
     have q2 := b1.nf
     have p1 := own_cap (q2.res (i := 2) rfl)
     obtain ⟨k1, p2⟩ := q2.row_dataM (i := 2) rfl (j := 0) rfl (by decide)
     have q2 := k1.data (dRow 1 (some ⟨s0, 0, none⟩) 1 1 (encSs ([((d0, u0, k0) : Sl)]))) ⟨p1, p2⟩
     refine k_call (xs := [.tmp 79, .tmp 82, .tmp 84]) (st_op rfl (want_n rfl)) s2 rfl rfl rfl (by decide) ok121 (minst_calls _ _ q2.il _ _ _ _ _ _ ((nthS j0 1).2.2) _ _ ([((d0, u0, k0) : Sl)]) (q2.g 0) (q2.z 0) (imm_box (i := 0) rfl) (q2.g 21) (q2.g 25) (q2.g 24) (hsm := (by assumption)) (hl := (by omega)) (hls := (by simp only [lsts, List.map_cons, List.map_nil, List.mem_cons, List.not_mem_nil, or_false, forall_eq_or_imp, forall_eq]; first | assumption | omega | (and_intros <;> first | assumption | omega))) (hlb := (by simp only [lsts, List.map_cons, List.map_nil, List.mem_cons, List.not_mem_nil, or_false, forall_eq_or_imp, forall_eq]; first | assumption | omega | (and_intros <;> first | assumption | omega))) (hl0 := (by simp))) ?_
     rintro p2 k1 ⟨p1, q1, n2, rfl, k2, h2, s1, u1⟩
     have n2 := q2.callM (i := 0) rfl k2 h2
     have h2 := q2.dM 0 n2 s1
     refine ⟨_, rfl, fun n2 s1 => ?_⟩
     obtain ⟨n2, q2⟩ := inZ u1 (by assumption) (by simp only [lsts, List.map_cons, List.map_nil, List.mem_cons, List.not_mem_nil, or_false, forall_eq_or_imp, forall_eq]; first | assumption | (and_intros <;> assumption))
     have q2 := sWI h2 20 (pB 0 1 pn)
     refine ⟨q2, ?_⟩
     refine d1 19 ?_
     have q2 := h2.data (dAll [((n0, p0, z0) : Sl)]) (all_cons (h2.get (i := 18) rfl) all_nil)
     refine mbs [(0, .tmp 92)] [.slice n0 z0.length p0] (st_opV rfl (want_n rfl)) s1 q2 Tryd.underlying39 zi22 (fun h2 n2 k2 q1 p1 => ?_)
     have n2 := sWI p1 20 (pB 0 1 pn)
     refine ⟨n2, ?_⟩
     refine d1 20 ?_
     have n2 := p1.nf
     have p1 := own_cap (n2.res (i := 2) rfl)
     obtain ⟨h2, q2⟩ := n2.row_dataM (i := 2) rfl (j := 0) rfl (by decide)
     have n2 := h2.data (dRow 1 (some ⟨k2, 0, none⟩) 1 1 (encSs ([((n0, p0, z0) : Sl)]))) ⟨p1, q2⟩
     refine k_call (xs := [.tmp 88, .tmp 91, .tmp 93]) (st_op rfl (want_n rfl)) q1 rfl rfl rfl (by decide) ok121 (minst_calls _ _ n2.il _ _ _ _ _ _ ((nthS o0 1).2.2) _ _ ([((n0, p0, z0) : Sl)]) (n2.g 0) (n2.z 0) (imm_box (i := 0) rfl) (n2.g 22) (n2.g 28) (n2.g 27) (hsm := (by assumption)) (hl := (by omega)) (hls := (by simp only [lsts, List.map_cons, List.map_nil, List.mem_cons, List.not_mem_nil, or_false, forall_eq_or_imp, forall_eq]; first | assumption | omega | (and_intros <;> first | assumption | omega))) (hlb := (by simp only [lsts, List.map_cons, List.map_nil, List.mem_cons, List.not_mem_nil, or_false, forall_eq_or_imp, forall_eq]; first | assumption | omega | (and_intros <;> first | assumption | omega))) (hl0 := (by simp))) ?_
     rintro q1 q2 ⟨h2, p1, k2, rfl, s1, k1, p2, u2⟩
     have k2 := n2.callM (i := 0) rfl s1 k1
     have k1 := n2.dM 0 k2 p2
     refine ⟨_, rfl, fun k2 p2 => ?_⟩
     obtain ⟨k2, n2⟩ := inZ u2 (by assumption) (by simp only [lsts, List.map_cons, List.map_nil, List.mem_cons, List.not_mem_nil, or_false, forall_eq_or_imp, forall_eq]; first | assumption | (and_intros <;> assumption))
     have n2 := sWI k1 20 (pB 0 1 pn)
     refine ⟨n2, ?_⟩
     refine d1 30 ?_
     have n2 := k1.nf
     have k1 := own_cap (n2.res (i := 1) rfl)
     obtain ⟨k2, s1⟩ := n2.row_dataM (i := 1) rfl (j := 0) rfl (by decide)
     have n2 := k2.data (dRow 1 (some ⟨j2, 0, none⟩) 1 1 (encSs ([((ctA, ctc, ct) : Sl)]))) ⟨k1, s1⟩
     refine k_call (xs := [.tmp 97, .tmp 98, .tmp 103]) (st_op rfl (want_n rfl)) p2 rfl rfl rfl (by decide) ok93 (node_calls _ _ n2.il _ _ _ _ (⟨9, 0, 0, (⟨#[]⟩ : ByteArray)⟩ : Nd) _ _ ([((ctA, ctc, ct) : Sl)]) (n2.z 0) (imm_box (i := 0) rfl) (n2.g 30) (n2.g 23) (hb := (by simp; omega))) ?_
     rintro p2 s1 ⟨k2, k1, p1, rfl, h2, q2, q1, t1⟩
     have p1 := n2.callM (i := 0) rfl h2 q2
     have q2 := n2.dM 0 p1 q1
     refine ⟨_, rfl, fun p1 q1 => ?_⟩
     obtain ⟨p1, n2⟩ := noZ1 t1 (by first | decide | assumption) (by assumption)
     have n2 := sWI q2 20 (pB 0 1 pn)
     refine ⟨n2, ?_⟩
     refine d1 31 ?_
     have n2 := q2.nf
     refine k_call (xs := [.tmp 76, .tmp 85, .tmp 94, .tmp 104]) (st_op rfl (want_n rfl)) q1 rfl rfl rfl (by decide) ok94 (cast_calls _ _ n2.il _ _ _ _ _ _ _ _ _ _ _ _ _ (n2.z 0) (imm_box (i := 0) rfl) (n2.g 26) (n2.g 29) (n2.g 31)) ?_
     rintro q1 q2 ⟨p1, h2, k1, rfl, k2, s1, p2, d2⟩
     have q2 := n2.callM (i := 0) rfl k2 s1
     have s1 := n2.dM 0 q2 p2
     refine ⟨_, rfl, fun q2 p2 => ?_⟩
     obtain ⟨q2, n2⟩ := caZ d2 (by assumption) (by assumption) (by assumption)
     have n2 := sWI s1 20 (pB 0 1 pn)
     refine ⟨n2, ?_⟩
     refine dtA 32 m1 p2 n2 (fun q2 k2 => ?_)
     refine wpAnyH_done (by kernel_rfl) (n1 _ _ ?_) _
     refine x_then_n (q0 _ _ ?_)
     refine wp_seq_k (fun q2 n2 => ?_)
     obtain ⟨q2, p2, q1⟩ := s1.agree
     refine d_reg3 (n := 13) q1 33 (pB 0 1 pn) (pan_then pan_body) (fun p2 q2 s1 f2 z1 y1 => ?_)
     refine dtM 0 q2 k2 y1 (fun f2 p2 => ?_)
     refine dtN 1 q2 p2 y1 (fun f2 k2 => ?_)
     refine dtF 2 0 q2 k2 y1 Tryd.underlying74 sz72 (fun f2 p2 => ?_)
     refine dt 3 rfl q2 p2 (want_n rfl) (fun x hx => m_build (ps := [(0, .const (.int .i64 7))]) (v := .agg #[.int .i64 7, .int .i64 0, .int .i64 0, .string (⟨#[]⟩ : ByteArray)]) (sy p2) p2 rfl rfl rfl (fun _ => by kernel_rfl) (by decide) gt) y1 (fun f2 k2 => ?_)
     refine dtM 4 q2 k2 y1 (fun f2 p2 => ?_)
     refine dtN 5 q2 p2 y1 (fun f2 k2 => ?_)
     refine dtF 6 2 q2 k2 y1 Tryd.underlying74 sz22 (fun f2 p2 => ?_)
     refine dtC 7 1 q2 p2 y1 Tryd.underlying22 (fun f2 k2 => ?_)
     refine dtM 8 q2 k2 y1 (fun f2 p2 => ?_)
     refine dtM 9 q2 p2 y1 (fun f2 k2 => ?_)
     refine d1 10 ?_
     have f2 := z1.data (dAll [((cbA, cbc, cb) : Sl), ((n0, p0, z0) : Sl), ((p1, h2, k1) : Sl)]) (all_cons (z1.get (i := 2) rfl) (all_cons (z1.get (i := 18) rfl) (all_cons (z1.get (i := 32) rfl) all_nil)))
     refine mbs [(0, .tmp 113), (1, .tmp 114), (2, .tmp 115)] [.slice cbA cb.length cbc, .slice n0 z0.length p0, .slice p1 k1.length h2] (st_opV rfl (want_n rfl)) k2 f2 Tryd.underlying39 zi22 (fun z1 p2 y1 q1 i0 => ?_)
     have p2 := sWI i0 33 (pB 0 1 pn)
     refine ⟨p2, ?_⟩
     refine d1 11 ?_
     have p2 := i0.nf
     have i0 := own_cap (p2.res (i := 1) rfl)
     obtain ⟨z1, f2⟩ := p2.row_dataM (i := 1) rfl (j := 0) rfl (by decide)
     have p2 := z1.data (dRow 1 (some ⟨y1, 0, none⟩) 3 3 (encSs ([((cbA, cbc, cb) : Sl), ((n0, p0, z0) : Sl), ((p1, h2, k1) : Sl)]))) ⟨i0, f2⟩
     refine k_call (xs := [.tmp 108, .tmp 109, .tmp 116]) (st_op rfl (want_n rfl)) q1 rfl rfl rfl (by decide) ok93 (node_calls _ _ p2.il _ _ _ _ (⟨7, 0, 0, (⟨#[]⟩ : ByteArray)⟩ : Nd) _ _ ([((cbA, cbc, cb) : Sl), ((n0, p0, z0) : Sl), ((p1, h2, k1) : Sl)]) (p2.z 0) (imm_box (i := 0) rfl) (p2.g 35) (p2.g 34) (hb := (by simp; omega))) ?_
     rintro q1 f2 ⟨z1, i0, y1, rfl, k2, m2, i2, t2⟩
     have f2 := p2.callM (i := 0) rfl k2 m2
     have m2 := p2.dM 0 f2 i2
     refine ⟨_, rfl, fun f2 i2 => ?_⟩
     have f2 : y1.length ≤ (lsts ([((cbA, cbc, cb) : Sl), ((n0, p0, z0) : Sl), ((p1, h2, k1) : Sl)])).flatten.length + 1 := by rw [t2]; exact noL_len
     simp only [lsts, List.map_cons, List.map_nil, List.flatten_cons, List.flatten_nil, List.length_append, List.length_nil] at f2
     have f2 : sml y1 := by rw [t2]; exact noL_sml (by first | decide | assumption) (by simp only [lsts, List.map_cons, List.map_nil, List.mem_cons, List.not_mem_nil, or_false, forall_eq_or_imp, forall_eq]; first | assumption | (and_intros <;> assumption))
     have f2 := sWI m2 33 (pB 0 1 pn)
     refine ⟨f2, ?_⟩
     refine dtA 12 q2 i2 f2 (fun k1 h2 => ?_)
     refine wpAnyH_done (by kernel_rfl) (s1 _ _ ?_) _
     refine x_then_n (n2 _ _ ?_)
     refine wp_ret ?_
     refine e_ret1 h2 rfl rfl rfl ?_
     refine ⟨z1, i0, y1, ?_, m2.fr, (by rw [show (sgE ce (agA ca) (agA cb) ct cn.N : Int) = (((((inQ ((inQ ((((((((ce)))))))) ((nthS j0 1).2.2) (lsts ([((d0, u0, k0) : Sl)])))) ((nthS o0 1).2.2) (lsts ([((n0, p0, z0) : Sl)]))))))) by (unfold sgE; simp only [lsts_nth, t0, v0, x0, y0, f1, h1, j1, u1, u2, t1, d2, t2, i1, if_true, if_false]; first | done | rfl)]; exact m2.res (i := 0) rfl), m2.rx 36, (by unfold sgL sgE; simp only [lsts_nth, t0, v0, x0, y0, f1, h1, j1, u1, u2, t1, d2, t2, i1, if_true, if_false]; first | done | rfl)⟩
     exact congrArg Ending.returned (ret_s (by first | rfl | (simp; done)))
    ·
     have m2 := b1.data (dAll [((n0, p0, z0) : Sl)]) (all_cons (b1.get (i := 18) rfl) all_nil)
     refine mbs [(0, .tmp 92)] [.slice n0 z0.length p0] (st_opV rfl (want_n rfl)) s2 m2 Tryd.underlying39 zi22 (fun b1 t2 y1 i0 z1 => ?_)
     have t2 := sWI z1 20 (pB 0 1 pn)
     refine ⟨t2, ?_⟩
     refine d1 11 ?_
     have t2 := z1.nf
     have z1 := own_cap (t2.res (i := 2) rfl)
     obtain ⟨b1, m2⟩ := t2.row_dataM (i := 2) rfl (j := 0) rfl (by decide)
     have t2 := b1.data (dRow 1 (some ⟨s0, 0, none⟩) 1 1 (encSs ([((d0, u0, k0) : Sl)]))) ⟨z1, m2⟩
     refine k_call (xs := [.tmp 79, .tmp 82, .tmp 84]) (st_op rfl (want_n rfl)) i0 rfl rfl rfl (by decide) ok121 (minst_calls _ _ t2.il _ _ _ _ _ _ ((nthS j0 1).2.2) _ _ ([((d0, u0, k0) : Sl)]) (t2.g 0) (t2.z 0) (imm_box (i := 0) rfl) (t2.g 21) (t2.g 26) (t2.g 24) (hsm := (by assumption)) (hl := (by omega)) (hls := (by simp only [lsts, List.map_cons, List.map_nil, List.mem_cons, List.not_mem_nil, or_false, forall_eq_or_imp, forall_eq]; first | assumption | omega | (and_intros <;> first | assumption | omega))) (hlb := (by simp only [lsts, List.map_cons, List.map_nil, List.mem_cons, List.not_mem_nil, or_false, forall_eq_or_imp, forall_eq]; first | assumption | omega | (and_intros <;> first | assumption | omega))) (hl0 := (by simp))) ?_
     rintro i0 m2 ⟨b1, z1, s0, rfl, s2, d2, t1, u2⟩
     have s0 := t2.callM (i := 0) rfl s2 d2
     have d2 := t2.dM 0 s0 t1
     refine ⟨_, rfl, fun s0 t1 => ?_⟩
     obtain ⟨s0, t2⟩ := inZ u2 (by assumption) (by simp only [lsts, List.map_cons, List.map_nil, List.mem_cons, List.not_mem_nil, or_false, forall_eq_or_imp, forall_eq]; first | assumption | (and_intros <;> assumption))
     have t2 := sWI d2 20 (pB 0 1 pn)
     refine ⟨t2, ?_⟩
     refine d1 20 ?_
     have t2 := d2.nf
     have d2 := own_cap (t2.res (i := 2) rfl)
     obtain ⟨s0, s2⟩ := t2.row_dataM (i := 2) rfl (j := 0) rfl (by decide)
     have t2 := s0.data (dRow 1 (some ⟨y1, 0, none⟩) 1 1 (encSs ([((n0, p0, z0) : Sl)]))) ⟨d2, s2⟩
     refine k_call (xs := [.tmp 88, .tmp 91, .tmp 93]) (st_op rfl (want_n rfl)) t1 rfl rfl rfl (by decide) ok121 (minst_calls _ _ t2.il _ _ _ _ _ _ ((nthS o0 1).2.2) _ _ ([((n0, p0, z0) : Sl)]) (t2.g 0) (t2.z 0) (imm_box (i := 0) rfl) (t2.g 22) (t2.g 28) (t2.g 25) (hsm := (by assumption)) (hl := (by omega)) (hls := (by simp only [lsts, List.map_cons, List.map_nil, List.mem_cons, List.not_mem_nil, or_false, forall_eq_or_imp, forall_eq]; first | assumption | omega | (and_intros <;> first | assumption | omega))) (hlb := (by simp only [lsts, List.map_cons, List.map_nil, List.mem_cons, List.not_mem_nil, or_false, forall_eq_or_imp, forall_eq]; first | assumption | omega | (and_intros <;> first | assumption | omega))) (hl0 := (by simp))) ?_
     rintro t1 s2 ⟨s0, d2, y1, rfl, z1, b1, m2, i0⟩
     have y1 := t2.callM (i := 0) rfl z1 b1
     have b1 := t2.dM 0 y1 m2
     refine ⟨_, rfl, fun y1 m2 => ?_⟩
     obtain ⟨y1, t2⟩ := inZ i0 (by assumption) (by simp only [lsts, List.map_cons, List.map_nil, List.mem_cons, List.not_mem_nil, or_false, forall_eq_or_imp, forall_eq]; first | assumption | (and_intros <;> assumption))
     have t2 := sWI b1 20 (pB 0 1 pn)
     refine ⟨t2, ?_⟩
     refine d1 30 ?_
     have t2 := b1.nf
     have b1 := own_cap (t2.res (i := 1) rfl)
     obtain ⟨y1, z1⟩ := t2.row_dataM (i := 1) rfl (j := 0) rfl (by decide)
     have t2 := y1.data (dRow 1 (some ⟨j2, 0, none⟩) 1 1 (encSs ([((ctA, ctc, ct) : Sl)]))) ⟨b1, z1⟩
     refine k_call (xs := [.tmp 97, .tmp 98, .tmp 103]) (st_op rfl (want_n rfl)) m2 rfl rfl rfl (by decide) ok93 (node_calls _ _ t2.il _ _ _ _ (⟨9, 0, 0, (⟨#[]⟩ : ByteArray)⟩ : Nd) _ _ ([((ctA, ctc, ct) : Sl)]) (t2.z 0) (imm_box (i := 0) rfl) (t2.g 30) (t2.g 23) (hb := (by simp; omega))) ?_
     rintro m2 z1 ⟨y1, b1, d2, rfl, s0, s2, t1, u1⟩
     have d2 := t2.callM (i := 0) rfl s0 s2
     have s2 := t2.dM 0 d2 t1
     refine ⟨_, rfl, fun d2 t1 => ?_⟩
     obtain ⟨d2, t2⟩ := noZ1 u1 (by first | decide | assumption) (by assumption)
     have t2 := sWI s2 20 (pB 0 1 pn)
     refine ⟨t2, ?_⟩
     refine d1 31 ?_
     have t2 := s2.nf
     refine k_call (xs := [.tmp 76, .tmp 85, .tmp 94, .tmp 104]) (st_op rfl (want_n rfl)) t1 rfl rfl rfl (by decide) ok94 (cast_calls _ _ t2.il _ _ _ _ _ _ _ _ _ _ _ _ _ (t2.z 0) (imm_box (i := 0) rfl) (t2.g 27) (t2.g 29) (t2.g 31)) ?_
     rintro t1 s2 ⟨d2, s0, b1, rfl, y1, z1, m2, h2⟩
     have s2 := t2.callM (i := 0) rfl y1 z1
     have z1 := t2.dM 0 s2 m2
     refine ⟨_, rfl, fun s2 m2 => ?_⟩
     obtain ⟨s2, t2⟩ := caZ h2 (by assumption) (by assumption) (by assumption)
     have t2 := sWI z1 20 (pB 0 1 pn)
     refine ⟨t2, ?_⟩
     refine dtA 32 m1 m2 t2 (fun s2 y1 => ?_)
     refine wpAnyH_done (by kernel_rfl) (n1 _ _ ?_) _
     refine x_then_n (q0 _ _ ?_)
     refine wp_seq_k (fun s2 t2 => ?_)
     obtain ⟨s2, m2, t1⟩ := z1.agree
     refine d_reg3 (n := 13) t1 33 (pB 0 1 pn) (pan_then pan_body) (fun m2 s2 z1 n2 s1 k1 => ?_)
     refine dtM 0 s2 y1 k1 (fun n2 m2 => ?_)
     refine dtN 1 s2 m2 k1 (fun n2 y1 => ?_)
     refine dtF 2 0 s2 y1 k1 Tryd.underlying74 sz72 (fun n2 m2 => ?_)
     refine dt 3 rfl s2 m2 (want_n rfl) (fun x hx => m_build (ps := [(0, .const (.int .i64 7))]) (v := .agg #[.int .i64 7, .int .i64 0, .int .i64 0, .string (⟨#[]⟩ : ByteArray)]) (sy m2) m2 rfl rfl rfl (fun _ => by kernel_rfl) (by decide) gt) k1 (fun n2 y1 => ?_)
     refine dtM 4 s2 y1 k1 (fun n2 m2 => ?_)
     refine dtN 5 s2 m2 k1 (fun n2 y1 => ?_)
     refine dtF 6 2 s2 y1 k1 Tryd.underlying74 sz22 (fun n2 m2 => ?_)
     refine dtC 7 1 s2 m2 k1 Tryd.underlying22 (fun n2 y1 => ?_)
     refine dtM 8 s2 y1 k1 (fun n2 m2 => ?_)
     refine dtM 9 s2 m2 k1 (fun n2 y1 => ?_)
     refine d1 10 ?_
     have n2 := s1.data (dAll [((cbA, cbc, cb) : Sl), ((n0, p0, z0) : Sl), ((d2, s0, b1) : Sl)]) (all_cons (s1.get (i := 2) rfl) (all_cons (s1.get (i := 18) rfl) (all_cons (s1.get (i := 32) rfl) all_nil)))
     refine mbs [(0, .tmp 113), (1, .tmp 114), (2, .tmp 115)] [.slice cbA cb.length cbc, .slice n0 z0.length p0, .slice d2 b1.length s0] (st_opV rfl (want_n rfl)) y1 n2 Tryd.underlying39 zi22 (fun s1 m2 k1 t1 f2 => ?_)
     have m2 := sWI f2 33 (pB 0 1 pn)
     refine ⟨m2, ?_⟩
     refine d1 11 ?_
     have m2 := f2.nf
     have f2 := own_cap (m2.res (i := 1) rfl)
     obtain ⟨s1, n2⟩ := m2.row_dataM (i := 1) rfl (j := 0) rfl (by decide)
     have m2 := s1.data (dRow 1 (some ⟨k1, 0, none⟩) 3 3 (encSs ([((cbA, cbc, cb) : Sl), ((n0, p0, z0) : Sl), ((d2, s0, b1) : Sl)]))) ⟨f2, n2⟩
     refine k_call (xs := [.tmp 108, .tmp 109, .tmp 116]) (st_op rfl (want_n rfl)) t1 rfl rfl rfl (by decide) ok93 (node_calls _ _ m2.il _ _ _ _ (⟨7, 0, 0, (⟨#[]⟩ : ByteArray)⟩ : Nd) _ _ ([((cbA, cbc, cb) : Sl), ((n0, p0, z0) : Sl), ((d2, s0, b1) : Sl)]) (m2.z 0) (imm_box (i := 0) rfl) (m2.g 35) (m2.g 34) (hb := (by simp; omega))) ?_
     rintro t1 n2 ⟨s1, f2, k1, rfl, y1, i2, q2, p1⟩
     have n2 := m2.callM (i := 0) rfl y1 i2
     have i2 := m2.dM 0 n2 q2
     refine ⟨_, rfl, fun n2 q2 => ?_⟩
     have n2 : k1.length ≤ (lsts ([((cbA, cbc, cb) : Sl), ((n0, p0, z0) : Sl), ((d2, s0, b1) : Sl)])).flatten.length + 1 := by rw [p1]; exact noL_len
     simp only [lsts, List.map_cons, List.map_nil, List.flatten_cons, List.flatten_nil, List.length_append, List.length_nil] at n2
     have n2 : sml k1 := by rw [p1]; exact noL_sml (by first | decide | assumption) (by simp only [lsts, List.map_cons, List.map_nil, List.mem_cons, List.not_mem_nil, or_false, forall_eq_or_imp, forall_eq]; first | assumption | (and_intros <;> assumption))
     have n2 := sWI i2 33 (pB 0 1 pn)
     refine ⟨n2, ?_⟩
     refine dtA 12 s2 q2 n2 (fun b1 s0 => ?_)
     refine wpAnyH_done (by kernel_rfl) (z1 _ _ ?_) _
     refine x_then_n (t2 _ _ ?_)
     refine wp_ret ?_
     refine e_ret1 s0 rfl rfl rfl ?_
     refine ⟨s1, f2, k1, ?_, i2.fr, (by rw [show (sgE ce (agA ca) (agA cb) ct cn.N : Int) = (((((inQ ((inQ ((((((((ce)))))))) ((nthS j0 1).2.2) (lsts ([((d0, u0, k0) : Sl)])))) ((nthS o0 1).2.2) (lsts ([((n0, p0, z0) : Sl)]))))))) by (unfold sgE; simp only [lsts_nth, t0, v0, x0, y0, f1, h1, j1, u2, i0, u1, h2, p1, i1, if_true, if_false]; first | done | rfl)]; exact i2.res (i := 0) rfl), i2.rx 36, (by unfold sgL sgE; simp only [lsts_nth, t0, v0, x0, y0, f1, h1, j1, u2, i0, u1, h2, p1, i1, if_true, if_false]; first | done | rfl)⟩
     exact congrArg Ending.returned (ret_s (by first | rfl | (simp; done)))
   ·
    have i2 := b2.data (dAll [((n0, p0, z0) : Sl)]) (all_cons (b2.get (i := 18) rfl) all_nil)
    refine mbs [(0, .tmp 92)] [.slice n0 z0.length p0] (st_opV rfl (want_n rfl)) o2 i2 Tryd.underlying39 zi22 (fun b2 p1 k1 f2 s1 => ?_)
    have p1 := sWI s1 20 (pB 0 1 pn)
    refine ⟨p1, ?_⟩
    refine d1 10 ?_
    have p1 := s1.data (dAll [((d0, u0, k0) : Sl)]) (all_cons (s1.get (i := 13) rfl) all_nil)
    refine mbs [(0, .tmp 83)] [.slice d0 k0.length u0] (st_opV rfl (want_n rfl)) f2 p1 Tryd.underlying39 zi22 (fun s1 b2 i2 o2 h2 => ?_)
    have b2 := sWI h2 20 (pB 0 1 pn)
    refine ⟨b2, ?_⟩
    refine d1 11 ?_
    have b2 := h2.nf
    have h2 := own_cap (b2.res (i := 3) rfl)
    obtain ⟨s1, p1⟩ := b2.row_dataM (i := 3) rfl (j := 0) rfl (by decide)
    have b2 := s1.data (dRow 1 (some ⟨i2, 0, none⟩) 1 1 (encSs ([((d0, u0, k0) : Sl)]))) ⟨h2, p1⟩
    refine k_call (xs := [.tmp 79, .tmp 82, .tmp 84]) (st_op rfl (want_n rfl)) o2 rfl rfl rfl (by decide) ok121 (minst_calls _ _ b2.il _ _ _ _ _ _ ((nthS j0 1).2.2) _ _ ([((d0, u0, k0) : Sl)]) (b2.g 0) (b2.z 0) (imm_box (i := 0) rfl) (b2.g 21) (b2.g 26) (b2.g 25) (hsm := (by assumption)) (hl := (by omega)) (hls := (by simp only [lsts, List.map_cons, List.map_nil, List.mem_cons, List.not_mem_nil, or_false, forall_eq_or_imp, forall_eq]; first | assumption | omega | (and_intros <;> first | assumption | omega))) (hlb := (by simp only [lsts, List.map_cons, List.map_nil, List.mem_cons, List.not_mem_nil, or_false, forall_eq_or_imp, forall_eq]; first | assumption | omega | (and_intros <;> first | assumption | omega))) (hl0 := (by simp))) ?_
    rintro o2 p1 ⟨s1, h2, i2, rfl, f2, u1, i0, u2⟩
    have i2 := b2.callM (i := 0) rfl f2 u1
    have u1 := b2.dM 0 i2 i0
    refine ⟨_, rfl, fun i2 i0 => ?_⟩
    obtain ⟨i2, b2⟩ := inZ u2 (by assumption) (by simp only [lsts, List.map_cons, List.map_nil, List.mem_cons, List.not_mem_nil, or_false, forall_eq_or_imp, forall_eq]; first | assumption | (and_intros <;> assumption))
    have b2 := sWI u1 20 (pB 0 1 pn)
    refine ⟨b2, ?_⟩
    refine d1 20 ?_
    have b2 := u1.nf
    have u1 := own_cap (b2.res (i := 2) rfl)
    obtain ⟨i2, f2⟩ := b2.row_dataM (i := 2) rfl (j := 0) rfl (by decide)
    have b2 := i2.data (dRow 1 (some ⟨k1, 0, none⟩) 1 1 (encSs ([((n0, p0, z0) : Sl)]))) ⟨u1, f2⟩
    refine k_call (xs := [.tmp 88, .tmp 91, .tmp 93]) (st_op rfl (want_n rfl)) i0 rfl rfl rfl (by decide) ok121 (minst_calls _ _ b2.il _ _ _ _ _ _ ((nthS o0 1).2.2) _ _ ([((n0, p0, z0) : Sl)]) (b2.g 0) (b2.z 0) (imm_box (i := 0) rfl) (b2.g 22) (b2.g 28) (b2.g 24) (hsm := (by assumption)) (hl := (by omega)) (hls := (by simp only [lsts, List.map_cons, List.map_nil, List.mem_cons, List.not_mem_nil, or_false, forall_eq_or_imp, forall_eq]; first | assumption | omega | (and_intros <;> first | assumption | omega))) (hlb := (by simp only [lsts, List.map_cons, List.map_nil, List.mem_cons, List.not_mem_nil, or_false, forall_eq_or_imp, forall_eq]; first | assumption | omega | (and_intros <;> first | assumption | omega))) (hl0 := (by simp))) ?_
    rintro i0 f2 ⟨i2, u1, k1, rfl, h2, s1, p1, o2⟩
    have k1 := b2.callM (i := 0) rfl h2 s1
    have s1 := b2.dM 0 k1 p1
    refine ⟨_, rfl, fun k1 p1 => ?_⟩
    obtain ⟨k1, b2⟩ := inZ o2 (by assumption) (by simp only [lsts, List.map_cons, List.map_nil, List.mem_cons, List.not_mem_nil, or_false, forall_eq_or_imp, forall_eq]; first | assumption | (and_intros <;> assumption))
    have b2 := sWI s1 20 (pB 0 1 pn)
    refine ⟨b2, ?_⟩
    refine d1 30 ?_
    have b2 := s1.nf
    have s1 := own_cap (b2.res (i := 1) rfl)
    obtain ⟨k1, h2⟩ := b2.row_dataM (i := 1) rfl (j := 0) rfl (by decide)
    have b2 := k1.data (dRow 1 (some ⟨j2, 0, none⟩) 1 1 (encSs ([((ctA, ctc, ct) : Sl)]))) ⟨s1, h2⟩
    refine k_call (xs := [.tmp 97, .tmp 98, .tmp 103]) (st_op rfl (want_n rfl)) p1 rfl rfl rfl (by decide) ok93 (node_calls _ _ b2.il _ _ _ _ (⟨9, 0, 0, (⟨#[]⟩ : ByteArray)⟩ : Nd) _ _ ([((ctA, ctc, ct) : Sl)]) (b2.z 0) (imm_box (i := 0) rfl) (b2.g 30) (b2.g 23) (hb := (by simp; omega))) ?_
    rintro p1 h2 ⟨k1, s1, j2, rfl, u1, i2, f2, i0⟩
    have j2 := b2.callM (i := 0) rfl u1 i2
    have i2 := b2.dM 0 j2 f2
    refine ⟨_, rfl, fun j2 f2 => ?_⟩
    obtain ⟨j2, b2⟩ := noZ1 i0 (by first | decide | assumption) (by assumption)
    have b2 := sWI i2 20 (pB 0 1 pn)
    refine ⟨b2, ?_⟩
    refine d1 31 ?_
    have b2 := i2.nf
    refine k_call (xs := [.tmp 76, .tmp 85, .tmp 94, .tmp 104]) (st_op rfl (want_n rfl)) f2 rfl rfl rfl (by decide) ok94 (cast_calls _ _ b2.il _ _ _ _ _ _ _ _ _ _ _ _ _ (b2.z 0) (imm_box (i := 0) rfl) (b2.g 27) (b2.g 29) (b2.g 31)) ?_
    rintro f2 i2 ⟨j2, u1, s1, rfl, k1, h2, p1, s0⟩
    have i2 := b2.callM (i := 0) rfl k1 h2
    have h2 := b2.dM 0 i2 p1
    refine ⟨_, rfl, fun i2 p1 => ?_⟩
    obtain ⟨i2, b2⟩ := caZ s0 (by assumption) (by assumption) (by assumption)
    have b2 := sWI h2 20 (pB 0 1 pn)
    refine ⟨b2, ?_⟩
    refine dtA 32 m1 p1 b2 (fun i2 k1 => ?_)
    refine wpAnyH_done (by kernel_rfl) (n1 _ _ ?_) _
    refine x_then_n (q0 _ _ ?_)
    refine wp_seq_k (fun n1 i2 => ?_)
    obtain ⟨n1, b2, p1⟩ := h2.agree
    refine d_reg3 (n := 13) p1 33 (pB 0 1 pn) (pan_then pan_body) (fun b2 n1 h2 m1 f2 t2 => ?_)
    refine dtM 0 n1 k1 t2 (fun m1 b2 => ?_)
    refine dtN 1 n1 b2 t2 (fun m1 k1 => ?_)
    refine dtF 2 0 n1 k1 t2 Tryd.underlying74 sz72 (fun m1 b2 => ?_)
    refine dt 3 rfl n1 b2 (want_n rfl) (fun x hx => m_build (ps := [(0, .const (.int .i64 7))]) (v := .agg #[.int .i64 7, .int .i64 0, .int .i64 0, .string (⟨#[]⟩ : ByteArray)]) (sy b2) b2 rfl rfl rfl (fun _ => by kernel_rfl) (by decide) gt) t2 (fun m1 k1 => ?_)
    refine dtM 4 n1 k1 t2 (fun m1 b2 => ?_)
    refine dtN 5 n1 b2 t2 (fun m1 k1 => ?_)
    refine dtF 6 2 n1 k1 t2 Tryd.underlying74 sz22 (fun m1 b2 => ?_)
    refine dtC 7 1 n1 b2 t2 Tryd.underlying22 (fun m1 k1 => ?_)
    refine dtM 8 n1 k1 t2 (fun m1 b2 => ?_)
    refine dtM 9 n1 b2 t2 (fun m1 k1 => ?_)
    refine d1 10 ?_
    have m1 := f2.data (dAll [((cbA, cbc, cb) : Sl), ((n0, p0, z0) : Sl), ((j2, u1, s1) : Sl)]) (all_cons (f2.get (i := 2) rfl) (all_cons (f2.get (i := 18) rfl) (all_cons (f2.get (i := 32) rfl) all_nil)))
    refine mbs [(0, .tmp 113), (1, .tmp 114), (2, .tmp 115)] [.slice cbA cb.length cbc, .slice n0 z0.length p0, .slice j2 s1.length u1] (st_opV rfl (want_n rfl)) k1 m1 Tryd.underlying39 zi22 (fun f2 b2 t2 p1 z1 => ?_)
    have b2 := sWI z1 33 (pB 0 1 pn)
    refine ⟨b2, ?_⟩
    refine d1 11 ?_
    have b2 := z1.nf
    have z1 := own_cap (b2.res (i := 1) rfl)
    obtain ⟨f2, m1⟩ := b2.row_dataM (i := 1) rfl (j := 0) rfl (by decide)
    have b2 := f2.data (dRow 1 (some ⟨t2, 0, none⟩) 3 3 (encSs ([((cbA, cbc, cb) : Sl), ((n0, p0, z0) : Sl), ((j2, u1, s1) : Sl)]))) ⟨z1, m1⟩
    refine k_call (xs := [.tmp 108, .tmp 109, .tmp 116]) (st_op rfl (want_n rfl)) p1 rfl rfl rfl (by decide) ok93 (node_calls _ _ b2.il _ _ _ _ (⟨7, 0, 0, (⟨#[]⟩ : ByteArray)⟩ : Nd) _ _ ([((cbA, cbc, cb) : Sl), ((n0, p0, z0) : Sl), ((j2, u1, s1) : Sl)]) (b2.z 0) (imm_box (i := 0) rfl) (b2.g 35) (b2.g 34) (hb := (by simp; omega))) ?_
    rintro p1 m1 ⟨f2, z1, t2, rfl, k1, b1, n2, q2⟩
    have m1 := b2.callM (i := 0) rfl k1 b1
    have b1 := b2.dM 0 m1 n2
    refine ⟨_, rfl, fun m1 n2 => ?_⟩
    have m1 : t2.length ≤ (lsts ([((cbA, cbc, cb) : Sl), ((n0, p0, z0) : Sl), ((j2, u1, s1) : Sl)])).flatten.length + 1 := by rw [q2]; exact noL_len
    simp only [lsts, List.map_cons, List.map_nil, List.flatten_cons, List.flatten_nil, List.length_append, List.length_nil] at m1
    have m1 : sml t2 := by rw [q2]; exact noL_sml (by first | decide | assumption) (by simp only [lsts, List.map_cons, List.map_nil, List.mem_cons, List.not_mem_nil, or_false, forall_eq_or_imp, forall_eq]; first | assumption | (and_intros <;> assumption))
    have m1 := sWI b1 33 (pB 0 1 pn)
    refine ⟨m1, ?_⟩
    refine dtA 12 n1 n2 m1 (fun s1 u1 => ?_)
    refine wpAnyH_done (by kernel_rfl) (h2 _ _ ?_) _
    refine x_then_n (i2 _ _ ?_)
    refine wp_ret ?_
    refine e_ret1 u1 rfl rfl rfl ?_
    refine ⟨f2, z1, t2, ?_, b1.fr, (by rw [show (sgE ce (agA ca) (agA cb) ct cn.N : Int) = (((((inQ ((inQ ((((((((ce)))))))) ((nthS j0 1).2.2) (lsts ([((d0, u0, k0) : Sl)])))) ((nthS o0 1).2.2) (lsts ([((n0, p0, z0) : Sl)]))))))) by (unfold sgE; simp only [lsts_nth, t0, v0, x0, y0, f1, h1, j1, u2, o2, i0, s0, q2, i1, if_true, if_false]; first | done | rfl)]; exact b1.res (i := 0) rfl), b1.rx 36, (by unfold sgL sgE; simp only [lsts_nth, t0, v0, x0, y0, f1, h1, j1, u2, o2, i0, s0, q2, i1, if_true, if_false]; first | done | rfl)⟩
    exact congrArg Ending.returned (ret_s (by first | rfl | (simp; done)))
 ·
  have b1 := m0.setb (d := 73) (b := false) rfl (decide_eq_false i1)
  refine wp_cond_false (b1.ev rfl) ?_
  refine wp_skip ?_
  refine x_then_n (q0 _ _ ?_)
  refine wp_seq_k (fun q0 m0 => ?_)
  obtain ⟨q0, q2, t2⟩ := c1.agree
  refine d_reg3 (n := 13) t2 20 (pB 0 1 pn) (pan_then pan_body) (fun q2 q0 c1 z1 f2 s0 => ?_)
  refine dtM 0 q0 b1 s0 (fun z1 q2 => ?_)
  refine dtN 1 q0 q2 s0 (fun z1 b1 => ?_)
  refine dtF 2 0 q0 b1 s0 Tryd.underlying74 sz72 (fun z1 q2 => ?_)
  refine dt 3 rfl q0 q2 (want_n rfl) (fun x hx => m_build (ps := [(0, .const (.int .i64 7))]) (v := .agg #[.int .i64 7, .int .i64 0, .int .i64 0, .string (⟨#[]⟩ : ByteArray)]) (sy q2) q2 rfl rfl rfl (fun _ => by kernel_rfl) (by decide) gt) s0 (fun z1 b1 => ?_)
  refine dtM 4 q0 b1 s0 (fun z1 q2 => ?_)
  refine dtN 5 q0 q2 s0 (fun z1 b1 => ?_)
  refine dtF 6 2 q0 b1 s0 Tryd.underlying74 sz22 (fun z1 q2 => ?_)
  refine dtC 7 1 q0 q2 s0 Tryd.underlying22 (fun z1 b1 => ?_)
  refine dtM 8 q0 b1 s0 (fun z1 q2 => ?_)
  refine dtM 9 q0 q2 s0 (fun z1 b1 => ?_)
  refine d1 10 ?_
  have z1 := f2.data (dAll [((cbA, cbc, cb) : Sl), ((n0, p0, z0) : Sl), ((b0, c0, f0) : Sl)]) (all_cons (f2.get (i := 2) rfl) (all_cons (f2.get (i := 18) rfl) (all_cons (f2.get (i := 19) rfl) all_nil)))
  refine mbs [(0, .tmp 113), (1, .tmp 114), (2, .tmp 115)] [.slice cbA cb.length cbc, .slice n0 z0.length p0, .slice b0 f0.length c0] (st_opV rfl (want_n rfl)) b1 z1 Tryd.underlying39 zi22 (fun f2 q2 s0 t2 i0 => ?_)
  have q2 := sWI i0 20 (pB 0 1 pn)
  refine ⟨q2, ?_⟩
  refine d1 11 ?_
  have q2 := i0.nf
  have i0 := own_cap (q2.res (i := 1) rfl)
  obtain ⟨f2, z1⟩ := q2.row_dataM (i := 1) rfl (j := 0) rfl (by decide)
  have q2 := f2.data (dRow 1 (some ⟨s0, 0, none⟩) 3 3 (encSs ([((cbA, cbc, cb) : Sl), ((n0, p0, z0) : Sl), ((b0, c0, f0) : Sl)]))) ⟨i0, z1⟩
  refine k_call (xs := [.tmp 108, .tmp 109, .tmp 116]) (st_op rfl (want_n rfl)) t2 rfl rfl rfl (by decide) ok93 (node_calls _ _ q2.il _ _ _ _ (⟨7, 0, 0, (⟨#[]⟩ : ByteArray)⟩ : Nd) _ _ ([((cbA, cbc, cb) : Sl), ((n0, p0, z0) : Sl), ((b0, c0, f0) : Sl)]) (q2.z 0) (imm_box (i := 0) rfl) (q2.g 22) (q2.g 21) (hb := (by simp; omega))) ?_
  rintro t2 z1 ⟨f2, i0, s0, rfl, b1, o2, u2, k0⟩
  have z1 := q2.callM (i := 0) rfl b1 o2
  have o2 := q2.dM 0 z1 u2
  refine ⟨_, rfl, fun z1 u2 => ?_⟩
  have z1 : s0.length ≤ (lsts ([((cbA, cbc, cb) : Sl), ((n0, p0, z0) : Sl), ((b0, c0, f0) : Sl)])).flatten.length + 1 := by rw [k0]; exact noL_len
  simp only [lsts, List.map_cons, List.map_nil, List.flatten_cons, List.flatten_nil, List.length_append, List.length_nil] at z1
  have z1 : sml s0 := by rw [k0]; exact noL_sml (by first | decide | assumption) (by simp only [lsts, List.map_cons, List.map_nil, List.mem_cons, List.not_mem_nil, or_false, forall_eq_or_imp, forall_eq]; first | assumption | (and_intros <;> assumption))
  have z1 := sWI o2 20 (pB 0 1 pn)
  refine ⟨z1, ?_⟩
  refine dtA 12 q0 u2 z1 (fun f0 c0 => ?_)
  refine wpAnyH_done (by kernel_rfl) (c1 _ _ ?_) _
  refine x_then_n (m0 _ _ ?_)
  refine wp_ret ?_
  refine e_ret1 c0 rfl rfl rfl ?_
  refine ⟨f2, i0, s0, ?_, o2.fr, (by rw [show (sgE ce (agA ca) (agA cb) ct cn.N : Int) = (((((((((ce))))))))) by (unfold sgE; simp only [lsts_nth, t0, v0, x0, y0, f1, h1, j1, k0, i1, if_true, if_false]; first | done | rfl)]; exact o2.res (i := 0) rfl), o2.rx 23, (by unfold sgL sgE; simp only [lsts_nth, t0, v0, x0, y0, f1, h1, j1, k0, i1, if_true, if_false]; first | done | rfl)⟩
  exact congrArg Ending.returned (ret_s (by first | rfl | (simp; done)))
end Go.Proofs.YtobgdeffhdefeaaDoor
/- Contracts of functions, one theorem each: what the call returns, and that nothing old is changed. Printed by gen.py. -/
namespace Go.Proofs.YtobgdeffhdefeaaDoor
open Go Go.RowKit
set_option linter.unusedSimpArgs false
set_option linter.unusedVariables false
set_option maxRecDepth 100000 in
set_option maxHeartbeats 1000000 in
theorem cquot_calls (w0 : World) (Z : Nat → Prop) (hZ : ∀ k, Z k → k < w0.heap.size) (cg : Nat) (ce : Int) (caA : Option Addr) (cac : Nat) (ca : List Nd) (cbA : Option Addr) (cbc : Nat) (cb : List Nd) (ctA : Option Addr) (ctc : Nat) (ct : List Nd) (cn : Nd) (hShp : Shapes w0 Z) (hc : (Res.box cg 74 [.int .i64 (ce), .slice caA ca.length cac, .slice cbA cb.length cbc, .slice ctA ct.length ctc, .int .i64 (cn.K), .int .i64 (cn.N), .int .i64 (cn.M), .string cn.S]).holds w0) (hcz : ¬ Z cg) (hca : (dRow 4 caA ca.length cac (encNs ca)).φ w0 Z) (hcb : (dRow 4 cbA cb.length cbc (encNs cb)).φ w0 Z) (hct : (dRow 4 ctA ct.length ctc (encNs ct)).φ w0 Z) (hsa : sml ca := by first | assumption | omega | (simp; done) | (simp; omega)) (hsb : sml cb := by first | assumption | omega | (simp; done) | (simp; omega)) (hst : sml ct := by first | assumption | omega | (simp; done) | (simp; omega)) (hla : ca.length ≤ 5000 := by first | assumption | omega | (simp; done) | (simp; omega)) (hlb : cb.length ≤ 5000 := by first | assumption | omega | (simp; done) | (simp; omega)) (hlt : ct.length ≤ 5000 := by first | assumption | omega | (simp; done) | (simp; omega)) (hka : chk ca = 0 := by first | assumption | omega | (simp; done) | (simp; omega)) (hkb : chk cb = 0 := by first | assumption | omega | (simp; done) | (simp; omega)) (hkt : chk ct = 0 := by first | assumption | omega | (simp; done) | (simp; omega)) (hna : nth ca (ca.length - 1) = cn := by first | assumption | omega | (simp; done) | (simp; omega)) (hnb : nth cb (cb.length - 1) = cn := by first | assumption | omega | (simp; done) | (simp; omega)) (hk : cn.K = 22 := by first | assumption | omega | (simp; done) | (simp; omega)) (hk2 : (nth ct (ct.length - 1)).K = 23 := by first | assumption | omega | (simp; done) | (simp; omega)) :
    Calls Tryd.prog 91 [.pointer (some ⟨cg, 0, none⟩)].toArray w0 (fun e w' => ∃ (rA0 : Option Addr) (rc0 : Nat) (rL0 : List Nd), e = .returned (.slice rA0 rL0.length rc0) ∧ Fr (· = cg) w0 w' ∧ (Res.box cg 74 [.int .i64 (ce), .slice caA ca.length cac, .slice cbA cb.length cbc, .slice ctA ct.length ctc, .int .i64 (cn.K), .int .i64 (cn.N), .int .i64 (cn.M), .string cn.S]).holds w' ∧ (dRow 4 rA0 rL0.length rc0 (encNs rL0)).φ w' (nxt Z w0 w') ∧ rL0 = quL ce ca cb ct) := by
 have b0 := sM hc hcz hZ (zc (d := dShapes) hShp (zc hca (zc hcb (zc hct zn))))
 have hma : many (nth ca (ca.length - 1)) = 5 := by rw [hna]; exact many_22 hk
 have hmb : many (nth cb (cb.length - 1)) = 5 := by rw [hnb]; exact many_22 hk
 have hmt : many (nth ct (ct.length - 1)) = 2 := many_23 hk2
 have hpt : 0 < ct.length := chk_pos hkt
 refine c_enter Tryd.func91 rfl Tryd.ntmps91 rfl (fun c0 d0 => ?_)
 refine wsc (fun c0 f0 => ?_)
 refine asg d0 (fun c0 h0 => ?_)
 refine wpList_nil (x_then_n (f0 _ _ ?_))
 refine wp_seq_k (fun f0 c0 => ?_)
 obtain ⟨f0, d0, i0⟩ := b0.agree
 refine d_reg3 (n := 22) i0 4 (pB 0 1 pn) (pan_then pan_body) (fun d0 f0 b0 j0 k0 m0 => ?_)
 refine dtM 0 f0 h0 m0 (fun j0 d0 => ?_)
 refine dtN 1 f0 d0 m0 (fun j0 h0 => ?_)
 refine dtF 2 0 f0 h0 m0 Tryd.underlying74 sz72 (fun j0 d0 => ?_)
 refine dtM 3 f0 d0 m0 (fun j0 h0 => ?_)
 refine dtN 4 f0 h0 m0 (fun j0 d0 => ?_)
 refine dtF 5 1 f0 d0 m0 Tryd.underlying74 sz22 (fun j0 h0 => ?_)
 refine dtC 6 0 f0 h0 m0 Tryd.underlying22 (fun j0 d0 => ?_)
 refine dtM 10 f0 d0 m0 (fun j0 h0 => ?_)
 refine dtN 11 f0 h0 m0 (fun j0 d0 => ?_)
 refine dtF 12 0 f0 d0 m0 Tryd.underlying74 sz72 (fun j0 h0 => ?_)
 refine dtM 13 f0 h0 m0 (fun j0 d0 => ?_)
 refine dtN 14 f0 d0 m0 (fun j0 h0 => ?_)
 refine dtF 15 2 f0 h0 m0 Tryd.underlying74 sz22 (fun j0 d0 => ?_)
 refine dtC 16 1 f0 d0 m0 Tryd.underlying22 (fun j0 h0 => ?_)
 refine d1 7 ?_
 have j0 := k0.nf
 refine k_call (xs := [.tmp 7, .tmp 11]) (st_op rfl (want_n rfl)) h0 rfl rfl rfl (by decide) ok92 (parts_calls _ _ j0.il _ _ _ _ _ _ _ (j0.g 0) (j0.z 0) (imm_box (i := 0) rfl) (j0.g 1)) ?_
 rintro h0 k0 ⟨d0, m0, i0, rfl, n0, o0, p0, q0, s0⟩
 have m0 := j0.callM (i := 0) rfl n0 o0
 have o0 := j0.dM 0 m0 p0
 have m0 := j0.dM 0 o0 q0
 refine ⟨_, rfl, fun o0 q0 => ?_⟩
 obtain ⟨o0, j0, p0, n0⟩ := agA_at hka hsa s0 (k := 0) (by omega)
 obtain ⟨n0, p0, j0, o0⟩ := agA_at hka hsa s0 (k := 1) (by omega)
 have o0 := sWI m0 4 (pB 0 1 pn)
 refine ⟨o0, ?_⟩
 obtain ⟨o0, j0, p0⟩ := m0.agree
 refine d_more (j0 4 _ rfl) ?_
 have o0 := sWI p0 7 (pB 0 1 pn)
 refine dt 8 rfl f0 q0 (want_n rfl) (fun x hx => m_index (i := 0) (j := 0 * 1) (sy q0) q0 rfl rfl rfl rfl Tryd.underlying39 sz22 (by omega) (by omega) (ss_elem (t := i0) (k := 0) (sdat (j0 5 _ rfl) hx.ag).2 (by omega)).some_ rfl (by decide) gt) o0 (fun m0 n0 => ?_)
 refine dt 9 rfl f0 n0 (want_n rfl) (fun x hx => m_loadE (sy n0) n0 rfl rfl rfl 0 (0 * 1) (ss_elem (t := i0) (k := 0) (sdat (j0 5 _ rfl) hx.ag).2 (by omega)) rfl rfl Tryd.underlying22 rfl (by decide) gt) o0 (fun m0 q0 => ?_)
 have m0 := p0.data (dRow 4 ((nthS i0 0).1) ((nthS i0 0).2.2.length) ((nthS i0 0).2.1) (encNs ((nthS i0 0).2.2))) (all_at (t := i0) (k := 0) (p0.get (i := 6) rfl) (by omega))
 refine d1 17 ?_
 have p0 := m0.nf
 refine k_call (xs := [.tmp 17, .tmp 21]) (st_op rfl (want_n rfl)) q0 rfl rfl rfl (by decide) ok92 (parts_calls _ _ p0.il _ _ _ _ _ _ _ (p0.g 0) (p0.z 0) (imm_box (i := 0) rfl) (p0.g 2)) ?_
 rintro q0 m0 ⟨n0, o0, j0, rfl, d0, k0, h0, t0, u0⟩
 have o0 := p0.callM (i := 0) rfl d0 k0
 have k0 := p0.dM 0 o0 h0
 have o0 := p0.dM 0 k0 t0
 refine ⟨_, rfl, fun k0 t0 => ?_⟩
 obtain ⟨k0, p0, h0, d0⟩ := agA_at hkb hsb u0 (k := 0) (by omega)
 obtain ⟨d0, h0, p0, k0⟩ := agA_at hkb hsb u0 (k := 1) (by omega)
 have k0 := sWI o0 7 (pB 0 1 pn)
 refine ⟨k0, ?_⟩
 obtain ⟨k0, p0, h0⟩ := o0.agree
 refine d_more (p0 7 _ rfl) ?_
 have k0 := sWI h0 11 (pB 0 1 pn)
 refine dt 18 rfl f0 t0 (want_n rfl) (fun x hx => m_index (i := 0) (j := 0 * 1) (sy t0) t0 rfl rfl rfl rfl Tryd.underlying39 sz22 (by omega) (by omega) (ss_elem (t := j0) (k := 0) (sdat (p0 9 _ rfl) hx.ag).2 (by omega)).some_ rfl (by decide) gt) k0 (fun o0 d0 => ?_)
 refine dt 19 rfl f0 d0 (want_n rfl) (fun x hx => m_loadE (sy d0) d0 rfl rfl rfl 0 (0 * 1) (ss_elem (t := j0) (k := 0) (sdat (p0 9 _ rfl) hx.ag).2 (by omega)) rfl rfl Tryd.underlying22 rfl (by decide) gt) k0 (fun o0 t0 => ?_)
 have o0 := h0.data (dRow 4 ((nthS j0 0).1) ((nthS j0 0).2.2.length) ((nthS j0 0).2.1) (encNs ((nthS j0 0).2.2))) (all_at (t := j0) (k := 0) (h0.get (i := 10) rfl) (by omega))
 refine dtA 20 f0 t0 k0 (fun h0 d0 => ?_)
 refine dtA 21 f0 d0 k0 (fun h0 t0 => ?_)
 refine wpAnyH_done (by kernel_rfl) (b0 _ _ ?_) _
 refine x_then_n (c0 _ _ ?_)
 refine wp_seq_k (fun c0 b0 => ?_)
 obtain ⟨c0, h0, d0⟩ := o0.agree
 refine d_reg3 (n := 31) d0 13 (pB 0 1 pn) (pan_then pan_body) (fun h0 c0 o0 k0 f0 p0 => ?_)
 refine dtM 0 c0 t0 p0 (fun k0 h0 => ?_)
 refine dtN 1 c0 h0 p0 (fun k0 t0 => ?_)
 refine dtF 2 0 c0 t0 p0 Tryd.underlying74 sz72 (fun k0 h0 => ?_)
 refine dtM 3 c0 h0 p0 (fun k0 t0 => ?_)
 refine dtN 4 c0 t0 p0 (fun k0 h0 => ?_)
 refine dtF 5 3 c0 h0 p0 Tryd.underlying74 sz22 (fun k0 t0 => ?_)
 refine dtC 6 2 c0 t0 p0 Tryd.underlying22 (fun k0 h0 => ?_)
 refine dtM 8 c0 h0 p0 (fun k0 t0 => ?_)
 refine dtN 9 c0 t0 p0 (fun k0 h0 => ?_)
 refine dtF 10 2 c0 h0 p0 Tryd.underlying74 sz22 (fun k0 t0 => ?_)
 refine dtC 11 1 c0 t0 p0 Tryd.underlying22 (fun k0 h0 => ?_)
 refine dtM 12 c0 h0 p0 (fun k0 t0 => ?_)
 refine dtN 13 c0 t0 p0 (fun k0 h0 => ?_)
 refine dtF 14 0 c0 h0 p0 Tryd.underlying74 sz72 (fun k0 t0 => ?_)
 refine dtM 15 c0 t0 p0 (fun k0 h0 => ?_)
 refine dtM 16 c0 h0 p0 (fun k0 t0 => ?_)
 refine dtM 17 c0 t0 p0 (fun k0 h0 => ?_)
 refine dtN 18 c0 h0 p0 (fun k0 t0 => ?_)
 refine dtF 19 0 c0 t0 p0 Tryd.underlying74 sz72 (fun k0 h0 => ?_)
 refine dtM 20 c0 h0 p0 (fun k0 t0 => ?_)
 refine dtN 21 c0 t0 p0 (fun k0 h0 => ?_)
 refine dtF 22 3 c0 h0 p0 Tryd.underlying74 sz22 (fun k0 t0 => ?_)
 refine dtC 23 2 c0 t0 p0 Tryd.underlying22 (fun k0 h0 => ?_)
 refine d1 7 ?_
 have k0 := f0.nf
 refine k_call (xs := [.tmp 31]) (st_op rfl (want_n rfl)) h0 rfl rfl rfl (by decide) ok58 (croot_calls _ _ k0.il _ _ _ (k0.g 3)) ?_
 rintro h0 f0 ⟨rfl, t0⟩
 have f0 := k0.below t0.below
 refine ⟨_, rfl, fun t0 k0 => ?_⟩
 have t0 := sWI f0 13 (pB 0 1 pn)
 refine ⟨t0, ?_⟩
 refine d1 24 ?_
 have t0 := f0.nf
 refine k_call (xs := [.tmp 44, .tmp 48]) (st_op rfl (want_n rfl)) k0 rfl rfl rfl (by decide) ok92 (parts_calls _ _ t0.il _ _ _ _ _ _ _ (t0.g 0) (t0.z 0) (imm_box (i := 0) rfl) (t0.g 3)) ?_
 rintro k0 f0 ⟨h0, p0, d0, rfl, n0, m0, q0, v0, x0⟩
 have p0 := t0.callM (i := 0) rfl n0 m0
 have m0 := t0.dM 0 p0 q0
 have p0 := t0.dM 0 m0 v0
 refine ⟨_, rfl, fun m0 v0 => ?_⟩
 obtain ⟨m0, t0, q0, n0⟩ := agA_at hkt hst x0 (k := 0) (by omega)
 obtain ⟨n0, q0, t0, m0⟩ := agA_at hkt hst x0 (k := 1) (by omega)
 have m0 := sWI p0 13 (pB 0 1 pn)
 refine ⟨m0, ?_⟩
 obtain ⟨m0, t0, q0⟩ := p0.agree
 refine d_more (t0 13 _ rfl) ?_
 have m0 := sWI q0 16 (pB 0 1 pn)
 refine dt 25 rfl c0 v0 (want_n rfl) (fun x hx => m_index (i := 1) (j := 1 * 1) (sy v0) v0 rfl rfl rfl rfl Tryd.underlying39 sz22 (by omega) (by omega) (ss_elem (t := d0) (k := 1) (sdat (t0 14 _ rfl) hx.ag).2 (by omega)).some_ rfl (by decide) gt) m0 (fun p0 n0 => ?_)
 refine dt 26 rfl c0 n0 (want_n rfl) (fun x hx => m_loadE (sy n0) n0 rfl rfl rfl 0 (1 * 1) (ss_elem (t := d0) (k := 1) (sdat (t0 14 _ rfl) hx.ag).2 (by omega)) rfl rfl Tryd.underlying22 rfl (by decide) gt) m0 (fun p0 v0 => ?_)
 have p0 := q0.data (dRow 4 ((nthS d0 1).1) ((nthS d0 1).2.2.length) ((nthS d0 1).2.1) (encNs ((nthS d0 1).2.2))) (all_at (t := d0) (k := 1) (q0.get (i := 15) rfl) (by omega))
 refine d1 27 ?_
 have q0 := p0.nf
 refine k_call (xs := [.tmp 39, .tmp 40, .tmp 41, .tmp 51]) (st_op rfl (want_n rfl)) v0 rfl rfl rfl (by decide) ok94 (cast_calls _ _ q0.il _ _ _ _ _ _ ((nthS i0 0).2.2) _ _ ((nthS j0 0).2.2) _ _ ((nthS d0 1).2.2) (q0.z 0) (imm_box (i := 0) rfl) (q0.g 8) (q0.g 12) (q0.g 17)) ?_
 rintro v0 d0 ⟨j0, i0, p0, rfl, n0, m0, t0, h0⟩
 have d0 := q0.callM (i := 0) rfl n0 m0
 have m0 := q0.dM 0 d0 t0
 refine ⟨_, rfl, fun d0 t0 => ?_⟩
 obtain ⟨d0, q0⟩ := caZ h0 (by assumption) (by assumption) (by assumption)
 have q0 := sWI m0 16 (pB 0 1 pn)
 refine ⟨q0, ?_⟩
 refine d1 28 ?_
 have q0 := m0.data (dAll [((cbA, cbc, cb) : Sl), ((j0, i0, p0) : Sl)]) (all_cons (m0.get (i := 2) rfl) (all_cons (m0.get (i := 18) rfl) all_nil))
 refine mbs [(0, .tmp 36), (1, .tmp 52)] [.slice cbA cb.length cbc, .slice j0 p0.length i0] (st_opV rfl (want_n rfl)) t0 q0 Tryd.underlying39 zi22 (fun m0 d0 n0 v0 f0 => ?_)
 have d0 := sWI f0 16 (pB 0 1 pn)
 refine ⟨d0, ?_⟩
 refine d1 29 ?_
 have d0 := f0.nf
 have f0 := own_cap (d0.res (i := 1) rfl)
 obtain ⟨m0, q0⟩ := d0.row_dataM (i := 1) rfl (j := 0) rfl (by decide)
 have d0 := m0.data (dRow 1 (some ⟨n0, 0, none⟩) 2 2 (encSs ([((cbA, cbc, cb) : Sl), ((j0, i0, p0) : Sl)]))) ⟨f0, q0⟩
 refine k_call (xs := [.tmp 27, .tmp 32, .tmp 53]) (st_op rfl (want_n rfl)) v0 rfl rfl rfl (by decide) ok93 (node_calls _ _ d0.il _ _ _ _ (nth ct (ct.length - 1)) _ _ ([((cbA, cbc, cb) : Sl), ((j0, i0, p0) : Sl)]) (d0.z 0) (imm_box (i := 0) rfl) (d0.g 20) (d0.g 19) (hb := (by simp; omega))) ?_
 rintro v0 p0 ⟨i0, j0, q0, rfl, m0, f0, n0, t0⟩
 have p0 := d0.callM (i := 0) rfl m0 f0
 have f0 := d0.dM 0 p0 n0
 refine ⟨_, rfl, fun p0 n0 => ?_⟩
 have p0 := sWI f0 16 (pB 0 1 pn)
 refine ⟨p0, ?_⟩
 refine dtA 30 c0 n0 p0 (fun d0 m0 => ?_)
 refine wpAnyH_done (by kernel_rfl) (o0 _ _ ?_) _
 refine x_then_n (b0 _ _ ?_)
 refine wp_ret ?_
 refine e_ret1 m0 rfl rfl rfl ?_
 refine ⟨i0, j0, q0, ?_, f0.fr, f0.res (i := 0) rfl, f0.rx 21, (by simp only [lsts_nth, s0, u0, x0, h0, t0]; rfl)⟩
 exact congrArg Ending.returned (ret_s (by rfl))
set_option maxRecDepth 100000 in
set_option maxHeartbeats 1000000 in
theorem cis3_calls (w0 : World) (Z : Nat → Prop) (hZ : ∀ k, Z k → k < w0.heap.size) (cg : Nat) (ce : Int) (caA : Option Addr) (cac : Nat) (ca : List Nd) (cbA : Option Addr) (cbc : Nat) (cb : List Nd) (ctA : Option Addr) (ctc : Nat) (ct : List Nd) (cn : Nd) (hc : (Res.box cg 74 [.int .i64 (ce), .slice caA ca.length cac, .slice cbA cb.length cbc, .slice ctA ct.length ctc, .int .i64 (cn.K), .int .i64 (cn.N), .int .i64 (cn.M), .string cn.S]).holds w0) (hcz : ¬ Z cg) (hca : (dRow 4 caA ca.length cac (encNs ca)).φ w0 Z) (hcb : (dRow 4 cbA cb.length cbc (encNs cb)).φ w0 Z) (hct : (dRow 4 ctA ct.length ctc (encNs ct)).φ w0 Z) (h0 : 0 ≤ cn.N := by first | assumption | omega | (simp; done) | (simp; omega)) (h4 : cn.N < 1000 := by first | assumption | omega | (simp; done) | (simp; omega)) :
    Calls Tryd.prog 86 [.pointer (some ⟨cg, 0, none⟩)].toArray w0 (fun e w' => e = .returned (.bool (decide (bandI cn.N 1 = 0))) ∧ Fr (· = cg) w0 w' ∧ (Res.box cg 74 [.int .i64 (ce), .slice caA ca.length cac, .slice cbA cb.length cbc, .slice ctA ct.length ctc, .int .i64 (cn.K), .int .i64 (cn.N), .int .i64 (cn.M), .string cn.S]).holds w') := by
 have b0 := sM hc hcz hZ (zc hca (zc hcb (zc hct zn)))
 refine c_enter Tryd.func86 rfl Tryd.ntmps86 rfl (fun c0 d0 => ?_)
 refine wsc (fun c0 f0 => ?_)
 refine asg d0 (fun c0 i0 => ?_)
 refine wpList_nil (x_then_n (f0 _ _ ?_))
 refine wsc (fun f0 c0 => ?_)
 refine mv i0 (fun f0 d0 => ?_)
 refine r_nilCheck sv d0 rfl rfl rfl (by decide) (fun f0 i0 => ?_)
 refine m_field (j' := 4) sv i0 rfl rfl rfl Tryd.underlying74 rfl sz32 rfl rfl (by decide) (fun f0 d0 => ?_)
 refine m_field (j' := 5) sv d0 rfl rfl rfl Tryd.underlying32 rfl sz3 rfl rfl (by decide) (fun f0 i0 => ?_)
 refine m_load (i := 0) sv i0 b0 rfl rfl rfl rfl rfl Tryd.underlying3 rfl (by decide) (fun f0 d0 => ?_)
 refine r_int (v := .int .i64 ((bandI (cn.N) 1))) sv d0 rfl rfl rfl rfl (by decide) (run_andI (b := 1) (by omega) (by omega) (by decide)) (fun f0 i0 => ?_)
 refine r_eql sv i0 rfl rfl rfl rfl (by decide) (fun f0 d0 => ?_)
 refine asg d0 (fun f0 i0 => ?_)
 refine wpList_nil (x_then_n (c0 _ _ ?_))
 refine wp_ret ?_
 refine e_ret1 i0 rfl rfl rfl ?_
 refine ⟨?_, b0.fr, b0.res (i := 0) rfl⟩
 exact congrArg Ending.returned (ret_b (by rfl))
set_option maxRecDepth 100000 in
set_option maxHeartbeats 1000000 in
theorem cis4_calls (w0 : World) (Z : Nat → Prop) (hZ : ∀ k, Z k → k < w0.heap.size) (cg : Nat) (ce : Int) (caA : Option Addr) (cac : Nat) (ca : List Nd) (cbA : Option Addr) (cbc : Nat) (cb : List Nd) (ctA : Option Addr) (ctc : Nat) (ct : List Nd) (cn : Nd) (hc : (Res.box cg 74 [.int .i64 (ce), .slice caA ca.length cac, .slice cbA cb.length cbc, .slice ctA ct.length ctc, .int .i64 (cn.K), .int .i64 (cn.N), .int .i64 (cn.M), .string cn.S]).holds w0) (hcz : ¬ Z cg) (hca : (dRow 4 caA ca.length cac (encNs ca)).φ w0 Z) (hcb : (dRow 4 cbA cb.length cbc (encNs cb)).φ w0 Z) (hct : (dRow 4 ctA ct.length ctc (encNs ct)).φ w0 Z) :
    Calls Tryd.prog 88 [.pointer (some ⟨cg, 0, none⟩)].toArray w0 (fun e w' => e = .returned (.bool (decide (cn.N < 3))) ∧ Fr (· = cg) w0 w' ∧ (Res.box cg 74 [.int .i64 (ce), .slice caA ca.length cac, .slice cbA cb.length cbc, .slice ctA ct.length ctc, .int .i64 (cn.K), .int .i64 (cn.N), .int .i64 (cn.M), .string cn.S]).holds w') := by
 have b0 := sM hc hcz hZ (zc hca (zc hcb (zc hct zn)))
 refine c_enter Tryd.func88 rfl Tryd.ntmps88 rfl (fun c0 d0 => ?_)
 refine wsc (fun c0 f0 => ?_)
 refine asg d0 (fun c0 h0 => ?_)
 refine wpList_nil (x_then_n (f0 _ _ ?_))
 refine wsc (fun f0 c0 => ?_)
 refine mv h0 (fun f0 d0 => ?_)
 refine r_nilCheck sv d0 rfl rfl rfl (by decide) (fun f0 h0 => ?_)
 refine m_field (j' := 4) sv h0 rfl rfl rfl Tryd.underlying74 rfl sz32 rfl rfl (by decide) (fun f0 d0 => ?_)
 refine m_field (j' := 5) sv d0 rfl rfl rfl Tryd.underlying32 rfl sz3 rfl rfl (by decide) (fun f0 h0 => ?_)
 refine m_load (i := 0) sv h0 b0 rfl rfl rfl rfl rfl Tryd.underlying3 rfl (by decide) (fun f0 d0 => ?_)
 refine r_lss sv d0 rfl rfl rfl rfl (by decide) (fun f0 h0 => ?_)
 refine asg h0 (fun f0 d0 => ?_)
 refine wpList_nil (x_then_n (c0 _ _ ?_))
 refine wp_ret ?_
 refine e_ret1 d0 rfl rfl rfl ?_
 refine ⟨?_, b0.fr, b0.res (i := 0) rfl⟩
 exact congrArg Ending.returned (ret_b (by rfl))
set_option maxRecDepth 100000 in
set_option maxHeartbeats 1000000 in
theorem cis5_calls (w0 : World) (Z : Nat → Prop) (hZ : ∀ k, Z k → k < w0.heap.size) (cg : Nat) (ce : Int) (caA : Option Addr) (cac : Nat) (ca : List Nd) (cbA : Option Addr) (cbc : Nat) (cb : List Nd) (ctA : Option Addr) (ctc : Nat) (ct : List Nd) (cn : Nd) (hc : (Res.box cg 74 [.int .i64 (ce), .slice caA ca.length cac, .slice cbA cb.length cbc, .slice ctA ct.length ctc, .int .i64 (cn.K), .int .i64 (cn.N), .int .i64 (cn.M), .string cn.S]).holds w0) (hcz : ¬ Z cg) (hca : (dRow 4 caA ca.length cac (encNs ca)).φ w0 Z) (hcb : (dRow 4 cbA cb.length cbc (encNs cb)).φ w0 Z) (hct : (dRow 4 ctA ct.length ctc (encNs ct)).φ w0 Z) (hl : ct.length ≤ 1000000 := by first | assumption | omega | (simp; done) | (simp; omega)) (h0 : 0 < ct.length := by first | assumption | omega | (simp; done) | (simp; omega)) :
    Calls Tryd.prog 90 [.pointer (some ⟨cg, 0, none⟩)].toArray w0 (fun e w' => e = .returned (.bool (decide ((nth ct (ct.length - 1)).K = 23))) ∧ Fr (· = cg) w0 w' ∧ (Res.box cg 74 [.int .i64 (ce), .slice caA ca.length cac, .slice cbA cb.length cbc, .slice ctA ct.length ctc, .int .i64 (cn.K), .int .i64 (cn.N), .int .i64 (cn.M), .string cn.S]).holds w') := by
 have b0 := sM hc hcz hZ (zc hca (zc hcb (zc hct zn)))
 refine c_enter Tryd.func90 rfl Tryd.ntmps90 rfl (fun c0 d0 => ?_)
 refine wsc (fun c0 f0 => ?_)
 refine asg d0 (fun c0 i0 => ?_)
 refine wpList_nil (x_then_n (f0 _ _ ?_))
 refine wsc (fun f0 c0 => ?_)
 refine mv i0 (fun f0 d0 => ?_)
 refine r_nilCheck sv d0 rfl rfl rfl (by decide) (fun f0 i0 => ?_)
 refine m_field (j' := 3) sv i0 rfl rfl rfl Tryd.underlying74 rfl sz22 rfl rfl (by decide) (fun f0 d0 => ?_)
 refine m_load (i := 0) sv d0 b0 rfl rfl rfl rfl rfl Tryd.underlying22 rfl (by decide) (fun f0 i0 => ?_)
 have f0 := b0.nf
 refine k_call (xs := [.tmp 6]) se i0 rfl rfl rfl (by decide) ok58 (croot_calls _ _ f0.il _ _ _ (f0.g 2)) ?_
 rintro i0 b0 ⟨rfl, d0⟩
 have b0 := f0.below d0.below
 refine ⟨_, rfl, fun d0 f0 => ?_⟩
 refine m_fieldV (v := .int .i64 (((nth ct (ct.length - 1)).K))) sv f0 rfl rfl rfl (fun _ => by kernel_rfl) (by decide) (fun d0 i0 => ?_)
 refine r_eql sv i0 rfl rfl rfl rfl (by decide) (fun d0 f0 => ?_)
 refine asg f0 (fun d0 i0 => ?_)
 refine wpList_nil (x_then_n (c0 _ _ ?_))
 refine wp_ret ?_
 refine e_ret1 i0 rfl rfl rfl ?_
 refine ⟨?_, b0.fr, b0.res (i := 0) rfl⟩
 exact congrArg Ending.returned (ret_b (by rfl))
set_option maxRecDepth 100000 in
set_option maxHeartbeats 1000000 in
theorem ckind86_calls (w0 : World) (Z : Nat → Prop) (hZ : ∀ k, Z k → k < w0.heap.size) (cg : Nat) (ce : Int) (caA : Option Addr) (cac : Nat) (ca : List Nd) (cbA : Option Addr) (cbc : Nat) (cb : List Nd) (ctA : Option Addr) (ctc : Nat) (ct : List Nd) (cn : Nd) (kg : Nat) (k : Int) (fg : Nat)  (hc : (Res.box cg 74 [.int .i64 (ce), .slice caA ca.length cac, .slice cbA cb.length cbc, .slice ctA ct.length ctc, .int .i64 (cn.K), .int .i64 (cn.N), .int .i64 (cn.M), .string cn.S]).holds w0) (hcz : ¬ Z cg) (hca : (dRow 4 caA ca.length cac (encNs ca)).φ w0 Z) (hcb : (dRow 4 cbA cb.length cbc (encNs cb)).φ w0 Z) (hct : (dRow 4 ctA ct.length ctc (encNs ct)).φ w0 Z) (hk : (dBox kg [.int .i64 (k)]).φ w0 Z) (hf : (dBox fg [.func (.func 86) #[] #[]]).φ w0 Z) (hla : ca.length ≤ 1000000 := by first | assumption | omega | (simp; done) | (simp; omega)) (hlb : cb.length ≤ 1000000 := by first | assumption | omega | (simp; done) | (simp; omega)) (hlt : ct.length ≤ 1000000 := by first | assumption | omega | (simp; done) | (simp; omega)) (h0a : 0 < ca.length := by first | assumption | omega | (simp; done) | (simp; omega)) (h0b : 0 < cb.length := by first | assumption | omega | (simp; done) | (simp; omega)) (h0t : 0 < ct.length := by first | assumption | omega | (simp; done) | (simp; omega)) (h0 : 0 ≤ cn.N := by first | assumption | omega | (simp; done) | (simp; omega)) (h4 : cn.N < 1000 := by first | assumption | omega | (simp; done) | (simp; omega)) :
    Calls Tryd.prog 117 [.pointer (some ⟨cg, 0, none⟩), .pointer (some ⟨kg, 0, none⟩), .pointer (some ⟨fg, 0, none⟩)].toArray w0 (fun e w' => e = .returned (.bool ((decide (cn.K = k) && decide (nth cb (cb.length - 1) = cn)) && decide (bandI cn.N 1 = 0))) ∧ Fr (· = cg) w0 w' ∧ (Res.box cg 74 [.int .i64 (ce), .slice caA ca.length cac, .slice cbA cb.length cbc, .slice ctA ct.length ctc, .int .i64 (cn.K), .int .i64 (cn.N), .int .i64 (cn.M), .string cn.S]).holds w') := by
 have b0 := sM hc hcz hZ (zc hca (zc hcb (zc hct (zc hk (zc hf zn)))))
 refine c_enter Tryd.func117 rfl Tryd.ntmps117 rfl (fun c0 d0 => ?_)
 refine wsc (fun c0 f0 => ?_)
 refine asg d0 (fun c0 i0 => ?_)
 refine wpList_nil (x_then_n (f0 _ _ ?_))
 refine wp_seq_k (fun f0 c0 => ?_)
 obtain ⟨f0, d0, j0⟩ := b0.agree
 refine d_reg3 (n := 25) j0 5 (pB 0 0 pn) (pan_then pan_body) (fun f0 b0 k0 m0 n0 o0 => ?_)
 refine dtM 0 b0 i0 o0 (fun m0 f0 => ?_)
 refine dtN 1 b0 f0 o0 (fun m0 i0 => ?_)
 refine dtF 2 4 b0 i0 o0 Tryd.underlying74 sz32 (fun m0 f0 => ?_)
 refine dtF 3 4 b0 f0 o0 Tryd.underlying32 sz3 (fun m0 i0 => ?_)
 refine dtC 4 4 b0 i0 o0 Tryd.underlying3 (fun m0 f0 => ?_)
 refine dt 5 rfl b0 f0 (want_n rfl) (fun x hx => m_loadC (sy f0) f0 rfl rfl rfl (dbox_cell (sdat (d0 3 _ rfl) hx.ag) rfl) Tryd.underlying3 rfl (by decide) gt) o0 (fun m0 i0 => ?_)
 refine dt 6 rfl b0 i0 (want_n rfl) (fun x hx => r_eql (sy i0) i0 rfl rfl rfl rfl (by decide) gt) o0 (fun m0 f0 => ?_)
 refine dtM 7 b0 f0 o0 (fun m0 i0 => ?_)
 rcases Decidable.em ((cn.K) = (k)) with m0 | m0
 ·
  have f0 := i0.setb (d := 12) (b := true) rfl (decide_eq_true m0)
  refine dtM 8 b0 f0 o0 (fun j0 p0 => ?_) (hw := wt f0)
  refine dtN 9 b0 p0 o0 (fun j0 f0 => ?_) (hw := wt p0)
  refine dtF 10 2 b0 f0 o0 Tryd.underlying74 sz22 (fun j0 p0 => ?_) (hw := wt f0)
  refine dtC 11 2 b0 p0 o0 Tryd.underlying22 (fun j0 f0 => ?_) (hw := wt p0)
  refine dtM 13 b0 f0 o0 (fun j0 p0 => ?_) (hw := wt f0)
  refine dtN 14 b0 p0 o0 (fun j0 f0 => ?_) (hw := wt p0)
  refine dtF 15 4 b0 f0 o0 Tryd.underlying74 sz32 (fun j0 p0 => ?_) (hw := wt f0)
  refine dt 16 rfl b0 p0 (wt p0) (fun x hx => m_loadCN (sy p0) p0 rfl rfl rfl (CellsAt.cons_ (hx.c 4) (CellsAt.cons_ (hx.c 5) (CellsAt.cons_ (hx.c 6) (CellsAt.cons_ (hx.c 7) (CellsAt.nil _ _))))) Tryd.underlying32 rfl sz32 (by decide) gt) o0 (fun j0 f0 => ?_)
  refine d1 12 ?_
  have j0 := n0.nf
  refine k_call (xs := [.tmp 16]) (st_op rfl (wt f0)) f0 rfl rfl rfl (by decide) ok58 (croot_calls _ _ j0.il _ _ _ (j0.g 1)) ?_
  rintro f0 p0 ⟨rfl, q0⟩
  have p0 := j0.below q0.below
  refine ⟨_, rfl, fun q0 j0 => ?_⟩
  have q0 := sWI p0 5 (pB 0 0 pn)
  refine ⟨q0, ?_⟩
  refine dt 17 rfl b0 j0 (wt j0) (fun x hx => r_eqlN (m := (nth cb (cb.length - 1))) (n := cn) (sy j0) j0 rfl rfl rfl rfl (by decide) gt) q0 (fun f0 s0 => ?_)
  refine dt 18 rfl b0 s0 (want_n rfl) (fun x hx => r_pick_t (sy s0) s0 rfl rfl rfl rfl (by decide) gt) q0 (fun f0 j0 => ?_)
  refine dtM 19 b0 j0 q0 (fun f0 s0 => ?_)
  rcases Decidable.em ((nth cb (cb.length - 1)) = cn) with f0 | f0
  ·
   have j0 := s0.setb (d := 24) (b := true) rfl (decide_eq_true f0)
   refine dt 20 rfl b0 j0 (wt j0) (fun x hx => m_loadC (sy j0) j0 rfl rfl rfl (dbox_cell (sdat (d0 4 _ rfl) hx.ag) rfl) Tryd.underlying75 rfl (by decide) gt) q0 (fun t0 u0 => ?_)
   refine dtM 21 b0 u0 q0 (fun t0 j0 => ?_) (hw := wt u0)
   refine d1 22 ?_
   have t0 := p0.nf
   refine k_callV (xs := [.tmp 26]) (st_op rfl (wt j0)) j0 rfl rfl rfl rfl (by decide) ok86 (cis3_calls _ _ t0.il _ _ _ _ _ _ _ _ _ _ _ cn (t0.z 0) (imm_box (i := 0) rfl) (t0.g 0) (t0.g 1) (t0.g 2)) ?_
   rintro j0 u0 ⟨rfl, d0, v0⟩
   have u0 := t0.callM (i := 0) rfl d0 v0
   refine ⟨_, rfl, fun v0 d0 => ?_⟩
   have v0 := sWI u0 5 (pB 0 0 pn)
   refine ⟨v0, ?_⟩
   refine dt 23 rfl b0 d0 (want_n rfl) (fun x hx => r_pick_t (sy d0) d0 rfl rfl rfl rfl (by decide) gt) v0 (fun t0 j0 => ?_)
   refine dtA 24 b0 j0 v0 (fun t0 d0 => ?_)
   refine wpAnyH_done (by kernel_rfl) (k0 _ _ ?_) _
   refine x_then_n (c0 _ _ ?_)
   refine wp_ret ?_
   refine e_ret1 d0 rfl rfl rfl ?_
   refine ⟨?_, u0.fr, u0.res (i := 0) rfl⟩
   exact congrArg Ending.returned (ret_b (by (simp [m0, f0]; done)))
  ·
   have u0 := s0.setb (d := 24) (b := false) rfl (decide_eq_false f0)
   refine dp 20 rfl b0 u0 (wff u0) q0 (fun s0 d0 => ?_)
   refine dp 21 rfl b0 d0 (wff d0) q0 (fun s0 u0 => ?_)
   refine dp 22 rfl b0 u0 (wff u0) q0 (fun s0 d0 => ?_)
   refine dtQ 23 b0 d0 q0 (fun s0 u0 => ?_)
   refine dtA 24 b0 u0 q0 (fun s0 d0 => ?_)
   refine wpAnyH_done (by kernel_rfl) (k0 _ _ ?_) _
   refine x_then_n (c0 _ _ ?_)
   refine wp_ret ?_
   refine e_ret1 d0 rfl rfl rfl ?_
   refine ⟨?_, p0.fr, p0.res (i := 0) rfl⟩
   exact congrArg Ending.returned (ret_b (by (simp [m0, f0]; done)))
 ·
  have f0 := i0.setb (d := 12) (b := false) rfl (decide_eq_false m0)
  refine dp 8 rfl b0 f0 (wff f0) o0 (fun i0 p0 => ?_)
  refine dp 9 rfl b0 p0 (wff p0) o0 (fun i0 f0 => ?_)
  refine dp 10 rfl b0 f0 (wff f0) o0 (fun i0 p0 => ?_)
  refine dp 11 rfl b0 p0 (wff p0) o0 (fun i0 f0 => ?_)
  refine dp 12 rfl b0 f0 (wff f0) o0 (fun i0 p0 => ?_)
  refine dp 13 rfl b0 p0 (wff p0) o0 (fun i0 f0 => ?_)
  refine dp 14 rfl b0 f0 (wff f0) o0 (fun i0 p0 => ?_)
  refine dp 15 rfl b0 p0 (wff p0) o0 (fun i0 f0 => ?_)
  refine dp 16 rfl b0 f0 (wff f0) o0 (fun i0 p0 => ?_)
  refine dp 17 rfl b0 p0 (wff p0) o0 (fun i0 f0 => ?_)
  refine dtQ 18 b0 f0 o0 (fun i0 p0 => ?_)
  refine dtM 19 b0 p0 o0 (fun i0 f0 => ?_)
  refine dp 20 rfl b0 f0 (wff f0) o0 (fun i0 p0 => ?_)
  refine dp 21 rfl b0 p0 (wff p0) o0 (fun i0 f0 => ?_)
  refine dp 22 rfl b0 f0 (wff f0) o0 (fun i0 p0 => ?_)
  refine dtQ 23 b0 p0 o0 (fun i0 f0 => ?_)
  refine dtA 24 b0 f0 o0 (fun i0 p0 => ?_)
  refine wpAnyH_done (by kernel_rfl) (k0 _ _ ?_) _
  refine x_then_n (c0 _ _ ?_)
  refine wp_ret ?_
  refine e_ret1 p0 rfl rfl rfl ?_
  refine ⟨?_, n0.fr, n0.res (i := 0) rfl⟩
  exact congrArg Ending.returned (ret_b (by (simp [m0]; done)))
set_option maxRecDepth 100000 in
set_option maxHeartbeats 1000000 in
theorem ckind88_calls (w0 : World) (Z : Nat → Prop) (hZ : ∀ k, Z k → k < w0.heap.size) (cg : Nat) (ce : Int) (caA : Option Addr) (cac : Nat) (ca : List Nd) (cbA : Option Addr) (cbc : Nat) (cb : List Nd) (ctA : Option Addr) (ctc : Nat) (ct : List Nd) (cn : Nd) (kg : Nat) (k : Int) (fg : Nat)  (hc : (Res.box cg 74 [.int .i64 (ce), .slice caA ca.length cac, .slice cbA cb.length cbc, .slice ctA ct.length ctc, .int .i64 (cn.K), .int .i64 (cn.N), .int .i64 (cn.M), .string cn.S]).holds w0) (hcz : ¬ Z cg) (hca : (dRow 4 caA ca.length cac (encNs ca)).φ w0 Z) (hcb : (dRow 4 cbA cb.length cbc (encNs cb)).φ w0 Z) (hct : (dRow 4 ctA ct.length ctc (encNs ct)).φ w0 Z) (hk : (dBox kg [.int .i64 (k)]).φ w0 Z) (hf : (dBox fg [.func (.func 88) #[] #[]]).φ w0 Z) (hla : ca.length ≤ 1000000 := by first | assumption | omega | (simp; done) | (simp; omega)) (hlb : cb.length ≤ 1000000 := by first | assumption | omega | (simp; done) | (simp; omega)) (hlt : ct.length ≤ 1000000 := by first | assumption | omega | (simp; done) | (simp; omega)) (h0a : 0 < ca.length := by first | assumption | omega | (simp; done) | (simp; omega)) (h0b : 0 < cb.length := by first | assumption | omega | (simp; done) | (simp; omega)) (h0t : 0 < ct.length := by first | assumption | omega | (simp; done) | (simp; omega)) :
    Calls Tryd.prog 117 [.pointer (some ⟨cg, 0, none⟩), .pointer (some ⟨kg, 0, none⟩), .pointer (some ⟨fg, 0, none⟩)].toArray w0 (fun e w' => e = .returned (.bool ((decide (cn.K = k) && decide (nth cb (cb.length - 1) = cn)) && decide (cn.N < 3))) ∧ Fr (· = cg) w0 w' ∧ (Res.box cg 74 [.int .i64 (ce), .slice caA ca.length cac, .slice cbA cb.length cbc, .slice ctA ct.length ctc, .int .i64 (cn.K), .int .i64 (cn.N), .int .i64 (cn.M), .string cn.S]).holds w') := by
 have b0 := sM hc hcz hZ (zc hca (zc hcb (zc hct (zc hk (zc hf zn)))))
 refine c_enter Tryd.func117 rfl Tryd.ntmps117 rfl (fun c0 d0 => ?_)
 refine wsc (fun c0 f0 => ?_)
 refine asg d0 (fun c0 h0 => ?_)
 refine wpList_nil (x_then_n (f0 _ _ ?_))
 refine wp_seq_k (fun f0 c0 => ?_)
 obtain ⟨f0, d0, i0⟩ := b0.agree
 refine d_reg3 (n := 25) i0 5 (pB 0 0 pn) (pan_then pan_body) (fun f0 b0 j0 k0 m0 n0 => ?_)
 refine dtM 0 b0 h0 n0 (fun k0 f0 => ?_)
 refine dtN 1 b0 f0 n0 (fun k0 h0 => ?_)
 refine dtF 2 4 b0 h0 n0 Tryd.underlying74 sz32 (fun k0 f0 => ?_)
 refine dtF 3 4 b0 f0 n0 Tryd.underlying32 sz3 (fun k0 h0 => ?_)
 refine dtC 4 4 b0 h0 n0 Tryd.underlying3 (fun k0 f0 => ?_)
 refine dt 5 rfl b0 f0 (want_n rfl) (fun x hx => m_loadC (sy f0) f0 rfl rfl rfl (dbox_cell (sdat (d0 3 _ rfl) hx.ag) rfl) Tryd.underlying3 rfl (by decide) gt) n0 (fun k0 h0 => ?_)
 refine dt 6 rfl b0 h0 (want_n rfl) (fun x hx => r_eql (sy h0) h0 rfl rfl rfl rfl (by decide) gt) n0 (fun k0 f0 => ?_)
 refine dtM 7 b0 f0 n0 (fun k0 h0 => ?_)
 rcases Decidable.em ((cn.K) = (k)) with k0 | k0
 ·
  have f0 := h0.setb (d := 12) (b := true) rfl (decide_eq_true k0)
  refine dtM 8 b0 f0 n0 (fun i0 o0 => ?_) (hw := wt f0)
  refine dtN 9 b0 o0 n0 (fun i0 f0 => ?_) (hw := wt o0)
  refine dtF 10 2 b0 f0 n0 Tryd.underlying74 sz22 (fun i0 o0 => ?_) (hw := wt f0)
  refine dtC 11 2 b0 o0 n0 Tryd.underlying22 (fun i0 f0 => ?_) (hw := wt o0)
  refine dtM 13 b0 f0 n0 (fun i0 o0 => ?_) (hw := wt f0)
  refine dtN 14 b0 o0 n0 (fun i0 f0 => ?_) (hw := wt o0)
  refine dtF 15 4 b0 f0 n0 Tryd.underlying74 sz32 (fun i0 o0 => ?_) (hw := wt f0)
  refine dt 16 rfl b0 o0 (wt o0) (fun x hx => m_loadCN (sy o0) o0 rfl rfl rfl (CellsAt.cons_ (hx.c 4) (CellsAt.cons_ (hx.c 5) (CellsAt.cons_ (hx.c 6) (CellsAt.cons_ (hx.c 7) (CellsAt.nil _ _))))) Tryd.underlying32 rfl sz32 (by decide) gt) n0 (fun i0 f0 => ?_)
  refine d1 12 ?_
  have i0 := m0.nf
  refine k_call (xs := [.tmp 16]) (st_op rfl (wt f0)) f0 rfl rfl rfl (by decide) ok58 (croot_calls _ _ i0.il _ _ _ (i0.g 1)) ?_
  rintro f0 o0 ⟨rfl, p0⟩
  have o0 := i0.below p0.below
  refine ⟨_, rfl, fun p0 i0 => ?_⟩
  have p0 := sWI o0 5 (pB 0 0 pn)
  refine ⟨p0, ?_⟩
  refine dt 17 rfl b0 i0 (wt i0) (fun x hx => r_eqlN (m := (nth cb (cb.length - 1))) (n := cn) (sy i0) i0 rfl rfl rfl rfl (by decide) gt) p0 (fun f0 q0 => ?_)
  refine dt 18 rfl b0 q0 (want_n rfl) (fun x hx => r_pick_t (sy q0) q0 rfl rfl rfl rfl (by decide) gt) p0 (fun f0 i0 => ?_)
  refine dtM 19 b0 i0 p0 (fun f0 q0 => ?_)
  rcases Decidable.em ((nth cb (cb.length - 1)) = cn) with f0 | f0
  ·
   have i0 := q0.setb (d := 24) (b := true) rfl (decide_eq_true f0)
   refine dt 20 rfl b0 i0 (wt i0) (fun x hx => m_loadC (sy i0) i0 rfl rfl rfl (dbox_cell (sdat (d0 4 _ rfl) hx.ag) rfl) Tryd.underlying75 rfl (by decide) gt) p0 (fun s0 t0 => ?_)
   refine dtM 21 b0 t0 p0 (fun s0 i0 => ?_) (hw := wt t0)
   refine d1 22 ?_
   have s0 := o0.nf
   refine k_callV (xs := [.tmp 26]) (st_op rfl (wt i0)) i0 rfl rfl rfl rfl (by decide) ok88 (cis4_calls _ _ s0.il _ _ _ _ _ _ _ _ _ _ _ cn (s0.z 0) (imm_box (i := 0) rfl) (s0.g 0) (s0.g 1) (s0.g 2)) ?_
   rintro i0 t0 ⟨rfl, d0, u0⟩
   have t0 := s0.callM (i := 0) rfl d0 u0
   refine ⟨_, rfl, fun u0 d0 => ?_⟩
   have u0 := sWI t0 5 (pB 0 0 pn)
   refine ⟨u0, ?_⟩
   refine dt 23 rfl b0 d0 (want_n rfl) (fun x hx => r_pick_t (sy d0) d0 rfl rfl rfl rfl (by decide) gt) u0 (fun s0 i0 => ?_)
   refine dtA 24 b0 i0 u0 (fun s0 d0 => ?_)
   refine wpAnyH_done (by kernel_rfl) (j0 _ _ ?_) _
   refine x_then_n (c0 _ _ ?_)
   refine wp_ret ?_
   refine e_ret1 d0 rfl rfl rfl ?_
   refine ⟨?_, t0.fr, t0.res (i := 0) rfl⟩
   exact congrArg Ending.returned (ret_b (by (simp [k0, f0]; done)))
  ·
   have t0 := q0.setb (d := 24) (b := false) rfl (decide_eq_false f0)
   refine dp 20 rfl b0 t0 (wff t0) p0 (fun q0 d0 => ?_)
   refine dp 21 rfl b0 d0 (wff d0) p0 (fun q0 t0 => ?_)
   refine dp 22 rfl b0 t0 (wff t0) p0 (fun q0 d0 => ?_)
   refine dtQ 23 b0 d0 p0 (fun q0 t0 => ?_)
   refine dtA 24 b0 t0 p0 (fun q0 d0 => ?_)
   refine wpAnyH_done (by kernel_rfl) (j0 _ _ ?_) _
   refine x_then_n (c0 _ _ ?_)
   refine wp_ret ?_
   refine e_ret1 d0 rfl rfl rfl ?_
   refine ⟨?_, o0.fr, o0.res (i := 0) rfl⟩
   exact congrArg Ending.returned (ret_b (by (simp [k0, f0]; done)))
 ·
  have f0 := h0.setb (d := 12) (b := false) rfl (decide_eq_false k0)
  refine dp 8 rfl b0 f0 (wff f0) n0 (fun h0 o0 => ?_)
  refine dp 9 rfl b0 o0 (wff o0) n0 (fun h0 f0 => ?_)
  refine dp 10 rfl b0 f0 (wff f0) n0 (fun h0 o0 => ?_)
  refine dp 11 rfl b0 o0 (wff o0) n0 (fun h0 f0 => ?_)
  refine dp 12 rfl b0 f0 (wff f0) n0 (fun h0 o0 => ?_)
  refine dp 13 rfl b0 o0 (wff o0) n0 (fun h0 f0 => ?_)
  refine dp 14 rfl b0 f0 (wff f0) n0 (fun h0 o0 => ?_)
  refine dp 15 rfl b0 o0 (wff o0) n0 (fun h0 f0 => ?_)
  refine dp 16 rfl b0 f0 (wff f0) n0 (fun h0 o0 => ?_)
  refine dp 17 rfl b0 o0 (wff o0) n0 (fun h0 f0 => ?_)
  refine dtQ 18 b0 f0 n0 (fun h0 o0 => ?_)
  refine dtM 19 b0 o0 n0 (fun h0 f0 => ?_)
  refine dp 20 rfl b0 f0 (wff f0) n0 (fun h0 o0 => ?_)
  refine dp 21 rfl b0 o0 (wff o0) n0 (fun h0 f0 => ?_)
  refine dp 22 rfl b0 f0 (wff f0) n0 (fun h0 o0 => ?_)
  refine dtQ 23 b0 o0 n0 (fun h0 f0 => ?_)
  refine dtA 24 b0 f0 n0 (fun h0 o0 => ?_)
  refine wpAnyH_done (by kernel_rfl) (j0 _ _ ?_) _
  refine x_then_n (c0 _ _ ?_)
  refine wp_ret ?_
  refine e_ret1 o0 rfl rfl rfl ?_
  refine ⟨?_, m0.fr, m0.res (i := 0) rfl⟩
  exact congrArg Ending.returned (ret_b (by (simp [k0]; done)))
set_option maxRecDepth 100000 in
set_option maxHeartbeats 1000000 in
theorem ckind90_calls (w0 : World) (Z : Nat → Prop) (hZ : ∀ k, Z k → k < w0.heap.size) (cg : Nat) (ce : Int) (caA : Option Addr) (cac : Nat) (ca : List Nd) (cbA : Option Addr) (cbc : Nat) (cb : List Nd) (ctA : Option Addr) (ctc : Nat) (ct : List Nd) (cn : Nd) (kg : Nat) (k : Int) (fg : Nat)  (hc : (Res.box cg 74 [.int .i64 (ce), .slice caA ca.length cac, .slice cbA cb.length cbc, .slice ctA ct.length ctc, .int .i64 (cn.K), .int .i64 (cn.N), .int .i64 (cn.M), .string cn.S]).holds w0) (hcz : ¬ Z cg) (hca : (dRow 4 caA ca.length cac (encNs ca)).φ w0 Z) (hcb : (dRow 4 cbA cb.length cbc (encNs cb)).φ w0 Z) (hct : (dRow 4 ctA ct.length ctc (encNs ct)).φ w0 Z) (hk : (dBox kg [.int .i64 (k)]).φ w0 Z) (hf : (dBox fg [.func (.func 90) #[] #[]]).φ w0 Z) (hla : ca.length ≤ 1000000 := by first | assumption | omega | (simp; done) | (simp; omega)) (hlb : cb.length ≤ 1000000 := by first | assumption | omega | (simp; done) | (simp; omega)) (hlt : ct.length ≤ 1000000 := by first | assumption | omega | (simp; done) | (simp; omega)) (h0a : 0 < ca.length := by first | assumption | omega | (simp; done) | (simp; omega)) (h0b : 0 < cb.length := by first | assumption | omega | (simp; done) | (simp; omega)) (h0t : 0 < ct.length := by first | assumption | omega | (simp; done) | (simp; omega)) :
    Calls Tryd.prog 117 [.pointer (some ⟨cg, 0, none⟩), .pointer (some ⟨kg, 0, none⟩), .pointer (some ⟨fg, 0, none⟩)].toArray w0 (fun e w' => e = .returned (.bool ((decide (cn.K = k) && decide (nth cb (cb.length - 1) = cn)) && decide ((nth ct (ct.length - 1)).K = 23))) ∧ Fr (· = cg) w0 w' ∧ (Res.box cg 74 [.int .i64 (ce), .slice caA ca.length cac, .slice cbA cb.length cbc, .slice ctA ct.length ctc, .int .i64 (cn.K), .int .i64 (cn.N), .int .i64 (cn.M), .string cn.S]).holds w') := by
 have b0 := sM hc hcz hZ (zc hca (zc hcb (zc hct (zc hk (zc hf zn)))))
 refine c_enter Tryd.func117 rfl Tryd.ntmps117 rfl (fun c0 d0 => ?_)
 refine wsc (fun c0 f0 => ?_)
 refine asg d0 (fun c0 h0 => ?_)
 refine wpList_nil (x_then_n (f0 _ _ ?_))
 refine wp_seq_k (fun f0 c0 => ?_)
 obtain ⟨f0, d0, i0⟩ := b0.agree
 refine d_reg3 (n := 25) i0 5 (pB 0 0 pn) (pan_then pan_body) (fun f0 b0 j0 k0 m0 n0 => ?_)
 refine dtM 0 b0 h0 n0 (fun k0 f0 => ?_)
 refine dtN 1 b0 f0 n0 (fun k0 h0 => ?_)
 refine dtF 2 4 b0 h0 n0 Tryd.underlying74 sz32 (fun k0 f0 => ?_)
 refine dtF 3 4 b0 f0 n0 Tryd.underlying32 sz3 (fun k0 h0 => ?_)
 refine dtC 4 4 b0 h0 n0 Tryd.underlying3 (fun k0 f0 => ?_)
 refine dt 5 rfl b0 f0 (want_n rfl) (fun x hx => m_loadC (sy f0) f0 rfl rfl rfl (dbox_cell (sdat (d0 3 _ rfl) hx.ag) rfl) Tryd.underlying3 rfl (by decide) gt) n0 (fun k0 h0 => ?_)
 refine dt 6 rfl b0 h0 (want_n rfl) (fun x hx => r_eql (sy h0) h0 rfl rfl rfl rfl (by decide) gt) n0 (fun k0 f0 => ?_)
 refine dtM 7 b0 f0 n0 (fun k0 h0 => ?_)
 rcases Decidable.em ((cn.K) = (k)) with k0 | k0
 ·
  have f0 := h0.setb (d := 12) (b := true) rfl (decide_eq_true k0)
  refine dtM 8 b0 f0 n0 (fun i0 o0 => ?_) (hw := wt f0)
  refine dtN 9 b0 o0 n0 (fun i0 f0 => ?_) (hw := wt o0)
  refine dtF 10 2 b0 f0 n0 Tryd.underlying74 sz22 (fun i0 o0 => ?_) (hw := wt f0)
  refine dtC 11 2 b0 o0 n0 Tryd.underlying22 (fun i0 f0 => ?_) (hw := wt o0)
  refine dtM 13 b0 f0 n0 (fun i0 o0 => ?_) (hw := wt f0)
  refine dtN 14 b0 o0 n0 (fun i0 f0 => ?_) (hw := wt o0)
  refine dtF 15 4 b0 f0 n0 Tryd.underlying74 sz32 (fun i0 o0 => ?_) (hw := wt f0)
  refine dt 16 rfl b0 o0 (wt o0) (fun x hx => m_loadCN (sy o0) o0 rfl rfl rfl (CellsAt.cons_ (hx.c 4) (CellsAt.cons_ (hx.c 5) (CellsAt.cons_ (hx.c 6) (CellsAt.cons_ (hx.c 7) (CellsAt.nil _ _))))) Tryd.underlying32 rfl sz32 (by decide) gt) n0 (fun i0 f0 => ?_)
  refine d1 12 ?_
  have i0 := m0.nf
  refine k_call (xs := [.tmp 16]) (st_op rfl (wt f0)) f0 rfl rfl rfl (by decide) ok58 (croot_calls _ _ i0.il _ _ _ (i0.g 1)) ?_
  rintro f0 o0 ⟨rfl, p0⟩
  have o0 := i0.below p0.below
  refine ⟨_, rfl, fun p0 i0 => ?_⟩
  have p0 := sWI o0 5 (pB 0 0 pn)
  refine ⟨p0, ?_⟩
  refine dt 17 rfl b0 i0 (wt i0) (fun x hx => r_eqlN (m := (nth cb (cb.length - 1))) (n := cn) (sy i0) i0 rfl rfl rfl rfl (by decide) gt) p0 (fun f0 q0 => ?_)
  refine dt 18 rfl b0 q0 (want_n rfl) (fun x hx => r_pick_t (sy q0) q0 rfl rfl rfl rfl (by decide) gt) p0 (fun f0 i0 => ?_)
  refine dtM 19 b0 i0 p0 (fun f0 q0 => ?_)
  rcases Decidable.em ((nth cb (cb.length - 1)) = cn) with f0 | f0
  ·
   have i0 := q0.setb (d := 24) (b := true) rfl (decide_eq_true f0)
   refine dt 20 rfl b0 i0 (wt i0) (fun x hx => m_loadC (sy i0) i0 rfl rfl rfl (dbox_cell (sdat (d0 4 _ rfl) hx.ag) rfl) Tryd.underlying75 rfl (by decide) gt) p0 (fun s0 t0 => ?_)
   refine dtM 21 b0 t0 p0 (fun s0 i0 => ?_) (hw := wt t0)
   refine d1 22 ?_
   have s0 := o0.nf
   refine k_callV (xs := [.tmp 26]) (st_op rfl (wt i0)) i0 rfl rfl rfl rfl (by decide) ok90 (cis5_calls _ _ s0.il _ _ _ _ _ _ _ _ _ _ _ cn (s0.z 0) (imm_box (i := 0) rfl) (s0.g 0) (s0.g 1) (s0.g 2)) ?_
   rintro i0 t0 ⟨rfl, d0, u0⟩
   have t0 := s0.callM (i := 0) rfl d0 u0
   refine ⟨_, rfl, fun u0 d0 => ?_⟩
   have u0 := sWI t0 5 (pB 0 0 pn)
   refine ⟨u0, ?_⟩
   refine dt 23 rfl b0 d0 (want_n rfl) (fun x hx => r_pick_t (sy d0) d0 rfl rfl rfl rfl (by decide) gt) u0 (fun s0 i0 => ?_)
   refine dtA 24 b0 i0 u0 (fun s0 d0 => ?_)
   refine wpAnyH_done (by kernel_rfl) (j0 _ _ ?_) _
   refine x_then_n (c0 _ _ ?_)
   refine wp_ret ?_
   refine e_ret1 d0 rfl rfl rfl ?_
   refine ⟨?_, t0.fr, t0.res (i := 0) rfl⟩
   exact congrArg Ending.returned (ret_b (by (simp [k0, f0]; done)))
  ·
   have t0 := q0.setb (d := 24) (b := false) rfl (decide_eq_false f0)
   refine dp 20 rfl b0 t0 (wff t0) p0 (fun q0 d0 => ?_)
   refine dp 21 rfl b0 d0 (wff d0) p0 (fun q0 t0 => ?_)
   refine dp 22 rfl b0 t0 (wff t0) p0 (fun q0 d0 => ?_)
   refine dtQ 23 b0 d0 p0 (fun q0 t0 => ?_)
   refine dtA 24 b0 t0 p0 (fun q0 d0 => ?_)
   refine wpAnyH_done (by kernel_rfl) (j0 _ _ ?_) _
   refine x_then_n (c0 _ _ ?_)
   refine wp_ret ?_
   refine e_ret1 d0 rfl rfl rfl ?_
   refine ⟨?_, o0.fr, o0.res (i := 0) rfl⟩
   exact congrArg Ending.returned (ret_b (by (simp [k0, f0]; done)))
 ·
  have f0 := h0.setb (d := 12) (b := false) rfl (decide_eq_false k0)
  refine dp 8 rfl b0 f0 (wff f0) n0 (fun h0 o0 => ?_)
  refine dp 9 rfl b0 o0 (wff o0) n0 (fun h0 f0 => ?_)
  refine dp 10 rfl b0 f0 (wff f0) n0 (fun h0 o0 => ?_)
  refine dp 11 rfl b0 o0 (wff o0) n0 (fun h0 f0 => ?_)
  refine dp 12 rfl b0 f0 (wff f0) n0 (fun h0 o0 => ?_)
  refine dp 13 rfl b0 o0 (wff o0) n0 (fun h0 f0 => ?_)
  refine dp 14 rfl b0 f0 (wff f0) n0 (fun h0 o0 => ?_)
  refine dp 15 rfl b0 o0 (wff o0) n0 (fun h0 f0 => ?_)
  refine dp 16 rfl b0 f0 (wff f0) n0 (fun h0 o0 => ?_)
  refine dp 17 rfl b0 o0 (wff o0) n0 (fun h0 f0 => ?_)
  refine dtQ 18 b0 f0 n0 (fun h0 o0 => ?_)
  refine dtM 19 b0 o0 n0 (fun h0 f0 => ?_)
  refine dp 20 rfl b0 f0 (wff f0) n0 (fun h0 o0 => ?_)
  refine dp 21 rfl b0 o0 (wff o0) n0 (fun h0 f0 => ?_)
  refine dp 22 rfl b0 f0 (wff f0) n0 (fun h0 o0 => ?_)
  refine dtQ 23 b0 o0 n0 (fun h0 f0 => ?_)
  refine dtA 24 b0 f0 n0 (fun h0 o0 => ?_)
  refine wpAnyH_done (by kernel_rfl) (j0 _ _ ?_) _
  refine x_then_n (c0 _ _ ?_)
  refine wp_ret ?_
  refine e_ret1 o0 rfl rfl rfl ?_
  refine ⟨?_, m0.fr, m0.res (i := 0) rfl⟩
  exact congrArg Ending.returned (ret_b (by (simp [k0]; done)))
end Go.Proofs.YtobgdeffhdefeaaDoor
