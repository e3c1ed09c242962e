import Derived.Test.YtobgdeffhdefeaaDoorZth
import Derived.Test.YtobgdeffhdefeaaDoorCards
import Derived.Test.YtobgdeffhdefeaaDoorTie
import Derived.ProofKit
import Derived.OpenShut
import Derived.ReadAgain
import Derived.Deep.DeepHandedRow
import Derived.Deep.Slices
import Derived.Lib.LaidTab
import Derived.Deep.DeepWitnessRowRef
/- Contracts of functions, one theorem each: what the call returns, and that nothing old is changed. Printed by gen.py. -/
namespace Go.Proofs.YtobgdeffhdefeaaDoor
open Go Go.RowKit
set_option linter.unusedSimpArgs false
set_option linter.unusedVariables false
set_option maxRecDepth 100000 in
set_option maxHeartbeats 1000000 in
theorem rcount_calls_rec (rn : Nat) : ∀ (w0 : World) (Z : Nat → Prop) (hZ : ∀ k, Z k → k < w0.heap.size) (tA : Option Addr) (tc : Nat) (t : List Nd) (k : Int) (u : Int) (ht : (dRow 4 tA t.length tc (encNs t)).φ w0 Z) (hl : t.length ≤ 1000000) (hsm : sml t) (hb : measB t = true) (hu0 : 0 ≤ u) (hub : u + 2 * t.length ≤ 10000000) (hrn : t.length = rn),
    Calls Tryd.prog 48 [.slice tA t.length tc, .int .i64 k, .int .i64 u].toArray w0 (fun e w' => e = .returned (.tuple #[.int .i64 ((usL t k u : Nat) : Int), .int .i64 (moL t k u)]) ∧ Fr none_ w0 w') := by
 induction rn using Nat.strongRecOn
 rename_i rn ih
 intro w0 Z hZ tA tc t k u ht hl hsm hb hu0 hub hrn
 have b0 := s0 (M := none_) hZ (zc ht zn)
 have hp0 := meas_pos hb
 have hrt := right_at hb (show t.length - 1 < t.length by omega)
 have hbl := bindL_right hrt
 have hbm := bindL_many hrt
 have hpm := ptL_length hb
 refine c_enter Tryd.func48 rfl Tryd.ntmps48 rfl (fun c0 d0 => ?_)
 refine wsc (fun c0 f0 => ?_)
 refine asg d0 (fun c0 h0 => ?_)
 refine asg h0 (fun c0 d0 => ?_)
 refine wpList_nil (x_then_n (f0 _ _ ?_))
 refine wsc (fun f0 c0 => ?_)
 refine mv d0 (fun f0 h0 => ?_)
 have f0 := b0.nf
 refine k_call (xs := [.tmp 18]) se h0 rfl rfl rfl (by decide) ok23 (rroot_calls _ _ f0.il _ _ _ (f0.g 0)) ?_
 rintro h0 b0 ⟨rfl, d0⟩
 have b0 := f0.below d0.below
 refine ⟨_, rfl, fun d0 f0 => ?_⟩
 refine m_alloc (cs := [.int .i64 0, .int .i64 0, .int .i64 0, .string (⟨#[]⟩ : ByteArray)]) sv f0 b0 rfl rfl ze32 rfl (by decide) (fun d0 h0 i0 j0 k0 => ?_)
 refine m_store (i := 0) (cs' := [.int .i64 (((nth t (t.length - 1)).K)), .int .i64 (((nth t (t.length - 1)).N)), .int .i64 (((nth t (t.length - 1)).M)), .string ((nth t (t.length - 1)).S)]) se j0 k0 rfl rfl rfl rfl rfl sz32 rfl rfl rfl (fun h0 d0 f0 b0 => ?_)
 refine wpList_nil (x_then_n (c0 _ _ ?_))
 refine wp_seq_k (fun c0 d0 => ?_)
 refine wsc (fun c0 h0 => ?_)
 refine m_field (j' := 0) sv f0 rfl rfl rfl Tryd.underlying32 rfl sz3 rfl rfl (by decide) (fun c0 k0 => ?_)
 refine m_load (i := 0) sv k0 b0 rfl rfl rfl rfl rfl Tryd.underlying3 rfl (by decide) (fun c0 f0 => ?_)
 refine r_eql sv f0 rfl rfl rfl rfl (by decide) (fun c0 k0 => ?_)
 refine wpList_nil (x_then_n (h0 _ _ ?_))
 rcases Decidable.em ((((nth t (t.length - 1)).K)) = 0) with h0 | h0
 ·
  obtain ⟨c0, f0⟩ := var_at hb (by omega)
  have f0 := k0.setb (d := 22) (b := true) rfl (decide_eq_true h0)
  refine wp_cond_true (f0.ev rfl) ?_
  refine wsc (fun c0 j0 => ?_)
  refine m_field (j' := 1) sv f0 rfl rfl rfl Tryd.underlying32 rfl sz3 rfl rfl (by decide) (fun c0 m0 => ?_)
  refine m_load (i := 0) sv m0 b0 rfl rfl rfl rfl rfl Tryd.underlying3 rfl (by decide) (fun c0 f0 => ?_)
  refine mv f0 (fun c0 m0 => ?_)
  refine r_sub (z := (((nth t (t.length - 1)).N) - u)) sv m0 rfl rfl rfl rfl (by decide) (by omega) (by omega) (by omega) (fun c0 f0 => ?_)
  refine asg f0 (fun c0 m0 => ?_)
  refine wpList_nil (x_then_n (j0 _ _ ?_))
  refine wp_seq_k (fun j0 c0 => ?_)
  refine wsc (fun j0 f0 => ?_)
  refine mv m0 (fun j0 n0 => ?_)
  refine r_geq sv n0 rfl rfl rfl rfl (by decide) (fun j0 m0 => ?_)
  refine mv m0 (fun j0 n0 => ?_)
  refine l_join (fun ga gw => Reg ga 75 [(0, .slice tA t.length tc), (1, .int .i64 (k)), (2, .int .i64 (u)), (6, .int .i64 0), (7, .int .i64 0), (8, .pointer (some ⟨i0, 0, none⟩)), (9, .int .i64 (((nth t (t.length - 1)).N) - u)), (37, .bool ((decide (0 ≤ (((nth t (t.length - 1)).N) - u))) && ((decide ((k) < 0)) || (decide ((((nth t (t.length - 1)).N) - u) = (k)))))), (1000000, .bool false)] ∧ St w0 Z none_ gw [.box i0 32 [.int .i64 (((nth t (t.length - 1)).K)), .int .i64 (((nth t (t.length - 1)).N)), .int .i64 (((nth t (t.length - 1)).M)), .string ((nth t (t.length - 1)).S)]] [dRow 4 tA t.length tc (encNs t)]) 8 ?_ ?_
  ·
   rcases Decidable.em (0 ≤ (((nth t (t.length - 1)).N) - u)) with j0 | j0
   ·
    have m0 := n0.setb (d := 29) (b := true) rfl (decide_eq_true j0)
    refine r_move (st_listV_w (wt m0)) m0 rfl rfl rfl (by decide) (fun o0 p0 => ?_)
    refine r_lss (st_listV_w (wt p0)) p0 rfl rfl rfl rfl (by decide) (fun o0 m0 => ?_)
    refine r_move (st_listV_w (wt m0)) m0 rfl rfl rfl (by decide) (fun o0 p0 => ?_)
    rcases Decidable.em ((k) < 0) with o0 | o0
    ·
     have m0 := p0.setb (d := 32) (b := true) rfl (decide_eq_true o0)
     refine sps m0 (wff m0) (fun q0 t0 => ?_)
     refine sps t0 (wff t0) (fun q0 m0 => ?_)
     refine sps m0 (wff m0) (fun q0 t0 => ?_)
     refine r_pick_t (st_listV_w (wt t0)) t0 rfl rfl rfl rfl (by decide) (fun q0 m0 => ?_)
     refine r_pick_t sv m0 rfl rfl rfl rfl (by decide) (fun q0 t0 => ?_)
     refine wpList_nil ?_
     exact x_then_n ⟨(t0.sub (rc rfl (rc rfl (rc rfl (rc rfl (rc rfl (rc rfl (rc rfl (rc (rb rfl (by (simp only [decide_eq_true j0, if_pos j0, decide_eq_true o0, if_pos o0, bl]; done))) (rc rfl rnl)))))))))), b0⟩
    ·
     have t0 := p0.setb (d := 32) (b := false) rfl (decide_eq_false o0)
     refine r_move (st_listV_w (wt t0)) t0 rfl rfl rfl (by decide) (fun p0 q0 => ?_)
     refine r_move (st_listV_w (wt q0)) q0 rfl rfl rfl (by decide) (fun p0 t0 => ?_)
     refine r_eql (st_listV_w (wt t0)) t0 rfl rfl rfl rfl (by decide) (fun p0 q0 => ?_)
     refine r_pick_f (st_listV_w (wt q0)) q0 rfl rfl rfl rfl (by decide) (fun p0 t0 => ?_)
     refine r_pick_t sv t0 rfl rfl rfl rfl (by decide) (fun p0 q0 => ?_)
     refine wpList_nil ?_
     exact x_then_n ⟨(q0.sub (rc rfl (rc rfl (rc rfl (rc rfl (rc rfl (rc rfl (rc rfl (rc (rb rfl (by (simp only [decide_eq_true j0, if_pos j0, decide_eq_false o0, if_neg o0, bl]; done))) (rc rfl rnl)))))))))), b0⟩
   ·
    have q0 := n0.setb (d := 29) (b := false) rfl (decide_eq_false j0)
    refine sps q0 (wff q0) (fun n0 o0 => ?_)
    refine sps o0 (wff o0) (fun n0 q0 => ?_)
    refine sps q0 (wff q0) (fun n0 o0 => ?_)
    refine sps o0 (wu o0) (fun n0 q0 => ?_)
    refine sps q0 (wu q0) (fun n0 o0 => ?_)
    refine sps o0 (wu o0) (fun n0 q0 => ?_)
    refine sps q0 (wff q0) (fun n0 o0 => ?_)
    refine r_pick_f sv o0 rfl rfl rfl rfl (by decide) (fun n0 q0 => ?_)
    refine wpList_nil ?_
    exact x_then_n ⟨(q0.sub (rc rfl (rc rfl (rc rfl (rc rfl (rc rfl (rc rfl (rc rfl (rc (rb rfl (by (simp only [decide_eq_false j0, if_neg j0, bl]; done))) (rc rfl rnl)))))))))), b0⟩
  rintro q0 j0 ⟨n0, o0⟩
  refine wpList_nil (x_then_n (f0 _ _ ?_))
  rcases Bool.eq_false_or_eq_true (((decide (0 ≤ (((nth t (t.length - 1)).N) - u))) && ((decide ((k) < 0)) || (decide ((((nth t (t.length - 1)).N) - u) = (k)))))) with f0 | f0
  ·
   have j0 := and_tl f0
   have q0 := of_decide_eq_true j0
   have q0 := and_tr f0
   have j0 := q0
   try simp only [Bool.or_eq_true, Bool.and_eq_true, Bool.not_eq_true', Bool.not_eq_false', decide_eq_true_eq, decide_eq_false_iff_not, Bool.or_eq_false_iff, Bool.and_eq_false_iff] at j0
   have j0 := n0.setb (d := 37) (b := true) rfl f0
   refine wp_cond_true (j0.ev rfl) ?_
   refine wsc (fun q0 p0 => ?_)
   refine mv j0 (fun q0 t0 => ?_)
   refine asg t0 (fun q0 j0 => ?_)
   refine asg j0 (fun q0 t0 => ?_)
   refine wpList_nil (x_then_n (p0 _ _ ?_))
   refine wp_ret ?_
   refine x_then_r ?_
   refine x_then_r ?_
   refine e_ret2 t0 rfl rfl rfl rfl ?_
   refine ⟨?_, o0.fr⟩
   exact ret_t2 (ret_i (by (rw [(us_var hb (by omega)).1]; split <;> omega))) (ret_i (by (rw [(us_var hb (by omega)).2]; split <;> omega)))
  ·
   have t0 := f0
   try simp only [Bool.or_eq_true, Bool.and_eq_true, Bool.not_eq_true', Bool.not_eq_false', decide_eq_true_eq, decide_eq_false_iff_not, Bool.or_eq_false_iff, Bool.and_eq_false_iff] at t0
   have t0 := n0.setb (d := 37) (b := false) rfl f0
   refine wp_cond_false (t0.ev rfl) ?_
   refine wp_skip ?_
   refine x_then_n (c0 _ _ ?_)
   refine wsc (fun c0 f0 => ?_)
   refine asg t0 (fun c0 n0 => ?_)
   refine asg n0 (fun c0 t0 => ?_)
   refine wpList_nil (x_then_n (f0 _ _ ?_))
   refine wp_ret ?_
   refine x_then_r ?_
   refine e_ret2 t0 rfl rfl rfl rfl ?_
   refine ⟨?_, o0.fr⟩
   exact ret_t2 (ret_i (by (rw [(us_var hb (by omega)).1]; split <;> omega))) (ret_i (by (rw [(us_var hb (by omega)).2]; split <;> omega)))
 ·
  have o0 := k0.setb (d := 22) (b := false) rfl (decide_eq_false h0)
  refine wp_cond_false (o0.ev rfl) ?_
  refine wp_skip ?_
  refine x_then_n (d0 _ _ ?_)
  refine wsc (fun d0 h0 => ?_)
  refine m_loadN (i := 0) (vs := [.int .i64 (((nth t (t.length - 1)).K)), .int .i64 (((nth t (t.length - 1)).N)), .int .i64 (((nth t (t.length - 1)).M)), .string ((nth t (t.length - 1)).S)]) sv o0 b0 rfl rfl rfl rfl rfl Tryd.underlying32 rfl sz32 (by decide) (fun d0 k0 => ?_)
  have d0 := b0.nf
  refine k_call (xs := [.tmp 40]) se k0 rfl rfl rfl (by decide) ok56 (rbinds_calls _ _ d0.il (nth t (t.length - 1)) (hs := (hsm _ (by omega)))) ?_
  rintro k0 b0 ⟨o0, t0, rfl, f0, c0⟩
  have b0 := d0.below f0.below
  have f0 := d0.dN b0 c0
  refine ⟨_, rfl, fun b0 c0 => ?_⟩
  refine mv c0 (fun b0 d0 => ?_)
  refine r_extract sv d0 rfl rfl rfl rfl (by decide) (fun b0 c0 => ?_)
  refine r_extract sv c0 rfl rfl rfl rfl (by decide) (fun b0 d0 => ?_)
  refine asg d0 (fun b0 c0 => ?_)
  refine asg c0 (fun b0 d0 => ?_)
  refine wpList_nil (x_then_n (h0 _ _ ?_))
  refine wsc (fun h0 b0 => ?_)
  refine mv d0 (fun h0 c0 => ?_)
  have h0 := f0.nf
  refine k_call (xs := [.tmp 44]) se c0 rfl rfl rfl (by decide) ok32 (rparts_calls _ _ h0.il _ _ _ (h0.g 0)) ?_
  rintro c0 f0 ⟨d0, k0, n0, rfl, p0, q0, j0, m0⟩
  have f0 := h0.below p0.below
  have p0 := h0.dN f0 q0
  have f0 := h0.dN p0 j0
  refine ⟨_, rfl, fun p0 j0 => ?_⟩
  refine asg j0 (fun p0 h0 => ?_)
  refine wpList_nil (x_then_n (b0 _ _ ?_))
  refine wsc (fun b0 p0 => ?_)
  refine asg h0 (fun b0 j0 => ?_)
  refine wpList_nil (x_then_n (p0 _ _ ?_))
  refine wsc (fun p0 b0 => ?_)
  refine asg j0 (fun p0 h0 => ?_)
  refine wpList_nil (x_then_n (b0 _ _ ?_))
  refine wp_seq_k (fun b0 p0 => ?_)
  refine wsc (fun b0 j0 => ?_)
  refine asg h0 (fun b0 q0 => ?_)
  refine wpList_nil (x_then_n (j0 _ _ ?_))
  refine wp_block ?_
  refine wp_loop_ghost (fun gn ga gw => ∃ j : Nat, (Reg ga 75 [(1000000, .bool false), (1, .int .i64 (k)), (2, .int .i64 (u)), (6, .int .i64 0), (7, .int .i64 0), (10, .slice o0 ((bindL (nth t (t.length - 1))).length) t0), (12, .slice d0 n0.length k0), (15, .int .i64 ((j : Nat) : Int)), (13, .int .i64 ((usP t k u j : Nat) : Int)), (14, .int .i64 ((moP t k u j)))]) ∧ (St w0 Z none_ gw [.box i0 32 [.int .i64 (((nth t (t.length - 1)).K)), .int .i64 (((nth t (t.length - 1)).N)), .int .i64 (((nth t (t.length - 1)).M)), .string ((nth t (t.length - 1)).S)]] [dRow 4 tA t.length tc (encNs t), dRow 1 o0 ((bindL (nth t (t.length - 1))).length) t0 (encIs (bindL (nth t (t.length - 1)))), dRow 1 d0 n0.length k0 (encSs n0), dAll n0]) ∧ (j ≤ n0.length) ∧ (n0.length - j) = gn) _ ⟨0, (q0.sub (rc rfl (rc rfl (rc rfl (rc rfl (rc rfl (rc rfl (rc rfl (rc rfl (rc (ri rfl (by simp [usP, usTs])) (rc (ri rfl (by simp [moP, moTs])) rnl))))))))))), f0, by omega, rfl⟩ ?_
  rintro q0 f0 k0 ⟨j, d0, t0, hj, o0⟩
  have hrl : n0.length = (ptL t).length := by rw [← lsts_len, m0]
  have hp8 := ptL_le hb
  have hbj : 0 ≤ nthI (bindL (nth t (t.length - 1))) j ∧ nthI (bindL (nth t (t.length - 1))) j ≤ 2 := by rw [hbl]; exact binds_nth j
  have hup := usP_le hb k u j
  refine wp_seq_k (fun o0 k0 => ?_)
  refine wsc (fun o0 f0 => ?_)
  refine mv d0 (fun o0 q0 => ?_)
  refine mv q0 (fun o0 d0 => ?_)
  refine r_len sv d0 rfl rfl rfl rfl Tryd.underlying39 (by decide) (fun o0 q0 => ?_)
  refine r_lss sv q0 rfl rfl rfl rfl (by decide) (fun o0 d0 => ?_)
  refine wpList_nil (x_then_n (f0 _ _ ?_))
  rcases Decidable.em (((j : Nat) : Int) < ((n0.length : Nat) : Int)) with f0 | f0
  ·
   obtain ⟨hpe, hpk, hpb, hpl, hps, hp0'⟩ := part_at hb hsm m0 (show j < n0.length by omega)
   obtain ⟨hu1, hu2⟩ := us_step (k := k) (u := u) hb hpk
   have hul := usL_le hpb k (u + nthI (bindL (nth t (t.length - 1))) j)
   have m0 := d0.setb (d := 49) (b := true) rfl (decide_eq_true f0)
   refine wp_cond_true (m0.ev rfl) ?_
   refine wp_skip ?_
   refine x_then_n (k0 _ _ ?_)
   refine wp_seq_k (fun k0 o0 => ?_)
   refine wp_block ?_
   refine wp_seq_k (fun k0 q0 => ?_)
   obtain ⟨k0, j0, b0⟩ := t0.agree
   refine d_reg3 (n := 17) b0 4 pn (pan_then (pan_block (pan_then (pan_then (pan_block (pan_then pan_body)))))) (fun k0 h0 c0 u0 v0 x0 => ?_)
   refine dtM 0 h0 m0 x0 (fun u0 k0 => ?_)
   refine dtM 1 h0 k0 x0 (fun u0 m0 => ?_)
   refine dt 2 rfl h0 m0 (want_n rfl) (fun x hx => m_index (i := j) (j := j * 1) (sy m0) m0 rfl rfl rfl rfl Tryd.underlying39 sz22 (by omega) (by omega) (ss_elem (t := n0) (k := j) (sdat (j0 2 _ rfl) hx.ag).2 (by omega)).some_ rfl (by decide) gt) x0 (fun u0 k0 => ?_)
   refine dt 3 rfl h0 k0 (want_n rfl) (fun x hx => m_loadE (sy k0) k0 rfl rfl rfl 0 (j * 1) (ss_elem (t := n0) (k := j) (sdat (j0 2 _ rfl) hx.ag).2 (by omega)) rfl rfl Tryd.underlying22 rfl (by decide) gt) x0 (fun u0 m0 => ?_)
   have u0 := v0.data (dRow 4 ((nthS n0 j).1) ((nthS n0 j).2.2.length) ((nthS n0 j).2.1) (encNs ((nthS n0 j).2.2))) (all_at (t := n0) (k := j) (v0.get (i := 3) rfl) (by omega))
   refine dtM 4 h0 m0 x0 (fun v0 k0 => ?_)
   refine dtM 5 h0 k0 x0 (fun v0 m0 => ?_)
   refine dtM 6 h0 m0 x0 (fun v0 k0 => ?_)
   refine dtM 7 h0 k0 x0 (fun v0 m0 => ?_)
   refine dt 8 rfl h0 m0 (want_n rfl) (fun x hx => m_index (i := j) (j := j * 1) (sy m0) m0 rfl rfl rfl rfl Tryd.underlying66 sz3 (by omega) (by omega) (ints_elem (t := bindL (nth t (t.length - 1))) (k := j) (sdat (j0 1 _ rfl) hx.ag).2 (by omega)).some_ rfl (by decide) gt) x0 (fun v0 k0 => ?_)
   refine dt 9 rfl h0 k0 (want_n rfl) (fun x hx => m_loadE (sy k0) k0 rfl rfl rfl 0 (j * 1) (ints_elem (t := bindL (nth t (t.length - 1))) (k := j) (sdat (j0 1 _ rfl) hx.ag).2 (by omega)) rfl rfl Tryd.underlying3 rfl (by decide) gt) x0 (fun v0 m0 => ?_)
   refine dt 10 rfl h0 m0 (want_n rfl) (fun x hx => r_add (z := (u + (nthI (bindL (nth t (t.length - 1))) j))) (sy m0) m0 rfl rfl rfl rfl (by decide) (by omega) (by omega) (by omega) gt) x0 (fun v0 k0 => ?_)
   refine d1 11 ?_
   have v0 := u0.nf
   refine k_call (xs := [.tmp 56, .tmp 57, .tmp 63]) (st_op rfl (want_n rfl)) k0 rfl rfl rfl (by decide) ok48 (ih (((nthS n0 j).2.2).length) (by omega) _ (imm Z w0 [.box i0 32 [.int .i64 (((nth t (t.length - 1)).K)), .int .i64 (((nth t (t.length - 1)).N)), .int .i64 (((nth t (t.length - 1)).M)), .string ((nth t (t.length - 1)).S)]] _) (fun _ h => h.1) _ _ ((nthS n0 j).2.2) (k) (u + (nthI (bindL (nth t (t.length - 1))) j)) (v0.g 5) (by omega) (by assumption) (by assumption) (by omega) (by omega) rfl) ?_
   rintro k0 i0 ⟨rfl, u0⟩
   have i0 := v0.below u0.below
   refine ⟨_, rfl, fun u0 v0 => ?_⟩
   have u0 := sWI i0 4 pn
   refine ⟨u0, ?_⟩
   refine dtM 12 h0 v0 u0 (fun k0 m0 => ?_)
   refine dt 13 rfl h0 m0 (want_n rfl) (fun x hx => r_extract (sy m0) m0 rfl rfl rfl rfl (by decide) gt) u0 (fun k0 v0 => ?_)
   refine dt 14 rfl h0 v0 (want_n rfl) (fun x hx => r_extract (sy v0) v0 rfl rfl rfl rfl (by decide) gt) u0 (fun k0 m0 => ?_)
   refine dtA 15 h0 m0 u0 (fun k0 v0 => ?_)
   refine dtA 16 h0 v0 u0 (fun k0 m0 => ?_)
   refine wpAnyH_done (by kernel_rfl) (c0 _ _ ?_) _
   refine x_then_n (q0 _ _ ?_)
   refine wsc (fun q0 c0 => ?_)
   refine mv m0 (fun q0 k0 => ?_)
   refine mv k0 (fun q0 m0 => ?_)
   refine r_add (z := ((usP t k u j + usL ((nthS n0 j).2.2) (k) (u + (nthI (bindL (nth t (t.length - 1))) j)) : Nat) : Int)) sv m0 rfl rfl rfl rfl (by decide) (by omega) (by omega) (by omega) (fun q0 k0 => ?_)
   refine asg k0 (fun q0 m0 => ?_)
   refine wpList_nil (x_then_n (c0 _ _ (c_region ?_)))
   refine mv m0 (fun c0 q0 => ?_)
   refine mv q0 (fun c0 m0 => ?_)
   refine r_max sv m0 rfl rfl rfl rfl rfl (by decide) (fun c0 q0 => ?_)
   refine asg q0 (fun c0 m0 => ?_)
   refine wpList_nil ?_
   refine x_block_n ?_
   refine x_then_n (o0 _ _ ?_)
   refine c_region ?_
   refine mv m0 (fun o0 c0 => ?_)
   refine r_add (z := ((j + 1 : Nat) : Int)) sv c0 rfl rfl rfl rfl (by decide) (by omega) (by omega) (by omega) (fun o0 m0 => ?_)
   refine asg m0 (fun o0 c0 => ?_)
   refine wpList_nil ?_
   have o0 := i0.forget 5
   have i0 := o0.forget 4
   exact ⟨_, by omega, j + 1, (c0.sub (rc rfl (rc rfl (rc rfl (rc rfl (rc rfl (rc rfl (rc rfl (rc rfl (rc (ri rfl (by rw [hu1, hpe, hbl]; try omega)) (rc (ri rfl (by rw [hu2, hpe, hbl])) rnl))))))))))), i0, by omega, rfl⟩
  ·
   have i0 := d0.setb (d := 49) (b := false) rfl (decide_eq_false f0)
   refine wp_cond_false (i0.ev rfl) ?_
   refine wp_exit ?_
   refine x_then_e ?_
   refine x_then_e ?_
   refine x_block_eq ?_
   refine x_then_n (p0 _ _ ?_)
   refine wsc (fun p0 f0 => ?_)
   refine mv i0 (fun p0 d0 => ?_)
   refine mv d0 (fun p0 i0 => ?_)
   refine asg i0 (fun p0 d0 => ?_)
   refine asg d0 (fun p0 i0 => ?_)
   refine wpList_nil (x_then_n (f0 _ _ ?_))
   refine wp_ret ?_
   refine e_ret2 i0 rfl rfl rfl rfl ?_
   refine ⟨?_, t0.fr⟩
   exact ret_t2 (ret_i (by (rw [(us_root hb (by omega)).1]; congr 2; omega))) (ret_i (by (rw [(us_root hb (by omega)).2]; congr 1; omega)))
theorem rcount_calls (w0 : World) (Z : Nat → Prop) (hZ : ∀ k, Z k → k < w0.heap.size) (tA : Option Addr) (tc : Nat) (t : List Nd) (k : Int) (u : Int) (ht : (dRow 4 tA t.length tc (encNs t)).φ w0 Z) (hl : t.length ≤ 1000000 := by first | assumption | omega | (simp; done) | (simp; omega)) (hsm : sml t := by first | assumption | omega | (simp; done) | (simp; omega)) (hb : measB t = true := by first | assumption | omega | (simp; done) | (simp; omega)) (hu0 : 0 ≤ u := by first | assumption | omega | (simp; done) | (simp; omega)) (hub : u + 2 * t.length ≤ 10000000 := by first | assumption | omega | (simp; done) | (simp; omega)) :
    Calls Tryd.prog 48 [.slice tA t.length tc, .int .i64 k, .int .i64 u].toArray w0 (fun e w' => e = .returned (.tuple #[.int .i64 ((usL t k u : Nat) : Int), .int .i64 (moL t k u)]) ∧ Fr none_ w0 w') := rcount_calls_rec _ w0 Z hZ tA tc t k u ht hl hsm hb hu0 hub rfl
end Go.Proofs.YtobgdeffhdefeaaDoor
/- What a pair is cast to. -/
namespace Go.Proofs.YtobgdeffhdefeaaDoor
set_option linter.unusedSimpArgs false
set_option linter.unusedVariables false
def dpP (t : List Nd) (j : Nat) : Nat := T.deeps ((treeOf t).args.take j)
theorem deeps_snoc (l : List T) (x : T) : T.deeps (l ++ [x]) = max (T.deeps l) x.deep := by
 induction l with
 | nil => simp [T.deeps]
 | cons y l ih => simp only [List.cons_append, T.deeps, ih]; omega
theorem dpP_zero (t : List Nd) : dpP t 0 = 0 := by simp [dpP, T.deeps]
theorem dpP_step {t : List Nd} {j : Nat} (h : measB t = true) (hj : j < (ptL t).length) : dpP t (j + 1) = max (dpP t j) (dpL (nthL (ptL t) j)) := by
 obtain ⟨hj', e1, e2⟩ := ptL_nth h hj
 unfold dpP dpL
 rw [List.take_add_one, List.getElem?_eq_getElem hj', e2]
 exact deeps_snoc _ _
theorem dpL_all {t : List Nd} (h : measB t = true) : dpL t = dpP t (ptL t).length + 1 := by
 have h1 := ptL_length h
 have h2 := root_many h
 unfold dpL dpP
 rw [List.take_of_length_le (by omega)]
 cases treeOf t with
 | mk n l => rfl
theorem dpL_le {t : List Nd} (h : measB t = true) : dpL t ≤ t.length := by
 have := deep_flat (treeOf t)
 rw [(treeOf_meas h).2] at this
 exact this
theorem dpP_le {t : List Nd} (h : measB t = true) (j : Nat) : dpP t j ≤ t.length := by
 have h1 : T.deeps ((treeOf t).args.take j) ≤ T.deeps (treeOf t).args := deeps_bd fun x hx => deeps_le (List.mem_of_mem_take hx)
 have h2 := dpL_le h
 unfold dpL at h2
 unfold dpP
 cases hx : treeOf t with
 | mk n l =>
  rw [hx] at h1 h2
  simp only [T.deep] at h2
  simp only [T.args] at h1 ⊢
  omega
mutual
theorem moT_le (k : Int) : ∀ (x : T) (u : Int), x.wf = true → 0 ≤ u → moT k u x ≤ 99
 | .mk n l, u, hw, hu => by
  obtain ⟨h1, _, h3⟩ := wf_parts hw
  simp only [moT]
  split
  ·
   rename_i hk
   obtain ⟨_, _, h5⟩ := var_node h1 hk
   split <;> omega
  · exact moTs_le k l _ h3 (ubinds hu)
theorem moTs_le (k : Int) : ∀ (l : List T) (us : List Int), T.wfs l = true → (∀ v ∈ us, 0 ≤ v) → moTs k l us ≤ 99
 | [], us, _, _ => by simp [moTs]
 | y :: l, [], _, _ => by simp [moTs]
 | y :: l, u :: us, hw, hu => by
  obtain ⟨h1, h2⟩ := wf_cons hw
  simp only [moTs]
  have := moT_le k y u h1 (hu u (by simp))
  have := moTs_le k l us h2 (fun v hv => hu v (by simp [hv]))
  omega
end
theorem moL_bd {t : List Nd} (h : measB t = true) (k : Int) : -1 ≤ moL t k 0 ∧ moL t k 0 ≤ 99 := ⟨moT_ge _ _ _, moT_le _ _ _ (treeOf_meas h).1 (Int.le_refl _)⟩
def frF (t : List Nd) : Int := if chk t = 0 then moL t (-1) 0 + 1 else 0
def PQ (x : List Nd) : Prop := heavyB 100 x = false ∧ chk x = 0 ∧ dpL x ≤ 25
def sgX (m : Nat) (a b : List Nd) : List Nd := [a, b].flatten ++ [⟨6, (m : Int), 0, ⟨#[]⟩⟩]
theorem sg_right {m : Nat} (hm : m < 3) : right ⟨6, (m : Int), 0, ⟨#[]⟩⟩ = true ∧ many ⟨6, (m : Int), 0, ⟨#[]⟩⟩ = 2 := by
 rw [right_pi (.inr rfl)]
 exact ⟨decide_eq_true ⟨by simp, by show (m : Int) ≤ 3; omega, rfl, rfl⟩, many_6 rfl⟩
theorem sg_ok {m : Nat} {a b : List Nd} (hm : m < 3) (ha : PQ a) (hb : PQ b) : chk (sgX m a b) = 0 ∧ sml (sgX m a b) ∧ (sgX m a b).length ≤ 201 ∧ nth (sgX m a b) ((sgX m a b).length - 1) = ⟨6, (m : Int), 0, ⟨#[]⟩⟩ ∧ ptL (sgX m a b) = [a, b] := by
 obtain ⟨hla, hsa⟩ := heavy_false ha.1
 obtain ⟨hlb, hsb⟩ := heavy_false hb.1
 obtain ⟨hr, hn⟩ := sg_right hm
 have hp := all2 (Q := fun x => measB x = true) (meas_chk ha.2.1) (meas_chk hb.2.1)
 obtain ⟨h1, _, h3, h4⟩ := built (p := [a, b]) hr hn hp
 have h5 : dpL (sgX m a b) ≤ 26 := built_deep (p := [a, b]) hr hn hp (all2 (Q := fun x => dpL x ≤ 25) ha.2.2 hb.2.2)
 have hl : (sgX m a b).length ≤ 201 := by
  unfold sgX
  simp
  omega
 have hl' : ([a, b].flatten ++ [(⟨6, (m : Int), 0, ⟨#[]⟩⟩ : Nd)]).length ≤ 201 := hl
 refine ⟨chk_of h1 (by omega) (by omega), ?_, hl, h4, h3⟩
 exact noL_sml (e := 0) (n := ⟨6, (m : Int), 0, ⟨#[]⟩⟩) (p := [a, b]) (show (⟨#[]⟩ : ByteArray).size < 1000000 by decide) (all2 (Q := sml) hsa hsb)
theorem cp_no {m : Nat} {a b c d t : List Nd} (hm : m < 3) (ha : PQ a) (hb : PQ b) (hc : PQ c) (hd : PQ d) : ¬ chNo (sgX m a b) (sgX m c d) t := by
 obtain ⟨_, _, _, r1, _⟩ := sg_ok hm ha hb
 obtain ⟨_, _, _, r2, _⟩ := sg_ok hm hc hd
 unfold chNo
 rw [r1, r2]
 rintro (h | ⟨h, _⟩ | ⟨_, h⟩ | h)
 · exact h rfl
 · exact absurd (show (6 : Int) = 3 from h) (by decide)
 ·
  have h' : (m : Int) = 3 := h
  omega
 · exact h (.inr (.inr (.inr (.inr (.inl rfl)))))
section
variable {m : Nat} {a b c d t : List Nd} (hm : m < 3) (ha : PQ a) (hb : PQ b) (hc : PQ c) (hd : PQ d) (ht : PQ t) (h29 : ¬ (nth t (t.length - 1)).K = 29)
include hm ha hb hc hd ht h29
theorem cp_great : GE (crE (sgX m a b) (sgX m c d) t) := ch_great (sg_ok hm ha hb).1 (sg_ok hm hc hd).1 ht.2.1 h29 (cp_no hm ha hb hc hd)
theorem cp_rule : crQ (sgX m a b) (sgX m c d) t = some (sgL 0 [a, b] [c, d] (sgX m c d) t m, sgE 0 [a, b] [c, d] t m) := by
 have _ := ht
 obtain ⟨k1, _, _, r1, p1⟩ := sg_ok hm ha hb
 obtain ⟨k2, _, _, r2, p2⟩ := sg_ok hm hc hd
 have h := crQ_sig (a := sgX m a b) (b := sgX m c d) (t := t) h29 (by rw [r1, r2]) (by rw [r1]) (by rw [r1]; show (m : Int) < 3; omega)
 rw [r1, agA_ok k1, agA_ok k2, p1, p2] at h
 exact h
theorem cp_ok (h0 : crE (sgX m a b) (sgX m c d) t = 0) : chk (crA (sgX m a b) (sgX m c d) t) = 0 ∧ sml (crA (sgX m a b) (sgX m c d) t) ∧ (nth (crA (sgX m a b) (sgX m c d) t) ((crA (sgX m a b) (sgX m c d) t).length - 1)).K = 7 ∧
  ∃ z, ptL (crA (sgX m a b) (sgX m c d) t) = [sgX m c d, sgC 0 [a, b] [c, d] t m, z] ∧ ((nth z (z.length - 1)).K = 29 ↔ m = 1) := by
 obtain ⟨k1, s1, l1, r1, p1⟩ := sg_ok hm ha hb
 obtain ⟨k2, s2, l2, r2, p2⟩ := sg_ok hm hc hd
 obtain ⟨hlt, hst⟩ := heavy_false ht.1
 have hq := cp_rule hm ha hb hc hd ht h29
 obtain ⟨x, q1, q2, q3⟩ := cr_inv k1 k2 ht.2.1 h0
 rw [hq] at q1
 injection q1 with q1
 injection q1 with q1 q4
 have hf := sg_facts k1 k2 ht.2.1 (m := (m : Int)) (by rw [r1]) (by rw [r2])
 rw [agA_ok k1, agA_ok k2, p1, p2] at hf
 obtain ⟨f1, f2, f3, f4⟩ := hf.2 q4
 refine ⟨crA_chk h0, (crA_sz s1 s2 hst (by omega) (by omega) (by omega)).1, by rw [q3, ← q1, f3], _, by rw [q3, ← q1]; exact f2, ?_⟩
 have hb1 : bandI (m : Int) 1 = 0 ↔ ¬ m = 1 := by
  have : m = 0 ∨ m = 1 ∨ m = 2 := by omega
  rcases this with rfl | rfl | rfl <;> decide
 by_cases h1 : m = 1
 ·
  rw [if_neg (by rw [hb1]; omega)]
  exact ⟨fun _ => h1, fun _ => rfl⟩
 ·
  rw [if_pos (hb1.2 h1), f4 (hb1.2 h1)]
  constructor
  · intro q; simp at q
  · intro q; exact absurd q h1
theorem cp_c : measB (sgC 0 [a, b] [c, d] t m) = true ∧ ((nth (sgC 0 [a, b] [c, d] t m) ((sgC 0 [a, b] [c, d] t m).length - 1)).K = 29 ↔ m = 2) ∧
  (¬ m = 2 → ∃ f, ptL (sgC 0 [a, b] [c, d] t m) = [a, c, [⟨29, 0, 0, ⟨#[]⟩⟩], f] ∧ measB f = true ∧ (nth f (f.length - 1)).K = 8 ∧ ptL f = [t]) := by
 have _ := hb
 have _ := hd
 have _ := h29
 have hb2 : 0 < bandI (m : Int) 2 ↔ m = 2 := by
  have : m = 0 ∨ m = 1 ∨ m = 2 := by omega
  rcases this with rfl | rfl | rfl <;> decide
 by_cases h2 : m = 2
 ·
  have e : sgC 0 [a, b] [c, d] t m = [⟨29, 0, 0, ⟨#[]⟩⟩] := if_pos (hb2.2 h2)
  rw [e]
  exact ⟨meas_tick, ⟨fun _ => h2, fun _ => rfl⟩, fun q => absurd h2 q⟩
 ·
  have eF : sgF 0 t m = noL 0 ⟨8, 0, 0, ⟨#[]⟩⟩ [t] := if_neg (by rw [hb2]; exact h2)
  have e : sgC 0 [a, b] [c, d] t m = caL 0 a c (noL 0 ⟨8, 0, 0, ⟨#[]⟩⟩ [t]) := by
   have : sgC 0 [a, b] [c, d] t m = caL 0 a c (sgF 0 t m) := if_neg (by rw [hb2]; exact h2)
   rw [this, eF]
  obtain ⟨f1, f2, f3⟩ := noL_ok (n := ⟨8, 0, 0, ⟨#[]⟩⟩) (right_lit (k := 8) (by decide)).1 (right_lit (k := 8) (by decide)).2 (all1 (Q := fun x => measB x = true) (meas_chk ht.2.1))
  obtain ⟨c1, c2, c3⟩ := caL_ok (meas_chk ha.2.1) (meas_chk hc.2.1) f1
  rw [e]
  refine ⟨c1, ?_, fun _ => ⟨_, c2, f1, by rw [f3], f2⟩⟩
  rw [c3]
  constructor
  · intro q; simp at q
  · intro q; exact absurd q h2
theorem cp_parts (h0 : crE (sgX m a b) (sgX m c d) t = 0) {Ls : List Sl} (hL : lsts Ls = ptL (crA (sgX m a b) (sgX m c d) t)) :
  Ls.length = 3 ∧ (nthS Ls 0).2.2 = sgX m c d ∧ (nthS Ls 1).2.2 = sgC 0 [a, b] [c, d] t m ∧ ((nth (nthS Ls 1).2.2 ((nthS Ls 1).2.2.length - 1)).K = 29 ↔ m = 2) ∧ ((nth (nthS Ls 2).2.2 ((nthS Ls 2).2.2.length - 1)).K = 29 ↔ m = 1) ∧
  ((nthS Ls 0).2.2.length ≤ 4000 ∧ (nthS Ls 1).2.2.length ≤ 4000 ∧ (nthS Ls 2).2.2.length ≤ 4000 ∧ 0 < (nthS Ls 1).2.2.length ∧ 0 < (nthS Ls 2).2.2.length) ∧ measB (nthS Ls 1).2.2 = true ∧ sml (nthS Ls 1).2.2 := by
 obtain ⟨k0, s0, _, z, hp, hz⟩ := cp_ok hm ha hb hc hd ht h29 h0
 have hb0 := meas_chk k0
 have hlen : Ls.length = 3 := by rw [← lsts_len, hL, hp]; rfl
 have hl4 := chk_le k0
 obtain ⟨_, _, _, l0, _, _⟩ := part_at hb0 s0 hL (show 0 < Ls.length by omega)
 obtain ⟨_, _, m1, l1, t1, n1⟩ := part_at hb0 s0 hL (show 1 < Ls.length by omega)
 obtain ⟨_, _, m2, l2, _, n2⟩ := part_at hb0 s0 hL (show 2 < Ls.length by omega)
 have e0 : (nthS Ls 0).2.2 = sgX m c d := by rw [lsts_nth, hL, hp]; rfl
 have e1 : (nthS Ls 1).2.2 = sgC 0 [a, b] [c, d] t m := by rw [lsts_nth, hL, hp]; rfl
 have e2 : (nthS Ls 2).2.2 = z := by rw [lsts_nth, hL, hp]; rfl
 have hpos1 := meas_pos m1
 have hpos2 := meas_pos m2
 refine ⟨hlen, e0, e1, ?_, ?_, ⟨by omega, by omega, by omega, hpos1, hpos2⟩, m1, t1⟩
 · rw [e1]; exact (cp_c hm ha hb hc hd ht h29).2.1
 · rw [e2]; exact hz
theorem cp_parts2 (h2 : ¬ m = 2) {x : List Nd} (hx : x = sgC 0 [a, b] [c, d] t m) (hs : sml x) (hlx : x.length ≤ 4000) {Ks : List Sl} (hK : lsts Ks = ptL x) :
  Ks.length = 4 ∧ (nthS Ks 0).2.2 = a ∧ (nthS Ks 1).2.2 = c ∧ ((nthS Ks 0).2.2.length ≤ 4000 ∧ (nthS Ks 1).2.2.length ≤ 4000 ∧ (nthS Ks 3).2.2.length ≤ 4000 ∧ 0 < (nthS Ks 3).2.2.length) ∧ measB (nthS Ks 3).2.2 = true ∧ sml (nthS Ks 3).2.2 ∧
  (nth (nthS Ks 3).2.2 ((nthS Ks 3).2.2.length - 1)).K = 8 ∧ ptL (nthS Ks 3).2.2 = [t] := by
 obtain ⟨c1, _, c3⟩ := cp_c hm ha hb hc hd ht h29
 obtain ⟨f, p1, p2, p3, p4⟩ := c3 h2
 rw [← hx] at c1 p1
 have hlen : Ks.length = 4 := by rw [← lsts_len, hK, p1]; rfl
 obtain ⟨_, _, _, l0, _, _⟩ := part_at c1 hs hK (show 0 < Ks.length by omega)
 obtain ⟨_, _, _, l1, _, _⟩ := part_at c1 hs hK (show 1 < Ks.length by omega)
 obtain ⟨_, _, m3, l3, t3, _⟩ := part_at c1 hs hK (show 3 < Ks.length by omega)
 have e0 : (nthS Ks 0).2.2 = a := by rw [lsts_nth, hK, p1]; rfl
 have e1 : (nthS Ks 1).2.2 = c := by rw [lsts_nth, hK, p1]; rfl
 have e3 : (nthS Ks 3).2.2 = f := by rw [lsts_nth, hK, p1]; rfl
 have := meas_pos m3
 refine ⟨hlen, e0, e1, ⟨by omega, by omega, by omega, this⟩, m3, t3, by rw [e3]; exact p3, by rw [e3]; exact p4⟩
end
theorem cp_parts3 {t x : List Nd} (hp : ptL x = [t]) {Fs : List Sl} (hF : lsts Fs = ptL x) : Fs.length = 1 ∧ (nthS Fs 0).2.2 = t := by
 refine ⟨by rw [← lsts_len, hF, hp]; rfl, by rw [lsts_nth, hF, hp]; rfl⟩
theorem hyp_q {Ls : List Sl} {k : Nat} (h : ∀ i, i < k → PQ (nthS Ls i).2.2) (hk : PQ (nthS Ls k).2.2) : ∀ i, i < k + 1 → PQ (nthS Ls i).2.2 := fun i hi => by
 by_cases e : i = k
 · subst e; exact hk
 · exact h i (by omega)
end Go.Proofs.YtobgdeffhdefeaaDoor
/- Contracts of functions, one theorem each: what the call returns, and that nothing old is changed. Printed by gen.py. -/
namespace Go.Proofs.YtobgdeffhdefeaaDoor
open Go Go.RowKit
set_option linter.unusedSimpArgs false
set_option linter.unusedVariables false
set_option maxRecDepth 100000 in
set_option maxHeartbeats 1000000 in
theorem rdeep_calls_rec (rn : Nat) : ∀ (w0 : World) (Z : Nat → Prop) (hZ : ∀ k, Z k → k < w0.heap.size) (tA : Option Addr) (tc : Nat) (t : List Nd) (ht : (dRow 4 tA t.length tc (encNs t)).φ w0 Z) (hl : t.length ≤ 1000000) (hsm : sml t) (hb : measB t = true) (hrn : t.length = rn),
    Calls Tryd.prog 21 [.slice tA t.length tc].toArray w0 (fun e w' => e = .returned (.int .i64 ((dpL t : Nat) : Int)) ∧ Fr none_ w0 w') := by
 induction rn using Nat.strongRecOn
 rename_i rn ih
 intro w0 Z hZ tA tc t ht hl hsm hb hrn
 have b0 := s0 (M := none_) hZ (zc ht zn)
 have hp0 := meas_pos hb
 have hdp := fun j => dpP_le hb j
 refine c_enter Tryd.func21 rfl Tryd.ntmps21 rfl (fun c0 d0 => ?_)
 refine wsc (fun c0 f0 => ?_)
 refine asg d0 (fun c0 h0 => ?_)
 refine wpList_nil (x_then_n (f0 _ _ ?_))
 refine wsc (fun f0 c0 => ?_)
 refine mv h0 (fun f0 d0 => ?_)
 have f0 := b0.nf
 refine k_call (xs := [.tmp 6]) se d0 rfl rfl rfl (by decide) ok32 (rparts_calls _ _ f0.il _ _ _ (f0.g 0)) ?_
 rintro d0 b0 ⟨h0, i0, j0, rfl, k0, m0, n0, o0⟩
 have b0 := f0.below k0.below
 have k0 := f0.dN b0 m0
 have b0 := f0.dN k0 n0
 refine ⟨_, rfl, fun k0 n0 => ?_⟩
 refine asg n0 (fun k0 f0 => ?_)
 refine wpList_nil (x_then_n (c0 _ _ ?_))
 refine wsc (fun c0 k0 => ?_)
 refine asg f0 (fun c0 n0 => ?_)
 refine wpList_nil (x_then_n (k0 _ _ ?_))
 refine wp_seq_k (fun k0 c0 => ?_)
 refine wsc (fun k0 f0 => ?_)
 refine asg n0 (fun k0 m0 => ?_)
 refine wpList_nil (x_then_n (f0 _ _ ?_))
 refine wp_block ?_
 refine wp_loop_ghost (fun gn ga gw => ∃ j : Nat, (Reg ga 23 [(1000000, .bool false), (2, .int .i64 0), (3, .slice h0 j0.length i0), (5, .int .i64 ((j : Nat) : Int)), (4, .int .i64 ((dpP t j : Nat) : Int))]) ∧ (St w0 Z none_ gw [] [dRow 4 tA t.length tc (encNs t), dRow 1 h0 j0.length i0 (encSs j0), dAll j0]) ∧ (j ≤ j0.length) ∧ (j0.length - j) = gn) _ ⟨0, (m0.sub (rc rfl (rc rfl (rc rfl (rc rfl (rc (ri rfl (by rw [dpP_zero]; rfl)) rnl)))))), b0, by omega, rfl⟩ ?_
 rintro m0 b0 i0 ⟨j, h0, f0, hj, k0⟩
 have hrl : j0.length = (ptL t).length := by rw [← lsts_len, o0]
 have hp8 := ptL_le hb
 have hdj := hdp j
 refine wp_seq_k (fun k0 i0 => ?_)
 refine wsc (fun k0 b0 => ?_)
 refine mv h0 (fun k0 m0 => ?_)
 refine mv m0 (fun k0 h0 => ?_)
 refine r_len sv h0 rfl rfl rfl rfl Tryd.underlying39 (by decide) (fun k0 m0 => ?_)
 refine r_lss sv m0 rfl rfl rfl rfl (by decide) (fun k0 h0 => ?_)
 refine wpList_nil (x_then_n (b0 _ _ ?_))
 rcases Decidable.em (((j : Nat) : Int) < ((j0.length : Nat) : Int)) with b0 | b0
 ·
  obtain ⟨hpe, hpk, hpb, hpl, hps, hp0'⟩ := part_at hb hsm o0 (show j < j0.length by omega)
  have o0 := h0.setb (d := 11) (b := true) rfl (decide_eq_true b0)
  refine wp_cond_true (o0.ev rfl) ?_
  refine wp_skip ?_
  refine x_then_n (i0 _ _ ?_)
  refine wp_seq_k (fun i0 k0 => ?_)
  refine wp_block ?_
  refine c_region ?_
  refine mv o0 (fun i0 m0 => ?_)
  refine mv m0 (fun i0 o0 => ?_)
  refine mv o0 (fun i0 m0 => ?_)
  refine m_index (i := j) (j := j * 1) sv m0 rfl rfl rfl rfl Tryd.underlying39 sz22 (by omega) (by omega) (ss_elem (t := j0) (k := j) (f0.row (i := 1) rfl).2 (by omega)).some_ rfl (by decide) (fun i0 o0 => ?_)
  refine m_loadE sv o0 rfl rfl rfl 0 (j * 1) (ss_elem (t := j0) (k := j) (f0.row (i := 1) rfl).2 (by omega)) rfl rfl Tryd.underlying22 rfl (by decide) (fun i0 m0 => ?_)
  have i0 := f0.data (dRow 4 ((nthS j0 j).1) ((nthS j0 j).2.2.length) ((nthS j0 j).2.1) (encNs ((nthS j0 j).2.2))) (all_at (t := j0) (k := j) (f0.get (i := 2) rfl) (by omega))
  have o0 := i0.nf
  refine k_call (xs := [.tmp 18]) se m0 rfl rfl rfl (by decide) ok21 (ih (((nthS j0 j).2.2).length) (by omega) _ (imm Z w0 [] _) (fun _ h => h.1) _ _ ((nthS j0 j).2.2) (o0.g 3) (by omega) (by assumption) (by assumption) rfl) ?_
  rintro m0 j0 ⟨rfl, i0⟩
  have j0 := o0.below i0.below
  refine ⟨_, rfl, fun i0 o0 => ?_⟩
  refine r_max sv o0 rfl rfl rfl rfl rfl (by decide) (fun i0 m0 => ?_)
  refine asg m0 (fun i0 o0 => ?_)
  refine wpList_nil ?_
  refine x_block_n ?_
  refine x_then_n (k0 _ _ ?_)
  refine c_region ?_
  refine mv o0 (fun k0 i0 => ?_)
  refine r_add (z := ((j + 1 : Nat) : Int)) sv i0 rfl rfl rfl rfl (by decide) (by omega) (by omega) (by omega) (fun k0 o0 => ?_)
  refine asg o0 (fun k0 i0 => ?_)
  refine wpList_nil ?_
  have k0 := j0.forget 3
  exact ⟨_, by omega, j + 1, (i0.sub (rc rfl (rc rfl (rc rfl (rc rfl (rc (ri rfl (by rw [dpP_step hb hpk, hpe]; try omega)) rnl)))))), k0, by omega, rfl⟩
 ·
  have k0 := h0.setb (d := 11) (b := false) rfl (decide_eq_false b0)
  refine wp_cond_false (k0.ev rfl) ?_
  refine wp_exit ?_
  refine x_then_e ?_
  refine x_then_e ?_
  refine x_block_eq ?_
  refine x_then_n (c0 _ _ ?_)
  refine wsc (fun c0 b0 => ?_)
  refine mv k0 (fun c0 h0 => ?_)
  refine r_add (z := ((dpP t j + 1 : Nat) : Int)) sv h0 rfl rfl rfl rfl (by decide) (by omega) (by omega) (by omega) (fun c0 k0 => ?_)
  refine asg k0 (fun c0 h0 => ?_)
  refine wpList_nil (x_then_n (b0 _ _ ?_))
  refine wp_ret ?_
  refine e_ret1 h0 rfl rfl rfl ?_
  refine ⟨?_, f0.fr⟩
  exact congrArg Ending.returned (ret_i (by (rw [dpL_all hb, show (ptL t).length = j by omega]; try omega)))
theorem rdeep_calls (w0 : World) (Z : Nat → Prop) (hZ : ∀ k, Z k → k < w0.heap.size) (tA : Option Addr) (tc : Nat) (t : List Nd) (ht : (dRow 4 tA t.length tc (encNs t)).φ w0 Z) (hl : t.length ≤ 1000000 := by first | assumption | omega | (simp; done) | (simp; omega)) (hsm : sml t := by first | assumption | omega | (simp; done) | (simp; omega)) (hb : measB t = true := by first | assumption | omega | (simp; done) | (simp; omega)) :
    Calls Tryd.prog 21 [.slice tA t.length tc].toArray w0 (fun e w' => e = .returned (.int .i64 ((dpL t : Nat) : Int)) ∧ Fr none_ w0 w') := rdeep_calls_rec _ w0 Z hZ tA tc t ht hl hsm hb rfl
set_option maxRecDepth 100000 in
set_option maxHeartbeats 1000000 in
theorem rfree_calls (w0 : World) (Z : Nat → Prop) (hZ : ∀ k, Z k → k < w0.heap.size) (tA : Option Addr) (tc : Nat) (t : List Nd) (ht : (dRow 4 tA t.length tc (encNs t)).φ w0 Z) (hl : t.length ≤ 1000000 := by first | assumption | omega | (simp; done) | (simp; omega)) (hsm : sml t := by first | assumption | omega | (simp; done) | (simp; omega)) :
    Calls Tryd.prog 22 [.slice tA t.length tc].toArray w0 (fun e w' => e = .returned (.tuple #[.int .i64 (frF t), .int .i64 (chk t)]) ∧ Fr none_ w0 w') := by
 have b0 := s0 (M := none_) hZ (zc ht zn)
 refine c_enter Tryd.func22 rfl Tryd.ntmps22 rfl (fun c0 d0 => ?_)
 refine wsc (fun c0 f0 => ?_)
 refine asg d0 (fun c0 h0 => ?_)
 refine asg h0 (fun c0 d0 => ?_)
 refine wpList_nil (x_then_n (f0 _ _ ?_))
 refine wsc (fun f0 c0 => ?_)
 refine mv d0 (fun f0 h0 => ?_)
 have f0 := b0.nf
 refine k_call (xs := [.tmp 7]) se h0 rfl rfl rfl (by decide) ok19 (rcheck_calls _ _ f0.il _ _ _ (f0.g 0)) ?_
 rintro h0 b0 ⟨rfl, d0⟩
 have b0 := f0.below d0.below
 refine ⟨_, rfl, fun d0 f0 => ?_⟩
 refine asg f0 (fun d0 h0 => ?_)
 refine wpList_nil (x_then_n (c0 _ _ ?_))
 refine wp_seq_k (fun c0 d0 => ?_)
 refine wsc (fun c0 f0 => ?_)
 refine mv h0 (fun c0 i0 => ?_)
 refine r_neq sv i0 rfl rfl rfl rfl (by decide) (fun c0 h0 => ?_)
 refine wpList_nil (x_then_n (f0 _ _ ?_))
 rcases Decidable.em (((chk t)) = 0) with f0 | f0
 ·
  have hmo := moL_bd (meas_chk f0) (-1)
  have c0 := h0.setb (d := 10) (b := false) rfl (by rw [(decide_eq_true f0)]; rfl)
  refine wp_cond_false (c0.ev rfl) ?_
  refine wp_skip ?_
  refine x_then_n (d0 _ _ ?_)
  refine wsc (fun d0 i0 => ?_)
  refine mv c0 (fun d0 j0 => ?_)
  have d0 := b0.nf
  refine k_call (xs := [.tmp 13, .const (.int .i64 (-1)), .const (.int .i64 0)]) se j0 rfl rfl rfl (by decide) ok48 (rcount_calls _ _ d0.il _ _ _ (-1) 0 (d0.g 0) (hl := hl) (hsm := hsm) (hb := (meas_chk (by omega))) (hu0 := (by omega)) (hub := (by omega))) ?_
  rintro j0 c0 ⟨rfl, k0⟩
  have c0 := d0.below k0.below
  refine ⟨_, rfl, fun k0 d0 => ?_⟩
  refine mv d0 (fun k0 j0 => ?_)
  refine r_extract sv j0 rfl rfl rfl rfl (by decide) (fun k0 d0 => ?_)
  refine r_extract sv d0 rfl rfl rfl rfl (by decide) (fun k0 j0 => ?_)
  refine asg j0 (fun k0 d0 => ?_)
  refine asg d0 (fun k0 j0 => ?_)
  refine wpList_nil (x_then_n (i0 _ _ ?_))
  refine wsc (fun i0 k0 => ?_)
  refine mv j0 (fun i0 d0 => ?_)
  refine r_add (z := ((moL t (-1) 0) + 1)) sv d0 rfl rfl rfl rfl (by decide) (by omega) (by omega) (by omega) (fun i0 j0 => ?_)
  refine asg j0 (fun i0 d0 => ?_)
  refine asg d0 (fun i0 j0 => ?_)
  refine wpList_nil (x_then_n (k0 _ _ ?_))
  refine wp_ret ?_
  refine e_ret2 j0 rfl rfl rfl rfl ?_
  refine ⟨?_, c0.fr⟩
  exact ret_t2 (ret_i (by first | (unfold frF; rw [if_neg (by omega)]; done) | (unfold frF; rw [if_pos (by omega)]))) (ret_i (by omega))
 ·
  have c0 := h0.setb (d := 10) (b := true) rfl (by rw [(decide_eq_false f0)]; rfl)
  refine wp_cond_true (c0.ev rfl) ?_
  refine wsc (fun f0 h0 => ?_)
  refine mv c0 (fun f0 j0 => ?_)
  refine asg j0 (fun f0 c0 => ?_)
  refine asg c0 (fun f0 j0 => ?_)
  refine wpList_nil (x_then_n (h0 _ _ ?_))
  refine wp_ret ?_
  refine x_then_r ?_
  refine e_ret2 j0 rfl rfl rfl rfl ?_
  refine ⟨?_, b0.fr⟩
  exact ret_t2 (ret_i (by first | (unfold frF; rw [if_neg (by omega)]; done) | (unfold frF; rw [if_pos (by omega)]))) (ret_i (by omega))
end Go.Proofs.YtobgdeffhdefeaaDoor
/- From a row's reading to cells, and back: slices of nodes, the table of shapes, arguments that nobody changed. -/
namespace Go.Proofs.YtobgdeffhdefeaaDoor
set_option linter.unusedSimpArgs false
set_option linter.unusedVariables false
open Go Go.RowKit Go.WideShapes Go.ChangeShapes
theorem kids : Kids Tryd.prog (· < Tryd.prog.types.size) := kids_rows (by kernel_rfl) (by kernel_rfl)
theorem slicesFull : ∀ t e, t < Tryd.prog.types.size → Tryd.prog.underlying t = some (.slice e) → 0 < Tryd.prog.cellsOf e := slices_full_of Tryd.prog (by kernel_rfl)
theorem ownKnobNone : ownKnob Tryd.prog.godebug = none := by kernel_rfl
section
variable {H : Type} {enc : TypeId × Value → H} {P : Program} {w W W' : World}
theorem trodAll_carry {base : Nat} {sp : Nat → Bool} {held : Bool} : ∀ {ts : List TypeId} {vs : List Value} {ds : List (DataW H)} {ps : List MemPlace},
  DataW.TrodAll enc P W base sp held ts vs ds ps → (∀ p ∈ ps, W.sameAt W' p) → DataW.TrodAll enc P W' base sp held ts vs ds ps
 | [], [], [], _, h, _ => h
 | _ :: _, _ :: _, _ :: _, _, ⟨p, q, ⟨n, h1⟩, h2, e⟩, hs =>
  ⟨p, q, ⟨n, DataW.trod_carry n _ _ _ h1 (fun x hx => hs x (by rw [e]; exact List.mem_append_left _ hx))⟩,
   trodAll_carry h2 (fun x hx => hs x (by rw [e]; exact List.mem_append_right _ hx)), e⟩
 | [], [], _ :: _, _, h, _ => h.elim
 | [], _ :: _, _, _, h, _ => h.elim
 | _ :: _, [], _, _, h, _ => h.elim
 | _ :: _, _ :: _, [], _, h, _ => h.elim
theorem sameAt_below (hb : Below W.heap.size W W') {p : MemPlace} (hp : p.block < W.heap.size) : W.sameAt W' p := by
 cases p with
 | cell b off => exact hb.cell (p := ⟨b, off, none⟩) hp
 | map b => exact hb.block b hp
theorem post_true {f : Func} {s : ChangeSpec} {apart fresh handsOn again : Bool} {args : Array Value} {ds : List (DataW H)} {before : List MemPlace}
  (K : Kids P (· < P.types.size)) (hz : ∀ t e, t < P.types.size → P.underlying t = some (.slice e) → 0 < P.cellsOf e) (hts : ∀ t ∈ f.params.toList, t < P.types.size)
  (hvars : s.vars = []) (hW : DataW.Whole enc P f.params.toList s.vars apart W args.toList ds [] before)
  {tb : TypeId} (hrt : f.resultTypes = #[tb]) (htb : P.underlying tb = some .bool)
  (hfn : (s.fn H ds).results = [.lit (.bool true)] ∧ (s.fn H ds).args = ds ∧ (s.fn H ds).vars = []) (hb : Below W.heap.size W W') :
  s.post enc P f apart fresh handsOn again W args (.bool true) W' := by
 have hlt : ∀ p ∈ before, p.block < W.heap.size := fun p hp => hW.lt p hp
 have hold : ∀ p ∈ before, (fun b => decide (b < W.heap.size)) p.block = true := fun p hp => by simpa using hlt p hp
 have hW0 := hW
 obtain ⟨p, q, hA, hV, he, hzf, hn⟩ := hW0
 rw [hvars] at hV
 have hq : q = [] := hV
 subst hq
 rw [List.append_nil] at he
 subst he
 have hA' := trodAll_carry (W' := W') hA (fun x hx => sameAt_below hb (hlt x hx))
 have hres : ∀ (b : Nat) (sp : Nat → Bool) (hd : Bool), DataW.TrodAll enc P W' b sp hd f.resultTypes.toList ((Value.bool true).resultList f.resultTypes.size) (s.fn H ds).results [] := fun b sp hd => by
  rw [hfn.1, hrt]
  exact trodAll_mk1 (shut_bool htb true)
 refine ⟨ds, [], before, [], before, [], hW, ?_, ?_, ?_, World.keptBut_mono (fun p hp => ⟨hp, .inr (.inl hp)⟩) (hb.frame (· ∈ before)), fun _ => ⟨?_, ?_⟩⟩
 · rw [List.append_nil]; exact hres _ _ _
 ·
  rw [List.append_nil, hfn.2.1]
  exact DataW.TrodAll.respare K hz hts hA' hold
 ·
  rw [List.append_nil, hfn.2.2, hvars]
  exact rfl
 · exact ok_one hrt rfl (okWide_bool_mk htb true)
 ·
  refine ⟨[.lit (.bool true)] ++ ds, [], [] ++ before, ⟨[] ++ before, [], ?_, ?_, by simp, ?_, ?_⟩, ?_⟩
  ·
   rw [hrt]
   exact trodAll_append hA' (trodAll_mk1 (shut_bool htb true))
  ·
   rw [hvars]
   exact rfl
  ·
   intro b off hp
   have hin : MemPlace.cell b off ∈ before := by simpa using hp
   rw [hb.frozen (hlt _ hin)]
   exact hzf b off hin
  ·
   intro ha
   simpa using hn ha
  ·
   intro x hx _
   simpa using hx
end
section
variable {H : Type} {enc : TypeId × Value → H} {w : World}
theorem lt_of_cell {p : Addr} {v : Value} (h : w.cell? p = some v) : p.block < w.heap.size := by
 unfold World.cell? at h
 cases ho : w.heap[p.block]? with
 | none => simp [ho] at h
 | some o => exact (Array.getElem?_eq_some_iff.1 ho).1
set_option maxRecDepth 100000 in
theorem node_cells {base : Nat} {sp : Nat → Bool} {held : Bool} {n : Nat} {cs : List Value} {x : DataW H × List MemPlace} (h : DataW.trod enc Tryd.prog w base sp held n 32 cs = some x) : ∃ nd : Nd, cs = encN nd := by
 have hu : Tryd.prog.underlying 32 = some (.struct (Tryd.prog.fieldsOf 32)) := by kernel_rfl
 have hf : (Tryd.prog.fieldsOf 32).toList.map (fun f => (f.type, f.offset)) = [(3, 0), (3, 1), (3, 2), (9, 3)] := by kernel_rfl
 have hci : Tryd.prog.cellsOf 3 = 1 := by kernel_rfl
 have hcs : Tryd.prog.cellsOf 9 = 1 := by kernel_rfl
 have hcn : Tryd.prog.cellsOf 32 = 4 := by kernel_rfl
 obtain ⟨xs, m, _, _, hl, _, hg⟩ := DataW.trod_struct hu h
 rw [hcn] at hl
 have fld : ∀ (j : Nat) (t : TypeId) (off : Nat), ((Tryd.prog.fieldsOf 32).toList.map (fun f => (f.type, f.offset)))[j]? = some (t, off) → ∃ y, DataW.trod enc Tryd.prog w base sp held m t ((cs.drop off).take (Tryd.prog.cellsOf t)) = some y := by
  intro j t off hj
  rw [List.getElem?_map] at hj
  cases hfj : (Tryd.prog.fieldsOf 32).toList[j]? with
  | none => rw [hfj] at hj; cases hj
  | some f =>
   rw [hfj] at hj
   simp only [Option.map_some, Option.some.injEq, Prod.mk.injEq] at hj
   obtain ⟨rfl, rfl⟩ := hj
   have h1 := hg j f (by rw [← Array.getElem?_toList]; exact hfj)
   have hjl : j < (Tryd.prog.fieldsOf 32).size := by
    have := (List.getElem?_eq_some_iff.1 hfj).1
    simpa using this
   have hxl : j < xs.length := by omega
   exact ⟨xs[j], by rw [h1]; exact List.getElem?_eq_getElem hxl⟩
 rw [hf] at fld
 match cs, hl with
 | [c0, c1, c2, c3], _ =>
  obtain ⟨y0, h0⟩ := fld 0 _ _ rfl
  obtain ⟨y1, h1⟩ := fld 1 _ _ rfl
  obtain ⟨y2, h2⟩ := fld 2 _ _ rfl
  obtain ⟨y3, h3⟩ := fld 3 _ _ rfl
  rw [hci] at h0 h1 h2
  rw [hcs] at h3
  obtain ⟨a, ha, _⟩ := DataW.trod_int Tryd.underlying3 h0
  obtain ⟨b, hb, _⟩ := DataW.trod_int Tryd.underlying3 h1
  obtain ⟨c, hc, _⟩ := DataW.trod_int Tryd.underlying3 h2
  obtain ⟨s, hs, _⟩ := DataW.trod_string Tryd.underlying9 h3
  simp at ha hb hc hs
  exact ⟨⟨a, b, c, s⟩, by simp [encN, ha, hb, hc, hs]⟩
set_option maxRecDepth 100000 in
theorem open_nodes {r : Reach} {base b0 : Nat} {sp : Nat → Bool} {held : Bool} {v : Value} {d : DataW H} {ps : List MemPlace} (hval : Value.okWide Tryd.prog w r b0 22 v) (hd : DataW.Trod enc Tryd.prog w base sp held 22 v d ps) :
  ∃ (A : Option Addr) (c : Nat) (t : List Nd), v = .slice A t.length c ∧ (dRow 4 A t.length c (encNs t)).φ w (fun k => k < w.heap.size) := by
 obtain ⟨A, len, cap, rfl⟩ := okWide_slice Tryd.underlying22 hval
 obtain ⟨fuel, hf⟩ := hd
 have hcn : Tryd.prog.cellsOf 32 = 4 := by kernel_rfl
 rcases Deep.open_slice Tryd.underlying22 hf with ⟨hcs, _⟩ | ⟨a, len', cap', m, n, D, Pl, hcs, _, hl, _, hm, _, hi⟩
 ·
  simp [Value.cells] at hcs
  obtain ⟨rfl, rfl, rfl⟩ := hcs
  exact ⟨none, 0, [], rfl, Nat.le_refl _, rfl, fun h => absurd h (by simp)⟩
 ·
  simp [Value.cells] at hcs
  obtain ⟨rfl, rfl, rfl⟩ := hcs
  have hmm : len ≤ m := by rw [hm]; split <;> omega
  have hnd : ∀ i, ∃ nd : Nd, i < len → w.cells? base (a.add (i * 4)) 4 = some (encN nd) := by
   intro i
   by_cases hil : i < len
   ·
    obtain ⟨cs', hc, ht⟩ := hi i (by omega)
    obtain ⟨nd, rfl⟩ := node_cells ht
    rw [hcn] at hc
    exact ⟨nd, fun _ => hc⟩
   · exact ⟨ndz, fun h => absurd h hil⟩
  obtain ⟨f, hf'⟩ := Classical.axiomOfChoice hnd
  refine ⟨some a, cap, (List.range len).map f, by simp, ?_, ?_, fun hpos => ⟨a, rfl, ?_, ?_⟩⟩
  · simpa using hl
  · exact encNs_length _
  ·
   have hp0 : 0 < len := by simpa using hpos
   obtain ⟨_, _, hat⟩ := World.cells?_some (hf' 0 hp0)
   have h0 := hat 0 (by omega)
   rw [add_of_add] at h0
   have := lt_of_cell (w := w) (p := a.add (0 * 4 + 0)) (by rw [h0]; rfl)
   rwa [block_of_add] at this
  ·
   intro j u hu
   have hjl : j < len * 4 := by
    have h1 := (List.getElem?_eq_some_iff.1 hu).1
    rw [encNs_length] at h1
    simpa using h1
   have hi4 : j / 4 < len := by omega
   obtain ⟨_, hcl, hat⟩ := World.cells?_some (hf' (j / 4) hi4)
   have h1 := hat (j % 4) (by omega)
   rw [add_of_add, show j / 4 * 4 + j % 4 = j by omega] at h1
   rw [h1, ← hu]
   have h2 := enc_at encN_len ((List.range len).map f) (j / 4) (by simpa using hi4) ndz
   have h3 : (((List.range len).map f).getD (j / 4) ndz) = f (j / 4) := by simp [hi4]
   rw [h3] at h2
   have h4 : (encNs ((List.range len).map f))[j]? = (((((List.range len).map f).flatMap encN).drop (j / 4 * 4)).take 4)[j % 4]? := by
    rw [List.getElem?_take_of_lt (by omega), List.getElem?_drop, show j / 4 * 4 + j % 4 = j by omega]
    rfl
   rw [h4, h2]
end
end Go.Proofs.YtobgdeffhdefeaaDoor
/- An argument that is a byte. -/
namespace Go.Proofs.YtobgdeffhdefeaaDoor
set_option linter.unusedSimpArgs false
set_option linter.unusedVariables false
open Go Go.RowKit Go.WideShapes Go.ChangeShapes
section
variable {P : Program}
theorem okWide_byte {t : TypeId} {w : World} {r : Reach} {b0 : Nat} {v : Value} (ht : P.underlying t = some (.int .u8)) (h : Value.okWide P w r b0 t v) : ∃ b : Nat, v = .int .u8 (b : Int) ∧ b < 256 := by
 have h0 := h
 obtain ⟨n, rfl⟩ := okWide_int ht h
 simp only [Value.okWide, ht, Cell.okWide] at h0
 have h1 : IntKind.u8.has n := by simpa [Cell.ok, ht] using h0
 have h2 : (0 : Int) ≤ n ∧ n ≤ 255 := h1
 exact ⟨n.toNat, by rw [Int.toNat_of_nonneg h2.1], by omega⟩
end
set_option maxRecDepth 100000 in
theorem open_byte {w : World} {r : Reach} {b0 : Nat} {v : Value} (hval : Value.okWide Tryd.prog w r b0 5 v) : ∃ b : Nat, v = .int .u8 (b : Int) ∧ b < 256 := okWide_byte Tryd.underlying5 hval
end Go.Proofs.YtobgdeffhdefeaaDoor
/- Contracts of functions, one theorem each: what the call returns, and that nothing old is changed. Printed by gen.py. -/
namespace Go.Proofs.YtobgdeffhdefeaaDoor
open Go Go.RowKit
set_option linter.unusedSimpArgs false
set_option linter.unusedVariables false
set_option maxRecDepth 100000 in
set_option maxHeartbeats 4000000 in
theorem castrPairs_calls (w0 : World) (Z : Nat → Prop) (hZ : ∀ k, Z k → k < w0.heap.size) (aA : Option Addr) (ac : Nat) (a : List Nd) (bA : Option Addr) (bc : Nat) (b : List Nd) (cA : Option Addr) (cc : Nat) (c : List Nd) (dA : Option Addr) (dc : Nat) (d : List Nd) (tA : Option Addr) (tc : Nat) (t : List Nd) (m : Nat) (hShp : Shapes w0 Z) (ha : (dRow 4 aA a.length ac (encNs a)).φ w0 Z) (hb : (dRow 4 bA b.length bc (encNs b)).φ w0 Z) (hc : (dRow 4 cA c.length cc (encNs c)).φ w0 Z) (hd : (dRow 4 dA d.length dc (encNs d)).φ w0 Z) (ht : (dRow 4 tA t.length tc (encNs t)).φ w0 Z) (hm256 : m < 256 := by first | assumption | omega | (simp; done) | (simp; omega)) :
    Calls Tryd.prog 12 [.slice aA a.length ac, .slice bA b.length bc, .slice cA c.length cc, .slice dA d.length dc, .slice tA t.length tc, .int .u8 ((m : Nat) : Int)].toArray w0 (fun e w' => e = .returned (.bool (true)) ∧ Fr none_ w0 w') := by
 have b0 := s0 (M := none_) hZ (zc (d := dShapes) hShp (zc ha (zc hb (zc hc (zc hd (zc ht zn))))))
 refine c_enter Tryd.func12 rfl Tryd.ntmps12 rfl (fun c0 d0 => ?_)
 refine wsc (fun c0 i0 => ?_)
 refine asg d0 (fun c0 j0 => ?_)
 refine wpList_nil (x_then_n (i0 _ _ ?_))
 refine wsc (fun i0 c0 => ?_)
 refine mv j0 (fun i0 d0 => ?_)
 refine mv d0 (fun i0 j0 => ?_)
 refine mv j0 (fun i0 d0 => ?_)
 refine mv d0 (fun i0 j0 => ?_)
 refine mv j0 (fun i0 d0 => ?_)
 have i0 := b0.data (dAll [((aA, ac, a) : Sl), ((bA, bc, b) : Sl), ((cA, cc, c) : Sl), ((dA, dc, d) : Sl), ((tA, tc, t) : Sl)]) (all_cons (b0.get (i := 1) rfl) (all_cons (b0.get (i := 2) rfl) (all_cons (b0.get (i := 3) rfl) (all_cons (b0.get (i := 4) rfl) (all_cons (b0.get (i := 5) rfl) all_nil)))))
 refine mbs [(0, .tmp 24), (1, .tmp 25), (2, .tmp 26), (3, .tmp 27), (4, .tmp 28)] [.slice aA a.length ac, .slice bA b.length bc, .slice cA c.length cc, .slice dA d.length dc, .slice tA t.length tc] sv d0 i0 Tryd.underlying39 zi22 (fun b0 j0 k0 m0 n0 => ?_)
 refine asg m0 (fun j0 b0 => ?_)
 refine wpList_nil (x_then_n (c0 _ _ ?_))
 refine wp_seq_k (fun c0 j0 => ?_)
 refine wsc (fun c0 m0 => ?_)
 refine asg b0 (fun c0 i0 => ?_)
 refine wpList_nil (x_then_n (m0 _ _ ?_))
 refine wp_block ?_
 refine wp_loop_ghost (fun gn ga gw => ∃ k : Nat, (Reg ga 187 [(1000000, .bool false), (0, .slice aA a.length ac), (1, .slice bA b.length bc), (2, .slice cA c.length cc), (3, .slice dA d.length dc), (4, .slice tA t.length tc), (5, .int .u8 ((m : Nat) : Int)), (13, .slice (some ⟨k0, 0, none⟩) 5 5), (14, .int .i64 ((k : Nat) : Int))]) ∧ (St w0 Z none_ gw [.row (some ⟨k0, 0, none⟩) 5 5 22 1 (encSs ([((aA, ac, a) : Sl), ((bA, bc, b) : Sl), ((cA, cc, c) : Sl), ((dA, dc, d) : Sl), ((tA, tc, t) : Sl)]))] [dShapes, dRow 4 aA a.length ac (encNs a), dRow 4 bA b.length bc (encNs b), dRow 4 cA c.length cc (encNs c), dRow 4 dA d.length dc (encNs d), dRow 4 tA t.length tc (encNs t), dAll [((aA, ac, a) : Sl), ((bA, bc, b) : Sl), ((cA, cc, c) : Sl), ((dA, dc, d) : Sl), ((tA, tc, t) : Sl)]]) ∧ (k ≤ 5) ∧ (∀ i, i < k → PQ (nthS [((aA, ac, a) : Sl), ((bA, bc, b) : Sl), ((cA, cc, c) : Sl), ((dA, dc, d) : Sl), ((tA, tc, t) : Sl)] i).2.2) ∧ (5 - k) = gn) _ ⟨0, (i0.sub (rc rfl (rc rfl (rc rfl (rc rfl (rc rfl (rc rfl (rc rfl (rc rfl (rc rfl rnl)))))))))), n0, by omega, (fun _ h => by omega), rfl⟩ ?_
 rintro i0 n0 m0 ⟨k, c0, b0, hk, hq, d0⟩
 refine wp_seq_k (fun d0 m0 => ?_)
 refine wsc (fun d0 n0 => ?_)
 refine mv c0 (fun d0 i0 => ?_)
 refine mv i0 (fun d0 c0 => ?_)
 refine r_len sv c0 rfl rfl rfl rfl Tryd.underlying39 (by decide) (fun d0 i0 => ?_)
 refine r_lss sv i0 rfl rfl rfl rfl (by decide) (fun d0 c0 => ?_)
 refine wpList_nil (x_then_n (n0 _ _ ?_))
 rcases Decidable.em (((k : Nat) : Int) < 5) with n0 | n0
 ·
  have d0 := c0.setb (d := 33) (b := true) rfl (decide_eq_true n0)
  refine wp_cond_true (d0.ev rfl) ?_
  refine wp_skip ?_
  refine x_then_n (m0 _ _ ?_)
  refine wp_seq_k (fun m0 i0 => ?_)
  refine wp_block ?_
  refine wp_seq_k (fun m0 o0 => ?_)
  refine wsc (fun m0 p0 => ?_)
  refine mv d0 (fun m0 q0 => ?_)
  refine mv q0 (fun m0 d0 => ?_)
  refine m_index (i := k) (j := k * 1) sv d0 rfl rfl rfl rfl Tryd.underlying39 sz22 (by omega) (by omega) (own_ss (t := [((aA, ac, a) : Sl), ((bA, bc, b) : Sl), ((cA, cc, c) : Sl), ((dA, dc, d) : Sl), ((tA, tc, t) : Sl)]) (k := k) (b0.res (i := 0) rfl) (by (simp; omega))).some_ rfl (by decide) (fun m0 q0 => ?_)
  refine m_loadE sv q0 rfl rfl rfl 0 (k * 1) (own_ss (t := [((aA, ac, a) : Sl), ((bA, bc, b) : Sl), ((cA, cc, c) : Sl), ((dA, dc, d) : Sl), ((tA, tc, t) : Sl)]) (k := k) (b0.res (i := 0) rfl) (by (simp; omega))) rfl rfl Tryd.underlying22 rfl (by decide) (fun m0 d0 => ?_)
  have m0 := b0.data (dRow 4 ((nthS ([((aA, ac, a) : Sl), ((bA, bc, b) : Sl), ((cA, cc, c) : Sl), ((dA, dc, d) : Sl), ((tA, tc, t) : Sl)]) k).1) ((nthS ([((aA, ac, a) : Sl), ((bA, bc, b) : Sl), ((cA, cc, c) : Sl), ((dA, dc, d) : Sl), ((tA, tc, t) : Sl)]) k).2.2.length) ((nthS ([((aA, ac, a) : Sl), ((bA, bc, b) : Sl), ((cA, cc, c) : Sl), ((dA, dc, d) : Sl), ((tA, tc, t) : Sl)]) k).2.1) (encNs ((nthS ([((aA, ac, a) : Sl), ((bA, bc, b) : Sl), ((cA, cc, c) : Sl), ((dA, dc, d) : Sl), ((tA, tc, t) : Sl)]) k).2.2))) (all_at (t := [((aA, ac, a) : Sl), ((bA, bc, b) : Sl), ((cA, cc, c) : Sl), ((dA, dc, d) : Sl), ((tA, tc, t) : Sl)]) (k := k) (b0.get (i := 6) rfl) (by (simp; omega)))
  have q0 := m0.nf
  refine k_call (xs := [.tmp 39]) se d0 rfl rfl rfl (by decide) ok34 (heavy13_calls _ _ q0.il _ _ ((nthS ([((aA, ac, a) : Sl), ((bA, bc, b) : Sl), ((cA, cc, c) : Sl), ((dA, dc, d) : Sl), ((tA, tc, t) : Sl)]) k).2.2) (q0.g 7)) ?_
  rintro d0 m0 ⟨rfl, t0⟩
  have m0 := q0.below t0.below
  refine ⟨_, rfl, fun t0 q0 => ?_⟩
  refine mv q0 (fun t0 d0 => ?_)
  refine l_join (fun ga gw => Reg ga 187 [(0, .slice aA a.length ac), (1, .slice bA b.length bc), (2, .slice cA c.length cc), (3, .slice dA d.length dc), (4, .slice tA t.length tc), (5, .int .u8 ((m : Nat) : Int)), (13, .slice (some ⟨k0, 0, none⟩) 5 5), (14, .int .i64 ((k : Nat) : Int)), (48, .bool ((heavyB 100 ((nthS ([((aA, ac, a) : Sl), ((bA, bc, b) : Sl), ((cA, cc, c) : Sl), ((dA, dc, d) : Sl), ((tA, tc, t) : Sl)]) k).2.2)) || (!(decide (((chk ((nthS ([((aA, ac, a) : Sl), ((bA, bc, b) : Sl), ((cA, cc, c) : Sl), ((dA, dc, d) : Sl), ((tA, tc, t) : Sl)]) k).2.2))) = 0))))), (1000000, .bool false)] ∧ St w0 Z none_ gw [.row (some ⟨k0, 0, none⟩) 5 5 22 1 (encSs ([((aA, ac, a) : Sl), ((bA, bc, b) : Sl), ((cA, cc, c) : Sl), ((dA, dc, d) : Sl), ((tA, tc, t) : Sl)]))] [dShapes, dRow 4 aA a.length ac (encNs a), dRow 4 bA b.length bc (encNs b), dRow 4 cA c.length cc (encNs c), dRow 4 dA d.length dc (encNs d), dRow 4 tA t.length tc (encNs t), dAll [((aA, ac, a) : Sl), ((bA, bc, b) : Sl), ((cA, cc, c) : Sl), ((dA, dc, d) : Sl), ((tA, tc, t) : Sl)], dRow 4 ((nthS ([((aA, ac, a) : Sl), ((bA, bc, b) : Sl), ((cA, cc, c) : Sl), ((dA, dc, d) : Sl), ((tA, tc, t) : Sl)]) k).1) ((nthS ([((aA, ac, a) : Sl), ((bA, bc, b) : Sl), ((cA, cc, c) : Sl), ((dA, dc, d) : Sl), ((tA, tc, t) : Sl)]) k).2.2.length) ((nthS ([((aA, ac, a) : Sl), ((bA, bc, b) : Sl), ((cA, cc, c) : Sl), ((dA, dc, d) : Sl), ((tA, tc, t) : Sl)]) k).2.1) (encNs ((nthS ([((aA, ac, a) : Sl), ((bA, bc, b) : Sl), ((cA, cc, c) : Sl), ((dA, dc, d) : Sl), ((tA, tc, t) : Sl)]) k).2.2))]) 7 ?_ ?_
  ·
   rcases Bool.eq_false_or_eq_true (heavyB 100 ((nthS ([((aA, ac, a) : Sl), ((bA, bc, b) : Sl), ((cA, cc, c) : Sl), ((dA, dc, d) : Sl), ((tA, tc, t) : Sl)]) k).2.2)) with t0 | t0
   ·
    have q0 := d0.setb (d := 41) (b := true) rfl t0
    refine sps q0 (wff q0) (fun u0 x0 => ?_)
    refine sps x0 (wff x0) (fun u0 q0 => ?_)
    refine sps q0 (wff q0) (fun u0 x0 => ?_)
    refine sps x0 (wff x0) (fun u0 q0 => ?_)
    refine sps q0 (wff q0) (fun u0 x0 => ?_)
    refine sps x0 (wff x0) (fun u0 q0 => ?_)
    refine r_pick_t sv q0 rfl rfl rfl rfl (by decide) (fun u0 x0 => ?_)
    refine wpList_nil ?_
    exact x_then_n ⟨(x0.sub (rc rfl (rc rfl (rc rfl (rc rfl (rc rfl (rc rfl (rc rfl (rc rfl (rc (rb rfl (by (simp only [t0, bl]; done))) (rc rfl rnl))))))))))), m0⟩
   ·
    obtain ⟨hlx, hsx⟩ := heavy_false t0
    have hhv := t0
    obtain ⟨hlx, hsx⟩ := heavy_false t0
    have hhv := t0
    have x0 := d0.setb (d := 41) (b := false) rfl t0
    refine r_move (st_listV_w (wt x0)) x0 rfl rfl rfl (by decide) (fun d0 u0 => ?_)
    refine r_move (st_listV_w (wt u0)) u0 rfl rfl rfl (by decide) (fun d0 x0 => ?_)
    refine m_index (i := k) (j := k * 1) (st_listV_w (wt x0)) x0 rfl rfl rfl rfl Tryd.underlying39 sz22 (by omega) (by omega) (own_ss (t := [((aA, ac, a) : Sl), ((bA, bc, b) : Sl), ((cA, cc, c) : Sl), ((dA, dc, d) : Sl), ((tA, tc, t) : Sl)]) (k := k) (m0.res (i := 0) rfl) (by (simp; omega))).some_ rfl (by decide) (fun d0 u0 => ?_)
    refine m_loadE (st_listV_w (wt u0)) u0 rfl rfl rfl 0 (k * 1) (own_ss (t := [((aA, ac, a) : Sl), ((bA, bc, b) : Sl), ((cA, cc, c) : Sl), ((dA, dc, d) : Sl), ((tA, tc, t) : Sl)]) (k := k) (m0.res (i := 0) rfl) (by (simp; omega))) rfl rfl Tryd.underlying22 rfl (by decide) (fun d0 x0 => ?_)
    have d0 := m0.data (dRow 4 ((nthS ([((aA, ac, a) : Sl), ((bA, bc, b) : Sl), ((cA, cc, c) : Sl), ((dA, dc, d) : Sl), ((tA, tc, t) : Sl)]) k).1) ((nthS ([((aA, ac, a) : Sl), ((bA, bc, b) : Sl), ((cA, cc, c) : Sl), ((dA, dc, d) : Sl), ((tA, tc, t) : Sl)]) k).2.2.length) ((nthS ([((aA, ac, a) : Sl), ((bA, bc, b) : Sl), ((cA, cc, c) : Sl), ((dA, dc, d) : Sl), ((tA, tc, t) : Sl)]) k).2.1) (encNs ((nthS ([((aA, ac, a) : Sl), ((bA, bc, b) : Sl), ((cA, cc, c) : Sl), ((dA, dc, d) : Sl), ((tA, tc, t) : Sl)]) k).2.2))) (all_at (t := [((aA, ac, a) : Sl), ((bA, bc, b) : Sl), ((cA, cc, c) : Sl), ((dA, dc, d) : Sl), ((tA, tc, t) : Sl)]) (k := k) (m0.get (i := 6) rfl) (by (simp; omega)))
    have m0 := d0.nf
    refine k_call (xs := [.tmp 45]) (st_list_w (wt x0)) x0 rfl rfl rfl (by decide) ok19 (rcheck_calls _ _ m0.il _ _ ((nthS ([((aA, ac, a) : Sl), ((bA, bc, b) : Sl), ((cA, cc, c) : Sl), ((dA, dc, d) : Sl), ((tA, tc, t) : Sl)]) k).2.2) (m0.g 8) (hl := (by omega)) (hsm := hsx)) ?_
    rintro x0 d0 ⟨rfl, u0⟩
    have d0 := m0.below u0.below
    refine ⟨_, rfl, fun u0 m0 => ?_⟩
    refine r_neq (st_listV_w (wt m0)) m0 rfl rfl rfl rfl (by decide) (fun u0 x0 => ?_)
    refine r_pick_f sv x0 rfl rfl rfl rfl (by decide) (fun u0 m0 => ?_)
    refine wpList_nil ?_
    exact x_then_n ⟨(m0.sub (rc rfl (rc rfl (rc rfl (rc rfl (rc rfl (rc rfl (rc rfl (rc rfl (rc (rb rfl (by (simp only [t0, bl]; done))) (rc rfl rnl))))))))))), (d0.forget 8)⟩
  rintro m0 d0 ⟨t0, u0⟩
  refine mv t0 (fun d0 m0 => ?_)
  refine l_join (fun ga gw => Reg ga 187 [(0, .slice aA a.length ac), (1, .slice bA b.length bc), (2, .slice cA c.length cc), (3, .slice dA d.length dc), (4, .slice tA t.length tc), (5, .int .u8 ((m : Nat) : Int)), (13, .slice (some ⟨k0, 0, none⟩) 5 5), (14, .int .i64 ((k : Nat) : Int)), (56, .bool (((heavyB 100 ((nthS ([((aA, ac, a) : Sl), ((bA, bc, b) : Sl), ((cA, cc, c) : Sl), ((dA, dc, d) : Sl), ((tA, tc, t) : Sl)]) k).2.2)) || (!(decide (((chk ((nthS ([((aA, ac, a) : Sl), ((bA, bc, b) : Sl), ((cA, cc, c) : Sl), ((dA, dc, d) : Sl), ((tA, tc, t) : Sl)]) k).2.2))) = 0)))) || (decide (25 < ((dpL ((nthS ([((aA, ac, a) : Sl), ((bA, bc, b) : Sl), ((cA, cc, c) : Sl), ((dA, dc, d) : Sl), ((tA, tc, t) : Sl)]) k).2.2) : Nat) : Int))))), (1000000, .bool false)] ∧ St w0 Z none_ gw [.row (some ⟨k0, 0, none⟩) 5 5 22 1 (encSs ([((aA, ac, a) : Sl), ((bA, bc, b) : Sl), ((cA, cc, c) : Sl), ((dA, dc, d) : Sl), ((tA, tc, t) : Sl)]))] [dShapes, dRow 4 aA a.length ac (encNs a), dRow 4 bA b.length bc (encNs b), dRow 4 cA c.length cc (encNs c), dRow 4 dA d.length dc (encNs d), dRow 4 tA t.length tc (encNs t), dAll [((aA, ac, a) : Sl), ((bA, bc, b) : Sl), ((cA, cc, c) : Sl), ((dA, dc, d) : Sl), ((tA, tc, t) : Sl)], dRow 4 ((nthS ([((aA, ac, a) : Sl), ((bA, bc, b) : Sl), ((cA, cc, c) : Sl), ((dA, dc, d) : Sl), ((tA, tc, t) : Sl)]) k).1) ((nthS ([((aA, ac, a) : Sl), ((bA, bc, b) : Sl), ((cA, cc, c) : Sl), ((dA, dc, d) : Sl), ((tA, tc, t) : Sl)]) k).2.2.length) ((nthS ([((aA, ac, a) : Sl), ((bA, bc, b) : Sl), ((cA, cc, c) : Sl), ((dA, dc, d) : Sl), ((tA, tc, t) : Sl)]) k).2.1) (encNs ((nthS ([((aA, ac, a) : Sl), ((bA, bc, b) : Sl), ((cA, cc, c) : Sl), ((dA, dc, d) : Sl), ((tA, tc, t) : Sl)]) k).2.2))]) 7 ?_ ?_
  ·
   rcases Bool.eq_false_or_eq_true (((heavyB 100 ((nthS ([((aA, ac, a) : Sl), ((bA, bc, b) : Sl), ((cA, cc, c) : Sl), ((dA, dc, d) : Sl), ((tA, tc, t) : Sl)]) k).2.2)) || (!(decide (((chk ((nthS ([((aA, ac, a) : Sl), ((bA, bc, b) : Sl), ((cA, cc, c) : Sl), ((dA, dc, d) : Sl), ((tA, tc, t) : Sl)]) k).2.2))) = 0))))) with d0 | d0
   ·
    have t0 := d0
    try simp only [Bool.or_eq_true, Bool.and_eq_true, Bool.not_eq_true', Bool.not_eq_false', decide_eq_true_eq, decide_eq_false_iff_not, Bool.or_eq_false_iff, Bool.and_eq_false_iff] at t0
    have t0 := m0.setb (d := 49) (b := true) rfl d0
    refine sps t0 (wff t0) (fun x0 q0 => ?_)
    refine sps q0 (wff q0) (fun x0 t0 => ?_)
    refine sps t0 (wff t0) (fun x0 q0 => ?_)
    refine sps q0 (wff q0) (fun x0 t0 => ?_)
    refine sps t0 (wff t0) (fun x0 q0 => ?_)
    refine sps q0 (wff q0) (fun x0 t0 => ?_)
    refine r_pick_t sv t0 rfl rfl rfl rfl (by decide) (fun x0 q0 => ?_)
    refine wpList_nil ?_
    exact x_then_n ⟨(q0.sub (rc rfl (rc rfl (rc rfl (rc rfl (rc rfl (rc rfl (rc rfl (rc rfl (rc (rb rfl (by (simp only [d0, bl]; done))) (rc rfl rnl))))))))))), u0⟩
   ·
    have q0 := or_fl d0
    obtain ⟨hlx, hsx⟩ := heavy_false q0
    have hhv := q0
    have q0 := or_fr d0
    have x0 := not_f q0
    have q0 := of_decide_eq_true x0
    have hcx := q0
    have hpx := chk_pos q0
    have hmx := meas_chk hcx
    have q0 := m0.setb (d := 49) (b := false) rfl d0
    refine r_move (st_listV_w (wt q0)) q0 rfl rfl rfl (by decide) (fun m0 x0 => ?_)
    refine r_move (st_listV_w (wt x0)) x0 rfl rfl rfl (by decide) (fun m0 q0 => ?_)
    refine m_index (i := k) (j := k * 1) (st_listV_w (wt q0)) q0 rfl rfl rfl rfl Tryd.underlying39 sz22 (by omega) (by omega) (own_ss (t := [((aA, ac, a) : Sl), ((bA, bc, b) : Sl), ((cA, cc, c) : Sl), ((dA, dc, d) : Sl), ((tA, tc, t) : Sl)]) (k := k) (u0.res (i := 0) rfl) (by (simp; omega))).some_ rfl (by decide) (fun m0 x0 => ?_)
    refine m_loadE (st_listV_w (wt x0)) x0 rfl rfl rfl 0 (k * 1) (own_ss (t := [((aA, ac, a) : Sl), ((bA, bc, b) : Sl), ((cA, cc, c) : Sl), ((dA, dc, d) : Sl), ((tA, tc, t) : Sl)]) (k := k) (u0.res (i := 0) rfl) (by (simp; omega))) rfl rfl Tryd.underlying22 rfl (by decide) (fun m0 q0 => ?_)
    have m0 := u0.data (dRow 4 ((nthS ([((aA, ac, a) : Sl), ((bA, bc, b) : Sl), ((cA, cc, c) : Sl), ((dA, dc, d) : Sl), ((tA, tc, t) : Sl)]) k).1) ((nthS ([((aA, ac, a) : Sl), ((bA, bc, b) : Sl), ((cA, cc, c) : Sl), ((dA, dc, d) : Sl), ((tA, tc, t) : Sl)]) k).2.2.length) ((nthS ([((aA, ac, a) : Sl), ((bA, bc, b) : Sl), ((cA, cc, c) : Sl), ((dA, dc, d) : Sl), ((tA, tc, t) : Sl)]) k).2.1) (encNs ((nthS ([((aA, ac, a) : Sl), ((bA, bc, b) : Sl), ((cA, cc, c) : Sl), ((dA, dc, d) : Sl), ((tA, tc, t) : Sl)]) k).2.2))) (all_at (t := [((aA, ac, a) : Sl), ((bA, bc, b) : Sl), ((cA, cc, c) : Sl), ((dA, dc, d) : Sl), ((tA, tc, t) : Sl)]) (k := k) (u0.get (i := 6) rfl) (by (simp; omega)))
    have u0 := m0.nf
    refine k_call (xs := [.tmp 53]) (st_list_w (wt q0)) q0 rfl rfl rfl (by decide) ok21 (rdeep_calls _ _ u0.il _ _ ((nthS ([((aA, ac, a) : Sl), ((bA, bc, b) : Sl), ((cA, cc, c) : Sl), ((dA, dc, d) : Sl), ((tA, tc, t) : Sl)]) k).2.2) (u0.g 8) (hl := (by omega)) (hsm := hsx) (hb := hmx)) ?_
    rintro q0 m0 ⟨rfl, x0⟩
    have m0 := u0.below x0.below
    refine ⟨_, rfl, fun x0 u0 => ?_⟩
    refine r_gtr (st_listV_w (wt u0)) u0 rfl rfl rfl rfl (by decide) (fun x0 q0 => ?_)
    refine r_pick_f sv q0 rfl rfl rfl rfl (by decide) (fun x0 u0 => ?_)
    refine wpList_nil ?_
    exact x_then_n ⟨(u0.sub (rc rfl (rc rfl (rc rfl (rc rfl (rc rfl (rc rfl (rc rfl (rc rfl (rc (rb rfl (by (simp only [d0, bl]; done))) (rc rfl rnl))))))))))), (m0.forget 8)⟩
  rintro u0 m0 ⟨d0, x0⟩
  refine mv d0 (fun m0 u0 => ?_)
  refine l_join (fun ga gw => Reg ga 187 [(0, .slice aA a.length ac), (1, .slice bA b.length bc), (2, .slice cA c.length cc), (3, .slice dA d.length dc), (4, .slice tA t.length tc), (5, .int .u8 ((m : Nat) : Int)), (13, .slice (some ⟨k0, 0, none⟩) 5 5), (14, .int .i64 ((k : Nat) : Int)), (60, .bool ((((heavyB 100 ((nthS ([((aA, ac, a) : Sl), ((bA, bc, b) : Sl), ((cA, cc, c) : Sl), ((dA, dc, d) : Sl), ((tA, tc, t) : Sl)]) k).2.2)) || (!(decide (((chk ((nthS ([((aA, ac, a) : Sl), ((bA, bc, b) : Sl), ((cA, cc, c) : Sl), ((dA, dc, d) : Sl), ((tA, tc, t) : Sl)]) k).2.2))) = 0)))) || (decide (25 < ((dpL ((nthS ([((aA, ac, a) : Sl), ((bA, bc, b) : Sl), ((cA, cc, c) : Sl), ((dA, dc, d) : Sl), ((tA, tc, t) : Sl)]) k).2.2) : Nat) : Int)))) || (!true))), (1000000, .bool false)] ∧ St w0 Z none_ gw [.row (some ⟨k0, 0, none⟩) 5 5 22 1 (encSs ([((aA, ac, a) : Sl), ((bA, bc, b) : Sl), ((cA, cc, c) : Sl), ((dA, dc, d) : Sl), ((tA, tc, t) : Sl)]))] [dShapes, dRow 4 aA a.length ac (encNs a), dRow 4 bA b.length bc (encNs b), dRow 4 cA c.length cc (encNs c), dRow 4 dA d.length dc (encNs d), dRow 4 tA t.length tc (encNs t), dAll [((aA, ac, a) : Sl), ((bA, bc, b) : Sl), ((cA, cc, c) : Sl), ((dA, dc, d) : Sl), ((tA, tc, t) : Sl)], dRow 4 ((nthS ([((aA, ac, a) : Sl), ((bA, bc, b) : Sl), ((cA, cc, c) : Sl), ((dA, dc, d) : Sl), ((tA, tc, t) : Sl)]) k).1) ((nthS ([((aA, ac, a) : Sl), ((bA, bc, b) : Sl), ((cA, cc, c) : Sl), ((dA, dc, d) : Sl), ((tA, tc, t) : Sl)]) k).2.2.length) ((nthS ([((aA, ac, a) : Sl), ((bA, bc, b) : Sl), ((cA, cc, c) : Sl), ((dA, dc, d) : Sl), ((tA, tc, t) : Sl)]) k).2.1) (encNs ((nthS ([((aA, ac, a) : Sl), ((bA, bc, b) : Sl), ((cA, cc, c) : Sl), ((dA, dc, d) : Sl), ((tA, tc, t) : Sl)]) k).2.2))]) 3 ?_ ?_
  ·
   rcases Bool.eq_false_or_eq_true ((((heavyB 100 ((nthS ([((aA, ac, a) : Sl), ((bA, bc, b) : Sl), ((cA, cc, c) : Sl), ((dA, dc, d) : Sl), ((tA, tc, t) : Sl)]) k).2.2)) || (!(decide (((chk ((nthS ([((aA, ac, a) : Sl), ((bA, bc, b) : Sl), ((cA, cc, c) : Sl), ((dA, dc, d) : Sl), ((tA, tc, t) : Sl)]) k).2.2))) = 0)))) || (decide (25 < ((dpL ((nthS ([((aA, ac, a) : Sl), ((bA, bc, b) : Sl), ((cA, cc, c) : Sl), ((dA, dc, d) : Sl), ((tA, tc, t) : Sl)]) k).2.2) : Nat) : Int))))) with k0 | k0
   ·
    have m0 := k0
    try simp only [Bool.or_eq_true, Bool.and_eq_true, Bool.not_eq_true', Bool.not_eq_false', decide_eq_true_eq, decide_eq_false_iff_not, Bool.or_eq_false_iff, Bool.and_eq_false_iff] at m0
    have m0 := u0.setb (d := 57) (b := true) rfl k0
    refine sps m0 (wff m0) (fun d0 q0 => ?_)
    refine sps q0 (wff q0) (fun d0 m0 => ?_)
    refine r_pick_t sv m0 rfl rfl rfl rfl (by decide) (fun d0 q0 => ?_)
    refine wpList_nil ?_
    exact x_then_n ⟨(q0.sub (rc rfl (rc rfl (rc rfl (rc rfl (rc rfl (rc rfl (rc rfl (rc rfl (rc (rb rfl (by (simp only [k0, bl]; done))) (rc rfl rnl))))))))))), x0⟩
   ·
    have q0 := or_fl k0
    have d0 := or_fl q0
    obtain ⟨hlx, hsx⟩ := heavy_false d0
    have hhv := d0
    have d0 := or_fr q0
    have q0 := not_f d0
    have d0 := of_decide_eq_true q0
    have hcx := d0
    have hpx := chk_pos d0
    have hmx := meas_chk hcx
    have d0 := or_fr k0
    have q0 := of_decide_eq_false d0
    have q0 := u0.setb (d := 57) (b := false) rfl k0
    have u0 := x0.nf
    refine k_call (xs := []) (st_list_w (wt q0)) q0 rfl rfl rfl (by decide) ok35 (shown13_calls _ _ u0.il (u0.g 0)) ?_
    rintro q0 x0 ⟨rfl, d0⟩
    have x0 := u0.below d0.below
    refine ⟨_, rfl, fun d0 u0 => ?_⟩
    refine r_not (st_listV_w (wt u0)) u0 rfl rfl rfl (by decide) (fun d0 q0 => ?_)
    refine r_pick_f sv q0 rfl rfl rfl rfl (by decide) (fun d0 u0 => ?_)
    refine wpList_nil ?_
    exact x_then_n ⟨(u0.sub (rc rfl (rc rfl (rc rfl (rc rfl (rc rfl (rc rfl (rc rfl (rc rfl (rc (rb rfl (by (simp only [k0, bl]; done))) (rc rfl rnl))))))))))), x0⟩
  rintro u0 x0 ⟨k0, d0⟩
  refine wpList_nil (x_then_n (p0 _ _ ?_))
  rcases Bool.eq_false_or_eq_true (((((heavyB 100 ((nthS ([((aA, ac, a) : Sl), ((bA, bc, b) : Sl), ((cA, cc, c) : Sl), ((dA, dc, d) : Sl), ((tA, tc, t) : Sl)]) k).2.2)) || (!(decide (((chk ((nthS ([((aA, ac, a) : Sl), ((bA, bc, b) : Sl), ((cA, cc, c) : Sl), ((dA, dc, d) : Sl), ((tA, tc, t) : Sl)]) k).2.2))) = 0)))) || (decide (25 < ((dpL ((nthS ([((aA, ac, a) : Sl), ((bA, bc, b) : Sl), ((cA, cc, c) : Sl), ((dA, dc, d) : Sl), ((tA, tc, t) : Sl)]) k).2.2) : Nat) : Int)))) || (!true))) with p0 | p0
  ·
   have x0 := p0
   try simp only [Bool.or_eq_true, Bool.and_eq_true, Bool.not_eq_true', Bool.not_eq_false', decide_eq_true_eq, decide_eq_false_iff_not, Bool.or_eq_false_iff, Bool.and_eq_false_iff] at x0
   have x0 := k0.setb (d := 60) (b := true) rfl p0
   refine wp_cond_true (x0.ev rfl) ?_
   refine wsc (fun u0 q0 => ?_)
   have u0 := d0.nf
   refine k_call (xs := []) se x0 rfl rfl rfl (by decide) ok35 (shown13_calls _ _ u0.il (u0.g 0)) ?_
   rintro x0 m0 ⟨rfl, t0⟩
   have m0 := u0.below t0.below
   refine ⟨_, rfl, fun t0 u0 => ?_⟩
   refine asg u0 (fun t0 x0 => ?_)
   refine wpList_nil (x_then_n (q0 _ _ ?_))
   refine wp_ret ?_
   refine x_then_r ?_
   refine x_block_r ?_
   refine x_then_r ?_
   refine x_then_r ?_
   refine x_block_r ?_
   refine x_then_r ?_
   refine e_ret1 x0 rfl rfl rfl ?_
   refine ⟨?_, m0.fr⟩
   exact congrArg Ending.returned (ret_b (by rfl))
  ·
   have m0 := or_fl p0
   have x0 := or_fl m0
   have q0 := or_fl x0
   obtain ⟨hlx, hsx⟩ := heavy_false q0
   have hhv := q0
   have q0 := or_fr x0
   have x0 := not_f q0
   have q0 := of_decide_eq_true x0
   have hcx := q0
   have hpx := chk_pos q0
   have hmx := meas_chk hcx
   have x0 := or_fr m0
   have m0 := of_decide_eq_false x0
   have m0 := or_fr p0
   have x0 := not_f m0
   have x0 := k0.setb (d := 60) (b := false) rfl p0
   refine wp_cond_false (x0.ev rfl) ?_
   refine wp_skip ?_
   refine x_then_n (o0 _ _ ?_)
   refine wsc (fun o0 p0 => ?_)
   refine mv x0 (fun o0 k0 => ?_)
   refine mv k0 (fun o0 x0 => ?_)
   refine m_index (i := k) (j := k * 1) sv x0 rfl rfl rfl rfl Tryd.underlying39 sz22 (by omega) (by omega) (own_ss (t := [((aA, ac, a) : Sl), ((bA, bc, b) : Sl), ((cA, cc, c) : Sl), ((dA, dc, d) : Sl), ((tA, tc, t) : Sl)]) (k := k) (d0.res (i := 0) rfl) (by (simp; omega))).some_ rfl (by decide) (fun o0 k0 => ?_)
   refine m_loadE sv k0 rfl rfl rfl 0 (k * 1) (own_ss (t := [((aA, ac, a) : Sl), ((bA, bc, b) : Sl), ((cA, cc, c) : Sl), ((dA, dc, d) : Sl), ((tA, tc, t) : Sl)]) (k := k) (d0.res (i := 0) rfl) (by (simp; omega))) rfl rfl Tryd.underlying22 rfl (by decide) (fun o0 x0 => ?_)
   have o0 := d0.data (dRow 4 ((nthS ([((aA, ac, a) : Sl), ((bA, bc, b) : Sl), ((cA, cc, c) : Sl), ((dA, dc, d) : Sl), ((tA, tc, t) : Sl)]) k).1) ((nthS ([((aA, ac, a) : Sl), ((bA, bc, b) : Sl), ((cA, cc, c) : Sl), ((dA, dc, d) : Sl), ((tA, tc, t) : Sl)]) k).2.2.length) ((nthS ([((aA, ac, a) : Sl), ((bA, bc, b) : Sl), ((cA, cc, c) : Sl), ((dA, dc, d) : Sl), ((tA, tc, t) : Sl)]) k).2.1) (encNs ((nthS ([((aA, ac, a) : Sl), ((bA, bc, b) : Sl), ((cA, cc, c) : Sl), ((dA, dc, d) : Sl), ((tA, tc, t) : Sl)]) k).2.2))) (all_at (t := [((aA, ac, a) : Sl), ((bA, bc, b) : Sl), ((cA, cc, c) : Sl), ((dA, dc, d) : Sl), ((tA, tc, t) : Sl)]) (k := k) (d0.get (i := 6) rfl) (by (simp; omega)))
   have d0 := o0.nf
   refine k_call (xs := [.tmp 66]) se x0 rfl rfl rfl (by decide) ok22 (rfree_calls _ _ d0.il _ _ ((nthS ([((aA, ac, a) : Sl), ((bA, bc, b) : Sl), ((cA, cc, c) : Sl), ((dA, dc, d) : Sl), ((tA, tc, t) : Sl)]) k).2.2) (d0.g 8) (hl := (by omega)) (hsm := hsx)) ?_
   rintro x0 o0 ⟨rfl, k0⟩
   have o0 := d0.below k0.below
   refine ⟨_, rfl, fun k0 d0 => ?_⟩
   refine mv d0 (fun k0 x0 => ?_)
   refine r_extract sv x0 rfl rfl rfl rfl (by decide) (fun k0 d0 => ?_)
   refine r_extract sv d0 rfl rfl rfl rfl (by decide) (fun k0 x0 => ?_)
   refine asg x0 (fun k0 d0 => ?_)
   refine asg d0 (fun k0 x0 => ?_)
   refine wpList_nil (x_then_n (p0 _ _ ?_))
   refine wsc (fun p0 k0 => ?_)
   refine mv x0 (fun p0 d0 => ?_)
   refine r_neq sv d0 rfl rfl rfl rfl (by decide) (fun p0 x0 => ?_)
   refine mv x0 (fun p0 d0 => ?_)
   have p0 := d0.setb (d := 72) (b := false) rfl (by rw [(decide_eq_true q0)]; rfl)
   refine r_move (st_listV_w (wt p0)) p0 rfl rfl rfl (by decide) (fun d0 q0 => ?_)
   refine r_gtr (st_listV_w (wt q0)) q0 rfl rfl rfl rfl (by decide) (fun d0 p0 => ?_)
   refine r_pick_f sv p0 rfl rfl rfl rfl (by decide) (fun d0 q0 => ?_)
   refine wpList_nil (x_then_n (k0 _ _ ?_))
   rcases Decidable.em (40 < ((frF ((nthS ([((aA, ac, a) : Sl), ((bA, bc, b) : Sl), ((cA, cc, c) : Sl), ((dA, dc, d) : Sl), ((tA, tc, t) : Sl)]) k).2.2)))) with k0 | k0
   ·
    have d0 := q0.setb (d := 75) (b := true) rfl (decide_eq_true k0)
    refine wp_cond_true (d0.ev rfl) ?_
    refine wsc (fun p0 x0 => ?_)
    have p0 := o0.nf
    refine k_call (xs := []) se d0 rfl rfl rfl (by decide) ok35 (shown13_calls _ _ p0.il (p0.g 0)) ?_
    rintro d0 m0 ⟨rfl, t0⟩
    have m0 := p0.below t0.below
    refine ⟨_, rfl, fun t0 p0 => ?_⟩
    refine asg p0 (fun t0 d0 => ?_)
    refine wpList_nil (x_then_n (x0 _ _ ?_))
    refine wp_ret ?_
    refine x_block_r ?_
    refine x_then_r ?_
    refine x_then_r ?_
    refine x_block_r ?_
    refine x_then_r ?_
    refine e_ret1 d0 rfl rfl rfl ?_
    refine ⟨?_, m0.fr⟩
    exact congrArg Ending.returned (ret_b (by rfl))
   ·
    have m0 := q0.setb (d := 75) (b := false) rfl (decide_eq_false k0)
    refine wp_cond_false (m0.ev rfl) ?_
    refine wp_skip ?_
    refine x_block_n ?_
    refine x_then_n (i0 _ _ ?_)
    refine c_region ?_
    refine mv m0 (fun i0 k0 => ?_)
    refine r_add (z := ((k + 1 : Nat) : Int)) sv k0 rfl rfl rfl rfl (by decide) (by omega) (by omega) (by omega) (fun i0 m0 => ?_)
    refine asg m0 (fun i0 k0 => ?_)
    refine wpList_nil ?_
    have i0 := o0.forget 8
    have o0 := i0.forget 7
    exact ⟨_, by omega, k + 1, (k0.sub (rc rfl (rc rfl (rc rfl (rc rfl (rc rfl (rc rfl (rc rfl (rc rfl (rc rfl rnl)))))))))), o0, by omega, (hyp_q hq ⟨hhv, hcx, by omega⟩), rfl⟩
 ·
  have hqa : PQ a := hq 0 (by omega)
  have hqb : PQ b := hq 1 (by omega)
  have hqc : PQ c := hq 2 (by omega)
  have hqd : PQ d := hq 3 (by omega)
  have hqt : PQ t := hq 4 (by omega)
  have hm3 : m % 3 < 3 := Nat.mod_lt _ (by decide)
  obtain ⟨hlt, hst⟩ := heavy_false hqt.1
  have hpt := chk_pos hqt.2.1
  obtain ⟨kx1, sx1, lx1, _, _⟩ := sg_ok hm3 hqa hqb
  obtain ⟨kx2, sx2, lx2, _, _⟩ := sg_ok hm3 hqc hqd
  have hla := (heavy_false hqa.1).1
  have hlb := (heavy_false hqb.1).1
  have hlc := (heavy_false hqc.1).1
  have hld := (heavy_false hqd.1).1
  have o0 := c0.setb (d := 33) (b := false) rfl (decide_eq_false n0)
  refine wp_cond_false (o0.ev rfl) ?_
  refine wp_exit ?_
  refine x_then_e ?_
  refine x_then_e ?_
  refine x_block_eq ?_
  refine x_then_n (j0 _ _ ?_)
  refine wp_seq_k (fun j0 n0 => ?_)
  refine wsc (fun j0 c0 => ?_)
  refine mv o0 (fun j0 k0 => ?_)
  have j0 := b0.nf
  refine k_call (xs := [.tmp 77]) se k0 rfl rfl rfl (by decide) ok23 (rroot_calls _ _ j0.il _ _ _ (j0.g 5) (hl := (by omega)) (h0 := (by omega))) ?_
  rintro k0 b0 ⟨rfl, o0⟩
  have b0 := j0.below o0.below
  refine ⟨_, rfl, fun o0 j0 => ?_⟩
  refine m_fieldV (v := .int .i64 (((nth t (t.length - 1)).K))) sv j0 rfl rfl rfl (fun _ => by kernel_rfl) (by decide) (fun o0 k0 => ?_)
  refine r_eql sv k0 rfl rfl rfl rfl (by decide) (fun o0 j0 => ?_)
  refine wpList_nil (x_then_n (c0 _ _ ?_))
  rcases Decidable.em ((((nth t (t.length - 1)).K)) = 29) with c0 | c0
  ·
   have o0 := j0.setb (d := 80) (b := true) rfl (decide_eq_true c0)
   refine wp_cond_true (o0.ev rfl) ?_
   refine wsc (fun k0 i0 => ?_)
   have k0 := b0.nf
   refine k_call (xs := []) se o0 rfl rfl rfl (by decide) ok35 (shown13_calls _ _ k0.il (k0.g 0)) ?_
   rintro o0 m0 ⟨rfl, q0⟩
   have m0 := k0.below q0.below
   refine ⟨_, rfl, fun q0 k0 => ?_⟩
   refine asg k0 (fun q0 o0 => ?_)
   refine wpList_nil (x_then_n (i0 _ _ ?_))
   refine wp_ret ?_
   refine x_then_r ?_
   refine e_ret1 o0 rfl rfl rfl ?_
   refine ⟨?_, m0.fr⟩
   exact congrArg Ending.returned (ret_b (by rfl))
  ·
   have m0 := c0
   have hge := cp_great hm3 hqa hqb hqc hqd hqt m0
   have o0 := j0.setb (d := 80) (b := false) rfl (decide_eq_false c0)
   refine wp_cond_false (o0.ev rfl) ?_
   refine wp_skip ?_
   refine x_then_n (n0 _ _ ?_)
   refine wsc (fun n0 c0 => ?_)
   refine mv o0 (fun n0 j0 => ?_)
   refine r_conv sv j0 rfl rfl rfl Tryd.underlying5 Tryd.underlying3 (by decide) (by omega) (by omega) (fun n0 o0 => ?_)
   refine r_rem (z := (((m) % 3 : Nat) : Int)) sv o0 rfl rfl rfl rfl (by decide) (tmod_nat (m) 3) (by decide) (fun n0 j0 => ?_)
   refine m_build (ps := [(0, .const (.int .i64 6)), (1, .tmp 84)]) (v := .agg #[.int .i64 6, .int .i64 (((m) % 3 : Nat) : Int), .int .i64 0, .string (⟨#[]⟩ : ByteArray)]) sv j0 rfl rfl rfl (fun _ => by kernel_rfl) (by decide) (fun n0 o0 => ?_)
   refine m_alloc (cs := [.int .i64 0, .int .i64 0, .int .i64 0, .string (⟨#[]⟩ : ByteArray)]) sv o0 b0 rfl rfl ze32 rfl (by decide) (fun n0 j0 i0 q0 k0 => ?_)
   refine m_store (i := 1) (cs' := [.int .i64 6, .int .i64 (((m) % 3 : Nat) : Int), .int .i64 0, .string (⟨#[]⟩ : ByteArray)]) se q0 k0 rfl rfl rfl rfl rfl sz32 rfl rfl rfl (fun i0 j0 n0 o0 => ?_)
   refine wpList_nil (x_then_n (c0 _ _ ?_))
   refine wsc (fun c0 j0 => ?_)
   refine mv n0 (fun c0 i0 => ?_)
   refine mv i0 (fun c0 n0 => ?_)
   have c0 := o0.data (dAll [((aA, ac, a) : Sl), ((bA, bc, b) : Sl)]) (all_cons (o0.get (i := 1) rfl) (all_cons (o0.get (i := 2) rfl) all_nil))
   refine mbs [(0, .tmp 86), (1, .tmp 87)] [.slice aA a.length ac, .slice bA b.length bc] sv n0 c0 Tryd.underlying39 zi22 (fun o0 i0 k0 q0 b0 => ?_)
   refine asg q0 (fun i0 o0 => ?_)
   refine wpList_nil (x_then_n (j0 _ _ ?_))
   refine wsc (fun j0 i0 => ?_)
   refine mv o0 (fun j0 q0 => ?_)
   refine mv q0 (fun j0 o0 => ?_)
   have j0 := b0.data (dAll [((cA, cc, c) : Sl), ((dA, dc, d) : Sl)]) (all_cons (b0.get (i := 3) rfl) (all_cons (b0.get (i := 4) rfl) all_nil))
   refine mbs [(0, .tmp 89), (1, .tmp 90)] [.slice cA c.length cc, .slice dA d.length dc] sv o0 j0 Tryd.underlying39 zi22 (fun b0 q0 c0 n0 d0 => ?_)
   refine asg n0 (fun q0 b0 => ?_)
   refine wpList_nil (x_then_n (i0 _ _ ?_))
   refine wp_seq_k (fun i0 q0 => ?_)
   obtain ⟨i0, n0, j0⟩ := d0.agree
   refine d_reg3 (n := 13) j0 9 (pc 1 0 (pc 1 1 (pc 1 2 (pc 1 3 pn)))) (pan_then pan_body) (fun n0 i0 d0 o0 x0 t0 => ?_)
   refine dt 0 rfl i0 b0 (want_n rfl) (fun x hx => m_loadCN (sy b0) b0 rfl rfl rfl (CellsAt.cons_ (hx.c 0) (CellsAt.cons_ (hx.c 1) (CellsAt.cons_ (hx.c 2) (CellsAt.cons_ (hx.c 3) (CellsAt.nil _ _))))) Tryd.underlying32 rfl sz32 (by decide) gt) t0 (fun o0 n0 => ?_)
   refine dtM 1 i0 n0 t0 (fun o0 b0 => ?_)
   refine dt 3 rfl i0 b0 (want_n rfl) (fun x hx => m_loadCN (sy b0) b0 rfl rfl rfl (CellsAt.cons_ (hx.c 0) (CellsAt.cons_ (hx.c 1) (CellsAt.cons_ (hx.c 2) (CellsAt.cons_ (hx.c 3) (CellsAt.nil _ _))))) Tryd.underlying32 rfl sz32 (by decide) gt) t0 (fun o0 n0 => ?_)
   refine dtM 4 i0 n0 t0 (fun o0 b0 => ?_)
   refine dtM 6 i0 b0 t0 (fun o0 n0 => ?_)
   refine d1 2 ?_
   have o0 := x0.nf
   have x0 := own_cap (o0.res (i := 2) rfl)
   obtain ⟨b0, t0⟩ := o0.row_data (i := 2) rfl (fun _ h => h)
   have o0 := b0.data (dRow 1 (some ⟨k0, 0, none⟩) 2 2 (encSs ([((aA, ac, a) : Sl), ((bA, bc, b) : Sl)]))) ⟨x0, t0⟩
   refine k_call (xs := [.tmp 93, .tmp 94]) (st_op rfl (want_n rfl)) n0 rfl rfl rfl (by decide) ok25 (rof_calls _ _ o0.il (⟨6, (((m) % 3 : Nat) : Int), 0, (⟨#[]⟩ : ByteArray)⟩ : Nd) _ _ ([((aA, ac, a) : Sl), ((bA, bc, b) : Sl)]) (o0.g 10) (o0.g 7) (hl := (by simp)) (hb := (by simp [lsts]; omega))) ?_
   rintro n0 t0 ⟨b0, x0, rfl, k0, j0⟩
   have x0 := o0.below k0.below
   have k0 := o0.dN x0 j0
   refine ⟨_, rfl, fun x0 j0 => ?_⟩
   have x0 := sWI k0 9 (pc 1 0 (pc 1 1 (pc 1 2 (pc 1 3 pn))))
   refine ⟨x0, ?_⟩
   refine d1 5 ?_
   have x0 := k0.nf
   have k0 := own_cap (x0.res (i := 2) rfl)
   obtain ⟨o0, b0⟩ := x0.row_data (i := 2) rfl (fun _ h => h)
   have x0 := o0.data (dRow 1 (some ⟨c0, 0, none⟩) 2 2 (encSs ([((cA, cc, c) : Sl), ((dA, dc, d) : Sl)]))) ⟨k0, b0⟩
   refine k_call (xs := [.tmp 96, .tmp 97]) (st_op rfl (want_n rfl)) j0 rfl rfl rfl (by decide) ok25 (rof_calls _ _ x0.il (⟨6, (((m) % 3 : Nat) : Int), 0, (⟨#[]⟩ : ByteArray)⟩ : Nd) _ _ ([((cA, cc, c) : Sl), ((dA, dc, d) : Sl)]) (x0.g 12) (x0.g 8) (hl := (by simp)) (hb := (by simp [lsts]; omega))) ?_
   rintro j0 b0 ⟨o0, k0, rfl, c0, t0⟩
   have k0 := x0.below c0.below
   have c0 := x0.dN k0 t0
   refine ⟨_, rfl, fun k0 t0 => ?_⟩
   have k0 := sWI c0 9 (pc 1 0 (pc 1 1 (pc 1 2 (pc 1 3 pn))))
   refine ⟨k0, ?_⟩
   refine d1 7 ?_
   have k0 := c0.nf
   refine k_call (xs := [.tmp 95, .tmp 98, .tmp 99]) (st_op rfl (want_n rfl)) t0 rfl rfl rfl (by decide) ok36 (crule_calls _ _ k0.il _ _ ((lsts ([((aA, ac, a) : Sl), ((bA, bc, b) : Sl)])).flatten ++ [(⟨6, (((m) % 3 : Nat) : Int), 0, (⟨#[]⟩ : ByteArray)⟩ : Nd)]) _ _ ((lsts ([((cA, cc, c) : Sl), ((dA, dc, d) : Sl)])).flatten ++ [(⟨6, (((m) % 3 : Nat) : Int), 0, (⟨#[]⟩ : ByteArray)⟩ : Nd)]) _ _ _ (k0.g 0) (k0.g 11) (k0.g 13) (k0.g 5) (hsa := sx1) (hsb := sx2) (hst := hst) (hla := (Nat.le_trans lx1 (by decide))) (hlb := (Nat.le_trans lx2 (by decide))) (hlt := (by omega))) ?_
   rintro t0 c0 ⟨x0, o0, rfl, b0, j0⟩
   have o0 := k0.below b0.below
   have b0 := k0.dN o0 j0
   refine ⟨_, rfl, fun o0 j0 => ?_⟩
   have o0 := sWI b0 9 (pc 1 0 (pc 1 1 (pc 1 2 (pc 1 3 pn))))
   refine ⟨o0, ?_⟩
   refine dtM 8 i0 j0 o0 (fun k0 x0 => ?_)
   refine dt 9 rfl i0 x0 (want_n rfl) (fun x hx => r_extract (sy x0) x0 rfl rfl rfl rfl (by decide) gt) o0 (fun k0 j0 => ?_)
   refine dt 10 rfl i0 j0 (want_n rfl) (fun x hx => r_extract (sy j0) j0 rfl rfl rfl rfl (by decide) gt) o0 (fun k0 x0 => ?_)
   refine dtA 11 i0 x0 o0 (fun k0 j0 => ?_)
   refine dtA 12 i0 j0 o0 (fun k0 x0 => ?_)
   refine wpAnyH_done (by kernel_rfl) (d0 _ _ ?_) _
   refine x_then_n (q0 _ _ ?_)
   refine wp_seq_k (fun q0 d0 => ?_)
   refine wsc (fun q0 k0 => ?_)
   refine mv x0 (fun q0 j0 => ?_)
   refine r_neq sv j0 rfl rfl rfl rfl (by decide) (fun q0 x0 => ?_)
   refine wpList_nil (x_then_n (k0 _ _ ?_))
   rcases Decidable.em (((crE ((lsts ([((aA, ac, a) : Sl), ((bA, bc, b) : Sl)])).flatten ++ [(⟨6, (((m) % 3 : Nat) : Int), 0, (⟨#[]⟩ : ByteArray)⟩ : Nd)]) ((lsts ([((cA, cc, c) : Sl), ((dA, dc, d) : Sl)])).flatten ++ [(⟨6, (((m) % 3 : Nat) : Int), 0, (⟨#[]⟩ : ByteArray)⟩ : Nd)]) t)) = 0) with k0 | k0
   ·
    have h0 := k0
    obtain ⟨kx0, sx0, rx0, _⟩ := cp_ok hm3 hqa hqb hqc hqd hqt m0 h0
    have lx0 := chk_le kx0
    have px0 := chk_pos kx0
    have mx0 := meas_chk kx0
    have q0 := x0.setb (d := 104) (b := false) rfl (by rw [(decide_eq_true k0)]; rfl)
    refine wp_cond_false (q0.ev rfl) ?_
    refine wp_skip ?_
    refine x_then_n (d0 _ _ ?_)
    refine wsc (fun d0 j0 => ?_)
    refine mv q0 (fun d0 o0 => ?_)
    have d0 := b0.nf
    refine k_call (xs := [.tmp 107]) se o0 rfl rfl rfl (by decide) ok32 (rparts_calls _ _ d0.il _ _ (crA ((lsts ([((aA, ac, a) : Sl), ((bA, bc, b) : Sl)])).flatten ++ [(⟨6, (((m) % 3 : Nat) : Int), 0, (⟨#[]⟩ : ByteArray)⟩ : Nd)]) ((lsts ([((cA, cc, c) : Sl), ((dA, dc, d) : Sl)])).flatten ++ [(⟨6, (((m) % 3 : Nat) : Int), 0, (⟨#[]⟩ : ByteArray)⟩ : Nd)]) t) (d0.g 14) (hl := (by exact Nat.le_trans lx0 (by decide))) (hsm := (by exact sx0)) (hb := (by exact mx0))) ?_
    rintro o0 q0 ⟨i0, c0, t0, rfl, n0, p0, u0, b1⟩
    have c0 := d0.below n0.below
    have n0 := d0.dN c0 p0
    have c0 := d0.dN n0 u0
    refine ⟨_, rfl, fun n0 u0 => ?_⟩
    obtain ⟨n3, n0, d0, i1, i2, ⟨y0, y1, y2, y3, y4⟩, y5, y6⟩ := cp_parts hm3 hqa hqb hqc hqd hqt m0 h0 b1
    refine asg u0 (fun b1 p0 => ?_)
    refine wpList_nil (x_then_n (j0 _ _ ?_))
    refine wp_seq_k (fun j0 b1 => ?_)
    refine wp_seq_k (fun j0 u0 => ?_)
    obtain ⟨j0, i0, q0⟩ := c0.agree
    refine d_reg3 (n := 14) q0 17 (pc 1 0 (pc 1 1 (pc 1 2 (pc 1 3 pn)))) (pan_then (pan_then pan_body)) (fun j0 c0 o0 c1 h1 j1 => ?_)
    refine dtM 0 c0 p0 j1 (fun c1 j0 => ?_)
    refine d1 1 ?_
    have c1 := h1.nf
    refine k_call (xs := [.tmp 109]) (st_op rfl (want_n rfl)) j0 rfl rfl rfl (by decide) ok23 (rroot_calls _ _ c1.il _ _ (crA ((lsts ([((aA, ac, a) : Sl), ((bA, bc, b) : Sl)])).flatten ++ [(⟨6, (((m) % 3 : Nat) : Int), 0, (⟨#[]⟩ : ByteArray)⟩ : Nd)]) ((lsts ([((cA, cc, c) : Sl), ((dA, dc, d) : Sl)])).flatten ++ [(⟨6, (((m) % 3 : Nat) : Int), 0, (⟨#[]⟩ : ByteArray)⟩ : Nd)]) t) (c1.g 14) (hl := (by exact Nat.le_trans lx0 (by decide))) (h0 := (by exact px0))) ?_
    rintro j0 h1 ⟨rfl, j1⟩
    have h1 := c1.below j1.below
    refine ⟨_, rfl, fun j1 c1 => ?_⟩
    have j1 := sWI h1 17 (pc 1 0 (pc 1 1 (pc 1 2 (pc 1 3 pn))))
    refine ⟨j1, ?_⟩
    refine dt 2 rfl c0 c1 (want_n rfl) (fun x hx => m_fieldV (v := .int .i64 (((nth (crA ((lsts ([((aA, ac, a) : Sl), ((bA, bc, b) : Sl)])).flatten ++ [(⟨6, (((m) % 3 : Nat) : Int), 0, (⟨#[]⟩ : ByteArray)⟩ : Nd)]) ((lsts ([((cA, cc, c) : Sl), ((dA, dc, d) : Sl)])).flatten ++ [(⟨6, (((m) % 3 : Nat) : Int), 0, (⟨#[]⟩ : ByteArray)⟩ : Nd)]) t) ((crA ((lsts ([((aA, ac, a) : Sl), ((bA, bc, b) : Sl)])).flatten ++ [(⟨6, (((m) % 3 : Nat) : Int), 0, (⟨#[]⟩ : ByteArray)⟩ : Nd)]) ((lsts ([((cA, cc, c) : Sl), ((dA, dc, d) : Sl)])).flatten ++ [(⟨6, (((m) % 3 : Nat) : Int), 0, (⟨#[]⟩ : ByteArray)⟩ : Nd)]) t).length - 1)).K))) (sy c1) c1 rfl rfl rfl (fun _ => by kernel_rfl) (by decide) gt) j1 (fun j0 p0 => ?_)
    refine dt 3 rfl c0 p0 (want_n rfl) (fun x hx => r_neq (sy p0) p0 rfl rfl rfl rfl (by decide) gt) j1 (fun j0 c1 => ?_)
    refine dtM 4 c0 c1 j1 (fun j0 p0 => ?_)
    have j0 : (((nth (crA ((lsts ([((aA, ac, a) : Sl), ((bA, bc, b) : Sl)])).flatten ++ [(⟨6, (((m) % 3 : Nat) : Int), 0, (⟨#[]⟩ : ByteArray)⟩ : Nd)]) ((lsts ([((cA, cc, c) : Sl), ((dA, dc, d) : Sl)])).flatten ++ [(⟨6, (((m) % 3 : Nat) : Int), 0, (⟨#[]⟩ : ByteArray)⟩ : Nd)]) t) ((crA ((lsts ([((aA, ac, a) : Sl), ((bA, bc, b) : Sl)])).flatten ++ [(⟨6, (((m) % 3 : Nat) : Int), 0, (⟨#[]⟩ : ByteArray)⟩ : Nd)]) ((lsts ([((cA, cc, c) : Sl), ((dA, dc, d) : Sl)])).flatten ++ [(⟨6, (((m) % 3 : Nat) : Int), 0, (⟨#[]⟩ : ByteArray)⟩ : Nd)]) t).length - 1)).K)) = 7 := rx0
    have c1 := p0.setb (d := 113) (b := false) rfl (by rw [(decide_eq_true j0)]; rfl)
    refine dtM 5 c0 c1 j1 (fun j0 p0 => ?_) (hw := wt c1)
    refine dt 6 rfl c0 p0 (wt p0) (fun x hx => m_index (i := 0) (j := 0 * 1) (sy p0) p0 rfl rfl rfl rfl Tryd.underlying39 sz22 (by omega) (by omega) (ss_elem (t := t0) (k := 0) (sdat (i0 15 _ rfl) hx.ag).2 (by omega)).some_ rfl (by decide) gt) j1 (fun j0 c1 => ?_)
    refine dt 7 rfl c0 c1 (wt c1) (fun x hx => m_loadE (sy c1) c1 rfl rfl rfl 0 (0 * 1) (ss_elem (t := t0) (k := 0) (sdat (i0 15 _ rfl) hx.ag).2 (by omega)) rfl rfl Tryd.underlying22 rfl (by decide) gt) j1 (fun j0 p0 => ?_)
    have j0 := h1.data (dRow 4 ((nthS t0 0).1) ((nthS t0 0).2.2.length) ((nthS t0 0).2.1) (encNs ((nthS t0 0).2.2))) (all_at (t := t0) (k := 0) (h1.get (i := 16) rfl) (by omega))
    refine dt 8 rfl c0 p0 (wt p0) (fun x hx => m_loadCN (sy p0) p0 rfl rfl rfl (CellsAt.cons_ (hx.c 0) (CellsAt.cons_ (hx.c 1) (CellsAt.cons_ (hx.c 2) (CellsAt.cons_ (hx.c 3) (CellsAt.nil _ _))))) Tryd.underlying32 rfl sz32 (by decide) gt) j1 (fun h1 c1 => ?_)
    refine dtM 9 c0 c1 j1 (fun h1 p0 => ?_) (hw := wt c1)
    refine d1 10 ?_
    have h1 := j0.nf
    refine k_call (xs := [.tmp 117, .tmp 118]) (st_op rfl (wt p0)) p0 rfl rfl rfl (by decide) ok25 (rof_calls _ _ h1.il (⟨6, (((m) % 3 : Nat) : Int), 0, (⟨#[]⟩ : ByteArray)⟩ : Nd) _ _ ([((cA, cc, c) : Sl), ((dA, dc, d) : Sl)]) (h1.g 12) (h1.g 8) (hl := (by simp)) (hb := (by simp [lsts]; omega))) ?_
    rintro p0 j0 ⟨c1, j1, rfl, i0, q0⟩
    have j1 := h1.below i0.below
    have i0 := h1.dN j1 q0
    refine ⟨_, rfl, fun j1 q0 => ?_⟩
    have j1 := sWI i0 17 (pc 1 0 (pc 1 1 (pc 1 2 (pc 1 3 pn))))
    refine ⟨j1, ?_⟩
    refine d1 11 ?_
    have j1 := i0.nf
    refine k_call (xs := [.tmp 116, .tmp 119]) (st_op rfl (wt q0)) q0 rfl rfl rfl (by decide) ok30 (rsame_calls _ _ j1.il _ _ ((nthS t0 0).2.2) _ _ ((lsts ([((cA, cc, c) : Sl), ((dA, dc, d) : Sl)])).flatten ++ [(⟨6, (((m) % 3 : Nat) : Int), 0, (⟨#[]⟩ : ByteArray)⟩ : Nd)]) (j1.g 18) (j1.g 19) (hl := (by omega))) ?_
    rintro q0 i0 ⟨rfl, h1⟩
    have i0 := j1.below h1.below
    refine ⟨_, rfl, fun h1 j1 => ?_⟩
    have h1 := sWI i0 17 (pc 1 0 (pc 1 1 (pc 1 2 (pc 1 3 pn))))
    refine ⟨h1, ?_⟩
    refine dt 12 rfl c0 j1 (wt j1) (fun x hx => r_not (sy j1) j1 rfl rfl rfl (by decide) gt) h1 (fun q0 c1 => ?_)
    refine dtQ 13 c0 c1 h1 (fun q0 j1 => ?_)
    refine wpAnyH_done (by kernel_rfl) (o0 _ _ ?_) _
    refine x_then_n (u0 _ _ ?_)
    have u0 : (decide (((nthS t0 0).2.2) = ((lsts ([((cA, cc, c) : Sl), ((dA, dc, d) : Sl)])).flatten ++ [(⟨6, (((m) % 3 : Nat) : Int), 0, (⟨#[]⟩ : ByteArray)⟩ : Nd)]))) = true := decide_eq_true n0
    have n0 := of_decide_eq_true u0
    have n0 := j1.setb (d := 122) (b := false) rfl (by rw [u0]; rfl)
    refine wp_cond_false (n0.ev rfl) ?_
    refine wp_skip ?_
    refine x_then_n (b1 _ _ ?_)
    refine wp_seq_k (fun b1 u0 => ?_)
    refine wp_seq_k (fun b1 j1 => ?_)
    obtain ⟨b1, o0, q0⟩ := i0.agree
    refine d_reg3 (n := 22) q0 20 (pc 1 0 (pc 1 1 (pc 1 2 (pc 1 3 pn)))) (pan_then (pan_then pan_body)) (fun b1 i0 c1 h1 c0 j0 => ?_)
    refine dtM 0 i0 n0 j0 (fun h1 b1 => ?_)
    refine dt 1 rfl i0 b1 (want_n rfl) (fun x hx => m_index (i := 1) (j := 1 * 1) (sy b1) b1 rfl rfl rfl rfl Tryd.underlying39 sz22 (by omega) (by omega) (ss_elem (t := t0) (k := 1) (sdat (o0 15 _ rfl) hx.ag).2 (by omega)).some_ rfl (by decide) gt) j0 (fun h1 n0 => ?_)
    refine dt 2 rfl i0 n0 (want_n rfl) (fun x hx => m_loadE (sy n0) n0 rfl rfl rfl 0 (1 * 1) (ss_elem (t := t0) (k := 1) (sdat (o0 15 _ rfl) hx.ag).2 (by omega)) rfl rfl Tryd.underlying22 rfl (by decide) gt) j0 (fun h1 b1 => ?_)
    have h1 := c0.data (dRow 4 ((nthS t0 1).1) ((nthS t0 1).2.2.length) ((nthS t0 1).2.1) (encNs ((nthS t0 1).2.2))) (all_at (t := t0) (k := 1) (c0.get (i := 16) rfl) (by omega))
    refine dtF 6 1 i0 b1 j0 Tryd.underlying32 sz3 (fun c0 n0 => ?_)
    refine dtC 7 1 i0 n0 j0 Tryd.underlying3 (fun c0 b1 => ?_)
    refine dt 8 rfl i0 b1 (want_n rfl) (fun x hx => r_eql (sy b1) b1 rfl rfl rfl rfl (by decide) gt) j0 (fun c0 n0 => ?_)
    refine d1 3 ?_
    have c0 := h1.nf
    refine k_call (xs := [.tmp 125]) (st_op rfl (want_n rfl)) n0 rfl rfl rfl (by decide) ok23 (rroot_calls _ _ c0.il _ _ ((nthS t0 1).2.2) (c0.g 21) (hl := (by omega)) (h0 := (by omega))) ?_
    rintro n0 h1 ⟨rfl, b1⟩
    have h1 := c0.below b1.below
    refine ⟨_, rfl, fun b1 c0 => ?_⟩
    have b1 := sWI h1 20 (pc 1 0 (pc 1 1 (pc 1 2 (pc 1 3 pn))))
    refine ⟨b1, ?_⟩
    refine dt 4 rfl i0 c0 (want_n rfl) (fun x hx => m_fieldV (v := .int .i64 (((nth ((nthS t0 1).2.2) (((nthS t0 1).2.2).length - 1)).K))) (sy c0) c0 rfl rfl rfl (fun _ => by kernel_rfl) (by decide) gt) b1 (fun n0 j0 => ?_)
    refine dt 5 rfl i0 j0 (want_n rfl) (fun x hx => r_eql (sy j0) j0 rfl rfl rfl rfl (by decide) gt) b1 (fun n0 c0 => ?_)
    rcases Decidable.em ((((nth ((nthS t0 1).2.2) (((nthS t0 1).2.2).length - 1)).K)) = 29) with n0 | n0
    ·
     have j0 : (((m) % 3 : Nat) : Int) = 2 := (by have z := i1; omega)
     have q0 := c0.setb (d := 128) (b := true) rfl (decide_eq_true n0)
     have p0 := q0.setb (d := 131) (b := true) rfl (decide_eq_true j0)
     refine dt 9 rfl i0 p0 (want_n rfl) (fun x hx => r_neqB (sy p0) p0 rfl rfl rfl rfl Tryd.underlying4 (by decide) gt) b1 (fun q0 k1 => ?_)
     refine dtM 10 i0 k1 b1 (fun q0 p0 => ?_)
     refine dtM 11 i0 p0 b1 (fun q0 k1 => ?_) (hw := wt p0)
     refine dt 12 rfl i0 k1 (wt k1) (fun x hx => m_index (i := 2) (j := 2 * 1) (sy k1) k1 rfl rfl rfl rfl Tryd.underlying39 sz22 (by omega) (by omega) (ss_elem (t := t0) (k := 2) (sdat (o0 15 _ rfl) hx.ag).2 (by omega)).some_ rfl (by decide) gt) b1 (fun q0 p0 => ?_)
     refine dt 13 rfl i0 p0 (wt p0) (fun x hx => m_loadE (sy p0) p0 rfl rfl rfl 0 (2 * 1) (ss_elem (t := t0) (k := 2) (sdat (o0 15 _ rfl) hx.ag).2 (by omega)) rfl rfl Tryd.underlying22 rfl (by decide) gt) b1 (fun q0 k1 => ?_)
     have q0 := h1.data (dRow 4 ((nthS t0 2).1) ((nthS t0 2).2.2.length) ((nthS t0 2).2.1) (encNs ((nthS t0 2).2.2))) (all_at (t := t0) (k := 2) (h1.get (i := 16) rfl) (by omega))
     refine dtF 17 1 i0 k1 b1 Tryd.underlying32 sz3 (fun p0 m1 => ?_) (hw := wt k1)
     refine dtC 18 1 i0 m1 b1 Tryd.underlying3 (fun p0 k1 => ?_) (hw := wt m1)
     refine dt 19 rfl i0 k1 (wt k1) (fun x hx => r_eql (sy k1) k1 rfl rfl rfl rfl (by decide) gt) b1 (fun p0 m1 => ?_)
     refine d1 14 ?_
     have p0 := q0.nf
     refine k_call (xs := [.tmp 136]) (st_op rfl (wt m1)) m1 rfl rfl rfl (by decide) ok23 (rroot_calls _ _ p0.il _ _ ((nthS t0 2).2.2) (p0.g 22) (hl := (by omega)) (h0 := (by omega))) ?_
     rintro m1 q0 ⟨rfl, k1⟩
     have q0 := p0.below k1.below
     refine ⟨_, rfl, fun k1 p0 => ?_⟩
     have k1 := sWI q0 20 (pc 1 0 (pc 1 1 (pc 1 2 (pc 1 3 pn))))
     refine ⟨k1, ?_⟩
     refine dt 15 rfl i0 p0 (wt p0) (fun x hx => m_fieldV (v := .int .i64 (((nth ((nthS t0 2).2.2) (((nthS t0 2).2.2).length - 1)).K))) (sy p0) p0 rfl rfl rfl (fun _ => by kernel_rfl) (by decide) gt) k1 (fun m1 o1 => ?_)
     refine dt 16 rfl i0 o1 (wt o1) (fun x hx => r_eql (sy o1) o1 rfl rfl rfl rfl (by decide) gt) k1 (fun m1 p0 => ?_)
     rcases Decidable.em ((((nth ((nthS t0 2).2.2) (((nthS t0 2).2.2).length - 1)).K)) = 29) with m1 | m1
     ·
      have o1 : (((m) % 3 : Nat) : Int) = 1 := (by have z := i2; omega)
      have p1 := p0.setb (d := 139) (b := true) rfl (decide_eq_true m1)
      have q1 := p1.setb (d := 142) (b := true) rfl (decide_eq_true o1)
      refine dt 20 rfl i0 q1 (wt p0) (fun x hx => r_neqB (sy q1) q1 rfl rfl rfl rfl Tryd.underlying4 (by decide) gt) k1 (fun p1 o1 => ?_)
      refine dtQ 21 i0 o1 k1 (fun p1 q1 => ?_)
      refine wpAnyH_done (by kernel_rfl) (c1 _ _ ?_) _
      refine x_then_n (j1 _ _ ?_)
      refine wp_cond_false (q1.ev rfl) ?_
      refine wp_skip ?_
      refine x_then_n (u0 _ _ ?_)
      refine wp_seq_k (fun p1 o1 => ?_)
      refine wsc (fun o1 p1 => ?_)
      refine m_field (j' := 1) sv q1 rfl rfl rfl Tryd.underlying32 rfl sz3 rfl rfl (by decide) (fun o1 s1 => ?_)
      refine m_load (i := 1) sv s1 q0 rfl rfl rfl rfl rfl Tryd.underlying3 rfl (by decide) (fun o1 q1 => ?_)
      refine r_eql sv q1 rfl rfl rfl rfl (by decide) (fun o1 s1 => ?_)
      refine wpList_nil (x_then_n (p1 _ _ ?_))
      have p1 := s1.setb (d := 147) (b := true) rfl (decide_eq_true j0)
      refine wp_cond_true (p1.ev rfl) ?_
      refine wsc (fun s1 o1 => ?_)
      refine asg p1 (fun s1 q1 => ?_)
      refine wpList_nil (x_then_n (o1 _ _ ?_))
      refine wp_ret ?_
      refine x_then_r ?_
      refine e_ret1 q1 rfl rfl rfl ?_
      refine ⟨?_, q0.fr⟩
      exact congrArg Ending.returned (ret_b (by rfl))
     ·
      have q1 : ¬ ((((m) % 3 : Nat) : Int) = 1) := (by have z := i2; omega)
      have o1 := p0.setb (d := 139) (b := false) rfl (decide_eq_false m1)
      have m1 := o1.setb (d := 142) (b := false) rfl (decide_eq_false q1)
      refine dt 20 rfl i0 m1 (wt p0) (fun x hx => r_neqB (sy m1) m1 rfl rfl rfl rfl Tryd.underlying4 (by decide) gt) k1 (fun o1 q1 => ?_)
      refine dtQ 21 i0 q1 k1 (fun o1 m1 => ?_)
      refine wpAnyH_done (by kernel_rfl) (c1 _ _ ?_) _
      refine x_then_n (j1 _ _ ?_)
      refine wp_cond_false (m1.ev rfl) ?_
      refine wp_skip ?_
      refine x_then_n (u0 _ _ ?_)
      refine wp_seq_k (fun o1 q1 => ?_)
      refine wsc (fun q1 o1 => ?_)
      refine m_field (j' := 1) sv m1 rfl rfl rfl Tryd.underlying32 rfl sz3 rfl rfl (by decide) (fun q1 k1 => ?_)
      refine m_load (i := 1) sv k1 q0 rfl rfl rfl rfl rfl Tryd.underlying3 rfl (by decide) (fun q1 m1 => ?_)
      refine r_eql sv m1 rfl rfl rfl rfl (by decide) (fun q1 k1 => ?_)
      refine wpList_nil (x_then_n (o1 _ _ ?_))
      have o1 := k1.setb (d := 147) (b := true) rfl (decide_eq_true j0)
      refine wp_cond_true (o1.ev rfl) ?_
      refine wsc (fun k1 j0 => ?_)
      refine asg o1 (fun k1 q1 => ?_)
      refine wpList_nil (x_then_n (j0 _ _ ?_))
      refine wp_ret ?_
      refine x_then_r ?_
      refine e_ret1 q1 rfl rfl rfl ?_
      refine ⟨?_, q0.fr⟩
      exact congrArg Ending.returned (ret_b (by rfl))
    ·
     have q0 : ¬ ((((m) % 3 : Nat) : Int) = 2) := (by have z := i1; omega)
     have q1 := c0.setb (d := 128) (b := false) rfl (decide_eq_false n0)
     have n0 := q1.setb (d := 131) (b := false) rfl (decide_eq_false q0)
     refine dt 9 rfl i0 n0 (want_n rfl) (fun x hx => r_neqB (sy n0) n0 rfl rfl rfl rfl Tryd.underlying4 (by decide) gt) b1 (fun q1 c0 => ?_)
     refine dtM 10 i0 c0 b1 (fun q1 n0 => ?_)
     refine dtM 11 i0 n0 b1 (fun q1 c0 => ?_) (hw := wt n0)
     refine dt 12 rfl i0 c0 (wt c0) (fun x hx => m_index (i := 2) (j := 2 * 1) (sy c0) c0 rfl rfl rfl rfl Tryd.underlying39 sz22 (by omega) (by omega) (ss_elem (t := t0) (k := 2) (sdat (o0 15 _ rfl) hx.ag).2 (by omega)).some_ rfl (by decide) gt) b1 (fun q1 n0 => ?_)
     refine dt 13 rfl i0 n0 (wt n0) (fun x hx => m_loadE (sy n0) n0 rfl rfl rfl 0 (2 * 1) (ss_elem (t := t0) (k := 2) (sdat (o0 15 _ rfl) hx.ag).2 (by omega)) rfl rfl Tryd.underlying22 rfl (by decide) gt) b1 (fun q1 c0 => ?_)
     have q1 := h1.data (dRow 4 ((nthS t0 2).1) ((nthS t0 2).2.2.length) ((nthS t0 2).2.1) (encNs ((nthS t0 2).2.2))) (all_at (t := t0) (k := 2) (h1.get (i := 16) rfl) (by omega))
     refine dtF 17 1 i0 c0 b1 Tryd.underlying32 sz3 (fun h1 n0 => ?_) (hw := wt c0)
     refine dtC 18 1 i0 n0 b1 Tryd.underlying3 (fun h1 c0 => ?_) (hw := wt n0)
     refine dt 19 rfl i0 c0 (wt c0) (fun x hx => r_eql (sy c0) c0 rfl rfl rfl rfl (by decide) gt) b1 (fun h1 n0 => ?_)
     refine d1 14 ?_
     have h1 := q1.nf
     refine k_call (xs := [.tmp 136]) (st_op rfl (wt n0)) n0 rfl rfl rfl (by decide) ok23 (rroot_calls _ _ h1.il _ _ ((nthS t0 2).2.2) (h1.g 22) (hl := (by omega)) (h0 := (by omega))) ?_
     rintro n0 q1 ⟨rfl, c0⟩
     have q1 := h1.below c0.below
     refine ⟨_, rfl, fun c0 h1 => ?_⟩
     have c0 := sWI q1 20 (pc 1 0 (pc 1 1 (pc 1 2 (pc 1 3 pn))))
     refine ⟨c0, ?_⟩
     refine dt 15 rfl i0 h1 (wt h1) (fun x hx => m_fieldV (v := .int .i64 (((nth ((nthS t0 2).2.2) (((nthS t0 2).2.2).length - 1)).K))) (sy h1) h1 rfl rfl rfl (fun _ => by kernel_rfl) (by decide) gt) c0 (fun n0 b1 => ?_)
     refine dt 16 rfl i0 b1 (wt b1) (fun x hx => r_eql (sy b1) b1 rfl rfl rfl rfl (by decide) gt) c0 (fun n0 h1 => ?_)
     rcases Decidable.em ((((nth ((nthS t0 2).2.2) (((nthS t0 2).2.2).length - 1)).K)) = 29) with n0 | n0
     ·
      have b1 : (((m) % 3 : Nat) : Int) = 1 := (by have z := i2; omega)
      have o0 := h1.setb (d := 139) (b := true) rfl (decide_eq_true n0)
      have j0 := o0.setb (d := 142) (b := true) rfl (decide_eq_true b1)
      refine dt 20 rfl i0 j0 (wt h1) (fun x hx => r_neqB (sy j0) j0 rfl rfl rfl rfl Tryd.underlying4 (by decide) gt) c0 (fun o0 b1 => ?_)
      refine dtQ 21 i0 b1 c0 (fun o0 j0 => ?_)
      refine wpAnyH_done (by kernel_rfl) (c1 _ _ ?_) _
      refine x_then_n (j1 _ _ ?_)
      refine wp_cond_false (j0.ev rfl) ?_
      refine wp_skip ?_
      refine x_then_n (u0 _ _ ?_)
      refine wp_seq_k (fun o0 b1 => ?_)
      refine wsc (fun o0 k1 => ?_)
      refine m_field (j' := 1) sv j0 rfl rfl rfl Tryd.underlying32 rfl sz3 rfl rfl (by decide) (fun o0 o1 => ?_)
      refine m_load (i := 1) sv o1 q1 rfl rfl rfl rfl rfl Tryd.underlying3 rfl (by decide) (fun o0 j0 => ?_)
      refine r_eql sv j0 rfl rfl rfl rfl (by decide) (fun o0 o1 => ?_)
      refine wpList_nil (x_then_n (k1 _ _ ?_))
      have k1 := o1.setb (d := 147) (b := false) rfl (decide_eq_false q0)
      refine wp_cond_false (k1.ev rfl) ?_
      refine wp_skip ?_
      refine x_then_n (b1 _ _ ?_)
      refine wsc (fun b1 o1 => ?_)
      refine mv k1 (fun b1 o0 => ?_)
      refine m_index (i := 1) (j := 1 * 1) sv o0 rfl rfl rfl rfl Tryd.underlying39 sz22 (by omega) (by omega) (ss_elem (t := t0) (k := 1) (q1.row (i := 15) rfl).2 (by omega)).some_ rfl (by decide) (fun b1 k1 => ?_)
      refine m_loadE sv k1 rfl rfl rfl 0 (1 * 1) (ss_elem (t := t0) (k := 1) (q1.row (i := 15) rfl).2 (by omega)) rfl rfl Tryd.underlying22 rfl (by decide) (fun b1 o0 => ?_)
      have b1 := q1.data (dRow 4 ((nthS t0 1).1) ((nthS t0 1).2.2.length) ((nthS t0 1).2.1) (encNs ((nthS t0 1).2.2))) (all_at (t := t0) (k := 1) (q1.get (i := 16) rfl) (by omega))
      have k1 := b1.nf
      refine k_call (xs := [.tmp 150]) se o0 rfl rfl rfl (by decide) ok32 (rparts_calls _ _ k1.il _ _ ((nthS t0 1).2.2) (k1.g 23) (hl := (by omega)) (hsm := (by exact y6)) (hb := (by exact y5))) ?_
      rintro o0 b1 ⟨j0, m1, p0, rfl, s1, p1, t1, u1⟩
      have m1 := k1.below s1.below
      have s1 := k1.dN m1 p1
      have m1 := k1.dN s1 t1
      refine ⟨_, rfl, fun s1 t1 => ?_⟩
      obtain ⟨n4, f0, f1, ⟨v0, v1, v2, v3⟩, v4, v5, f3, f4⟩ := cp_parts2 hm3 hqa hqb hqc hqd hqt m0 (by omega) d0 y6 y1 u1
      refine asg t1 (fun u1 s1 => ?_)
      refine wpList_nil (x_then_n (o1 _ _ ?_))
      refine wsc (fun o1 u1 => ?_)
      refine mv s1 (fun o1 t1 => ?_)
      refine r_len sv t1 rfl rfl rfl rfl Tryd.underlying39 (by decide) (fun o1 s1 => ?_)
      refine r_eql sv s1 rfl rfl rfl rfl (by decide) (fun o1 t1 => ?_)
      refine mv t1 (fun o1 s1 => ?_)
      have o1 : ((p0.length : Nat) : Int) = 4 := by omega
      have t1 := s1.setb (d := 155) (b := true) rfl (decide_eq_true o1)
      refine r_move (st_listV_w (wt t1)) t1 rfl rfl rfl (by decide) (fun o1 s1 => ?_)
      refine m_index (i := 0) (j := 0 * 1) (st_listV_w (wt s1)) s1 rfl rfl rfl rfl Tryd.underlying39 sz22 (by omega) (by omega) (ss_elem (t := p0) (k := 0) (m1.row (i := 24) rfl).2 (by omega)).some_ rfl (by decide) (fun o1 t1 => ?_)
      refine m_loadE (st_listV_w (wt t1)) t1 rfl rfl rfl 0 (0 * 1) (ss_elem (t := p0) (k := 0) (m1.row (i := 24) rfl).2 (by omega)) rfl rfl Tryd.underlying22 rfl (by decide) (fun o1 s1 => ?_)
      have o1 := m1.data (dRow 4 ((nthS p0 0).1) ((nthS p0 0).2.2.length) ((nthS p0 0).2.1) (encNs ((nthS p0 0).2.2))) (all_at (t := p0) (k := 0) (m1.get (i := 25) rfl) (by omega))
      refine r_move (st_listV_w (wt s1)) s1 rfl rfl rfl (by decide) (fun m1 t1 => ?_)
      have m1 := o1.nf
      refine k_call (xs := [.tmp 158, .tmp 159]) (st_list_w (wt t1)) t1 rfl rfl rfl (by decide) ok30 (rsame_calls _ _ m1.il _ _ ((nthS p0 0).2.2) _ _ _ (m1.g 26) (m1.g 1) (hl := (by omega))) ?_
      rintro t1 o1 ⟨rfl, s1⟩
      have o1 := m1.below s1.below
      refine ⟨_, rfl, fun s1 m1 => ?_⟩
      refine r_pick_t sv m1 rfl rfl rfl rfl (by decide) (fun s1 t1 => ?_)
      refine mv t1 (fun s1 m1 => ?_)
      have s1 : (decide (((nthS p0 0).2.2) = a)) = true := decide_eq_true f0
      have t1 := of_decide_eq_true s1
      have t1 := m1.setb (d := 162) (b := true) rfl s1
      refine r_move (st_listV_w (wt t1)) t1 rfl rfl rfl (by decide) (fun s1 m1 => ?_)
      refine m_index (i := 1) (j := 1 * 1) (st_listV_w (wt m1)) m1 rfl rfl rfl rfl Tryd.underlying39 sz22 (by omega) (by omega) (ss_elem (t := p0) (k := 1) (o1.row (i := 24) rfl).2 (by omega)).some_ rfl (by decide) (fun s1 t1 => ?_)
      refine m_loadE (st_listV_w (wt t1)) t1 rfl rfl rfl 0 (1 * 1) (ss_elem (t := p0) (k := 1) (o1.row (i := 24) rfl).2 (by omega)) rfl rfl Tryd.underlying22 rfl (by decide) (fun s1 m1 => ?_)
      have s1 := o1.data (dRow 4 ((nthS p0 1).1) ((nthS p0 1).2.2.length) ((nthS p0 1).2.1) (encNs ((nthS p0 1).2.2))) (all_at (t := p0) (k := 1) (o1.get (i := 25) rfl) (by omega))
      refine r_move (st_listV_w (wt m1)) m1 rfl rfl rfl (by decide) (fun o1 t1 => ?_)
      have o1 := s1.nf
      refine k_call (xs := [.tmp 165, .tmp 166]) (st_list_w (wt t1)) t1 rfl rfl rfl (by decide) ok30 (rsame_calls _ _ o1.il _ _ ((nthS p0 1).2.2) _ _ _ (o1.g 27) (o1.g 3) (hl := (by omega))) ?_
      rintro t1 s1 ⟨rfl, m1⟩
      have s1 := o1.below m1.below
      refine ⟨_, rfl, fun m1 o1 => ?_⟩
      refine r_pick_t sv o1 rfl rfl rfl rfl (by decide) (fun m1 t1 => ?_)
      refine mv t1 (fun m1 o1 => ?_)
      have m1 : (decide (((nthS p0 1).2.2) = c)) = true := decide_eq_true f1
      have t1 := of_decide_eq_true m1
      have t1 := o1.setb (d := 169) (b := true) rfl m1
      refine r_move (st_listV_w (wt t1)) t1 rfl rfl rfl (by decide) (fun m1 o1 => ?_)
      refine m_index (i := 3) (j := 3 * 1) (st_listV_w (wt o1)) o1 rfl rfl rfl rfl Tryd.underlying39 sz22 (by omega) (by omega) (ss_elem (t := p0) (k := 3) (s1.row (i := 24) rfl).2 (by omega)).some_ rfl (by decide) (fun m1 t1 => ?_)
      refine m_loadE (st_listV_w (wt t1)) t1 rfl rfl rfl 0 (3 * 1) (ss_elem (t := p0) (k := 3) (s1.row (i := 24) rfl).2 (by omega)) rfl rfl Tryd.underlying22 rfl (by decide) (fun m1 o1 => ?_)
      have m1 := s1.data (dRow 4 ((nthS p0 3).1) ((nthS p0 3).2.2.length) ((nthS p0 3).2.1) (encNs ((nthS p0 3).2.2))) (all_at (t := p0) (k := 3) (s1.get (i := 25) rfl) (by omega))
      have s1 := m1.nf
      refine k_call (xs := [.tmp 172]) (st_list_w (wt o1)) o1 rfl rfl rfl (by decide) ok23 (rroot_calls _ _ s1.il _ _ ((nthS p0 3).2.2) (s1.g 28) (hl := (by omega)) (h0 := (by omega))) ?_
      rintro o1 m1 ⟨rfl, t1⟩
      have m1 := s1.below t1.below
      refine ⟨_, rfl, fun t1 s1 => ?_⟩
      refine m_fieldV (v := .int .i64 (((nth ((nthS p0 3).2.2) (((nthS p0 3).2.2).length - 1)).K))) (st_listV_w (wt s1)) s1 rfl rfl rfl (fun _ => by kernel_rfl) (by decide) (fun t1 o1 => ?_)
      refine r_eql (st_listV_w (wt o1)) o1 rfl rfl rfl rfl (by decide) (fun t1 s1 => ?_)
      refine r_pick_t sv s1 rfl rfl rfl rfl (by decide) (fun t1 o1 => ?_)
      refine mv o1 (fun t1 s1 => ?_)
      have t1 : (((nth ((nthS p0 3).2.2) (((nthS p0 3).2.2).length - 1)).K)) = 8 := f3
      have o1 := s1.setb (d := 177) (b := true) rfl (decide_eq_true t1)
      refine r_move (st_listV_w (wt o1)) o1 rfl rfl rfl (by decide) (fun t1 s1 => ?_)
      refine m_index (i := 3) (j := 3 * 1) (st_listV_w (wt s1)) s1 rfl rfl rfl rfl Tryd.underlying39 sz22 (by omega) (by omega) (ss_elem (t := p0) (k := 3) (m1.row (i := 24) rfl).2 (by omega)).some_ rfl (by decide) (fun t1 o1 => ?_)
      refine m_loadE (st_listV_w (wt o1)) o1 rfl rfl rfl 0 (3 * 1) (ss_elem (t := p0) (k := 3) (m1.row (i := 24) rfl).2 (by omega)) rfl rfl Tryd.underlying22 rfl (by decide) (fun t1 s1 => ?_)
      have t1 := m1.data (dRow 4 ((nthS p0 3).1) ((nthS p0 3).2.2.length) ((nthS p0 3).2.1) (encNs ((nthS p0 3).2.2))) (all_at (t := p0) (k := 3) (m1.get (i := 25) rfl) (by omega))
      have m1 := t1.nf
      refine k_call (xs := [.tmp 180]) (st_list_w (wt s1)) s1 rfl rfl rfl (by decide) ok32 (rparts_calls _ _ m1.il _ _ ((nthS p0 3).2.2) (m1.g 29) (hl := (by omega)) (hsm := (by exact v5)) (hb := (by exact v4))) ?_
      rintro s1 p0 ⟨t1, o1, k1, rfl, p1, j0, b1, o0⟩
      have o1 := m1.below p1.below
      have p1 := m1.dN o1 j0
      have o1 := m1.dN p1 b1
      refine ⟨_, rfl, fun p1 b1 => ?_⟩
      obtain ⟨n1, z0⟩ := cp_parts3 f4 o0
      have z1 : (nthS k1 0).2.2.length ≤ 4000 := by rw [z0]; omega
      refine m_index (i := 0) (j := 0 * 1) (st_listV_w (wt b1)) b1 rfl rfl rfl rfl Tryd.underlying39 sz22 (by omega) (by omega) (ss_elem (t := k1) (k := 0) (o1.row (i := 30) rfl).2 (by omega)).some_ rfl (by decide) (fun o0 p1 => ?_)
      refine m_loadE (st_listV_w (wt p1)) p1 rfl rfl rfl 0 (0 * 1) (ss_elem (t := k1) (k := 0) (o1.row (i := 30) rfl).2 (by omega)) rfl rfl Tryd.underlying22 rfl (by decide) (fun o0 b1 => ?_)
      have o0 := o1.data (dRow 4 ((nthS k1 0).1) ((nthS k1 0).2.2.length) ((nthS k1 0).2.1) (encNs ((nthS k1 0).2.2))) (all_at (t := k1) (k := 0) (o1.get (i := 31) rfl) (by omega))
      refine r_move (st_listV_w (wt b1)) b1 rfl rfl rfl (by decide) (fun o1 p1 => ?_)
      have o1 := o0.nf
      refine k_call (xs := [.tmp 183, .tmp 184]) (st_list_w (wt p1)) p1 rfl rfl rfl (by decide) ok30 (rsame_calls _ _ o1.il _ _ ((nthS k1 0).2.2) _ _ _ (o1.g 32) (o1.g 5) (hl := (by omega))) ?_
      rintro p1 o0 ⟨rfl, b1⟩
      have o0 := o1.below b1.below
      refine ⟨_, rfl, fun b1 o1 => ?_⟩
      refine r_pick_t sv o1 rfl rfl rfl rfl (by decide) (fun b1 p1 => ?_)
      refine asg p1 (fun b1 o1 => ?_)
      refine wpList_nil (x_then_n (u1 _ _ ?_))
      refine wp_ret ?_
      refine e_ret1 o1 rfl rfl rfl ?_
      have o1 : (decide (((nthS k1 0).2.2) = t)) = true := decide_eq_true z0
      refine ⟨?_, o0.fr⟩
      exact congrArg Ending.returned (ret_b (by omega))
     ·
      have o0 : ¬ ((((m) % 3 : Nat) : Int) = 1) := (by have z := i2; omega)
      have o1 := h1.setb (d := 139) (b := false) rfl (decide_eq_false n0)
      have n0 := o1.setb (d := 142) (b := false) rfl (decide_eq_false o0)
      refine dt 20 rfl i0 n0 (wt h1) (fun x hx => r_neqB (sy n0) n0 rfl rfl rfl rfl Tryd.underlying4 (by decide) gt) c0 (fun o1 o0 => ?_)
      refine dtQ 21 i0 o0 c0 (fun o1 n0 => ?_)
      refine wpAnyH_done (by kernel_rfl) (c1 _ _ ?_) _
      refine x_then_n (j1 _ _ ?_)
      refine wp_cond_false (n0.ev rfl) ?_
      refine wp_skip ?_
      refine x_then_n (u0 _ _ ?_)
      refine wp_seq_k (fun u0 j1 => ?_)
      refine wsc (fun u0 c1 => ?_)
      refine m_field (j' := 1) sv n0 rfl rfl rfl Tryd.underlying32 rfl sz3 rfl rfl (by decide) (fun u0 o1 => ?_)
      refine m_load (i := 1) sv o1 q1 rfl rfl rfl rfl rfl Tryd.underlying3 rfl (by decide) (fun u0 n0 => ?_)
      refine r_eql sv n0 rfl rfl rfl rfl (by decide) (fun u0 o1 => ?_)
      refine wpList_nil (x_then_n (c1 _ _ ?_))
      have c1 := o1.setb (d := 147) (b := false) rfl (decide_eq_false q0)
      refine wp_cond_false (c1.ev rfl) ?_
      refine wp_skip ?_
      refine x_then_n (j1 _ _ ?_)
      refine wsc (fun j1 o1 => ?_)
      refine mv c1 (fun j1 q0 => ?_)
      refine m_index (i := 1) (j := 1 * 1) sv q0 rfl rfl rfl rfl Tryd.underlying39 sz22 (by omega) (by omega) (ss_elem (t := t0) (k := 1) (q1.row (i := 15) rfl).2 (by omega)).some_ rfl (by decide) (fun j1 c1 => ?_)
      refine m_loadE sv c1 rfl rfl rfl 0 (1 * 1) (ss_elem (t := t0) (k := 1) (q1.row (i := 15) rfl).2 (by omega)) rfl rfl Tryd.underlying22 rfl (by decide) (fun j1 q0 => ?_)
      have j1 := q1.data (dRow 4 ((nthS t0 1).1) ((nthS t0 1).2.2.length) ((nthS t0 1).2.1) (encNs ((nthS t0 1).2.2))) (all_at (t := t0) (k := 1) (q1.get (i := 16) rfl) (by omega))
      have q1 := j1.nf
      refine k_call (xs := [.tmp 150]) se q0 rfl rfl rfl (by decide) ok32 (rparts_calls _ _ q1.il _ _ ((nthS t0 1).2.2) (q1.g 23) (hl := (by omega)) (hsm := (by exact y6)) (hb := (by exact y5))) ?_
      rintro q0 t0 ⟨j1, c1, u0, rfl, n0, o0, c0, i0⟩
      have c1 := q1.below n0.below
      have n0 := q1.dN c1 o0
      have c1 := q1.dN n0 c0
      refine ⟨_, rfl, fun n0 c0 => ?_⟩
      obtain ⟨n4, f0, f1, ⟨v0, v1, v2, v3⟩, v4, v5, f3, f4⟩ := cp_parts2 hm3 hqa hqb hqc hqd hqt m0 (by omega) d0 y6 y1 i0
      refine asg c0 (fun i0 d0 => ?_)
      refine wpList_nil (x_then_n (o1 _ _ ?_))
      refine wsc (fun o1 i0 => ?_)
      refine mv d0 (fun o1 c0 => ?_)
      refine r_len sv c0 rfl rfl rfl rfl Tryd.underlying39 (by decide) (fun o1 d0 => ?_)
      refine r_eql sv d0 rfl rfl rfl rfl (by decide) (fun o1 c0 => ?_)
      refine mv c0 (fun o1 d0 => ?_)
      have o1 : ((u0.length : Nat) : Int) = 4 := by omega
      have c0 := d0.setb (d := 155) (b := true) rfl (decide_eq_true o1)
      refine r_move (st_listV_w (wt c0)) c0 rfl rfl rfl (by decide) (fun o1 d0 => ?_)
      refine m_index (i := 0) (j := 0 * 1) (st_listV_w (wt d0)) d0 rfl rfl rfl rfl Tryd.underlying39 sz22 (by omega) (by omega) (ss_elem (t := u0) (k := 0) (c1.row (i := 24) rfl).2 (by omega)).some_ rfl (by decide) (fun o1 c0 => ?_)
      refine m_loadE (st_listV_w (wt c0)) c0 rfl rfl rfl 0 (0 * 1) (ss_elem (t := u0) (k := 0) (c1.row (i := 24) rfl).2 (by omega)) rfl rfl Tryd.underlying22 rfl (by decide) (fun o1 d0 => ?_)
      have o1 := c1.data (dRow 4 ((nthS u0 0).1) ((nthS u0 0).2.2.length) ((nthS u0 0).2.1) (encNs ((nthS u0 0).2.2))) (all_at (t := u0) (k := 0) (c1.get (i := 25) rfl) (by omega))
      refine r_move (st_listV_w (wt d0)) d0 rfl rfl rfl (by decide) (fun c1 c0 => ?_)
      have c1 := o1.nf
      refine k_call (xs := [.tmp 158, .tmp 159]) (st_list_w (wt c0)) c0 rfl rfl rfl (by decide) ok30 (rsame_calls _ _ c1.il _ _ ((nthS u0 0).2.2) _ _ _ (c1.g 26) (c1.g 1) (hl := (by omega))) ?_
      rintro c0 o1 ⟨rfl, d0⟩
      have o1 := c1.below d0.below
      refine ⟨_, rfl, fun d0 c1 => ?_⟩
      refine r_pick_t sv c1 rfl rfl rfl rfl (by decide) (fun d0 c0 => ?_)
      refine mv c0 (fun d0 c1 => ?_)
      have d0 : (decide (((nthS u0 0).2.2) = a)) = true := decide_eq_true f0
      have c0 := of_decide_eq_true d0
      have c0 := c1.setb (d := 162) (b := true) rfl d0
      refine r_move (st_listV_w (wt c0)) c0 rfl rfl rfl (by decide) (fun d0 c1 => ?_)
      refine m_index (i := 1) (j := 1 * 1) (st_listV_w (wt c1)) c1 rfl rfl rfl rfl Tryd.underlying39 sz22 (by omega) (by omega) (ss_elem (t := u0) (k := 1) (o1.row (i := 24) rfl).2 (by omega)).some_ rfl (by decide) (fun d0 c0 => ?_)
      refine m_loadE (st_listV_w (wt c0)) c0 rfl rfl rfl 0 (1 * 1) (ss_elem (t := u0) (k := 1) (o1.row (i := 24) rfl).2 (by omega)) rfl rfl Tryd.underlying22 rfl (by decide) (fun d0 c1 => ?_)
      have d0 := o1.data (dRow 4 ((nthS u0 1).1) ((nthS u0 1).2.2.length) ((nthS u0 1).2.1) (encNs ((nthS u0 1).2.2))) (all_at (t := u0) (k := 1) (o1.get (i := 25) rfl) (by omega))
      refine r_move (st_listV_w (wt c1)) c1 rfl rfl rfl (by decide) (fun o1 c0 => ?_)
      have o1 := d0.nf
      refine k_call (xs := [.tmp 165, .tmp 166]) (st_list_w (wt c0)) c0 rfl rfl rfl (by decide) ok30 (rsame_calls _ _ o1.il _ _ ((nthS u0 1).2.2) _ _ _ (o1.g 27) (o1.g 3) (hl := (by omega))) ?_
      rintro c0 d0 ⟨rfl, c1⟩
      have d0 := o1.below c1.below
      refine ⟨_, rfl, fun c1 o1 => ?_⟩
      refine r_pick_t sv o1 rfl rfl rfl rfl (by decide) (fun c1 c0 => ?_)
      refine mv c0 (fun c1 o1 => ?_)
      have c1 : (decide (((nthS u0 1).2.2) = c)) = true := decide_eq_true f1
      have c0 := of_decide_eq_true c1
      have c0 := o1.setb (d := 169) (b := true) rfl c1
      refine r_move (st_listV_w (wt c0)) c0 rfl rfl rfl (by decide) (fun c1 o1 => ?_)
      refine m_index (i := 3) (j := 3 * 1) (st_listV_w (wt o1)) o1 rfl rfl rfl rfl Tryd.underlying39 sz22 (by omega) (by omega) (ss_elem (t := u0) (k := 3) (d0.row (i := 24) rfl).2 (by omega)).some_ rfl (by decide) (fun c1 c0 => ?_)
      refine m_loadE (st_listV_w (wt c0)) c0 rfl rfl rfl 0 (3 * 1) (ss_elem (t := u0) (k := 3) (d0.row (i := 24) rfl).2 (by omega)) rfl rfl Tryd.underlying22 rfl (by decide) (fun c1 o1 => ?_)
      have c1 := d0.data (dRow 4 ((nthS u0 3).1) ((nthS u0 3).2.2.length) ((nthS u0 3).2.1) (encNs ((nthS u0 3).2.2))) (all_at (t := u0) (k := 3) (d0.get (i := 25) rfl) (by omega))
      have d0 := c1.nf
      refine k_call (xs := [.tmp 172]) (st_list_w (wt o1)) o1 rfl rfl rfl (by decide) ok23 (rroot_calls _ _ d0.il _ _ ((nthS u0 3).2.2) (d0.g 28) (hl := (by omega)) (h0 := (by omega))) ?_
      rintro o1 c1 ⟨rfl, c0⟩
      have c1 := d0.below c0.below
      refine ⟨_, rfl, fun c0 d0 => ?_⟩
      refine m_fieldV (v := .int .i64 (((nth ((nthS u0 3).2.2) (((nthS u0 3).2.2).length - 1)).K))) (st_listV_w (wt d0)) d0 rfl rfl rfl (fun _ => by kernel_rfl) (by decide) (fun c0 o1 => ?_)
      refine r_eql (st_listV_w (wt o1)) o1 rfl rfl rfl rfl (by decide) (fun c0 d0 => ?_)
      refine r_pick_t sv d0 rfl rfl rfl rfl (by decide) (fun c0 o1 => ?_)
      refine mv o1 (fun c0 d0 => ?_)
      have c0 : (((nth ((nthS u0 3).2.2) (((nthS u0 3).2.2).length - 1)).K)) = 8 := f3
      have o1 := d0.setb (d := 177) (b := true) rfl (decide_eq_true c0)
      refine r_move (st_listV_w (wt o1)) o1 rfl rfl rfl (by decide) (fun c0 d0 => ?_)
      refine m_index (i := 3) (j := 3 * 1) (st_listV_w (wt d0)) d0 rfl rfl rfl rfl Tryd.underlying39 sz22 (by omega) (by omega) (ss_elem (t := u0) (k := 3) (c1.row (i := 24) rfl).2 (by omega)).some_ rfl (by decide) (fun c0 o1 => ?_)
      refine m_loadE (st_listV_w (wt o1)) o1 rfl rfl rfl 0 (3 * 1) (ss_elem (t := u0) (k := 3) (c1.row (i := 24) rfl).2 (by omega)) rfl rfl Tryd.underlying22 rfl (by decide) (fun c0 d0 => ?_)
      have c0 := c1.data (dRow 4 ((nthS u0 3).1) ((nthS u0 3).2.2.length) ((nthS u0 3).2.1) (encNs ((nthS u0 3).2.2))) (all_at (t := u0) (k := 3) (c1.get (i := 25) rfl) (by omega))
      have c1 := c0.nf
      refine k_call (xs := [.tmp 180]) (st_list_w (wt d0)) d0 rfl rfl rfl (by decide) ok32 (rparts_calls _ _ c1.il _ _ ((nthS u0 3).2.2) (c1.g 29) (hl := (by omega)) (hsm := (by exact v5)) (hb := (by exact v4))) ?_
      rintro d0 u0 ⟨c0, o1, m0, rfl, n0, q1, o0, j1⟩
      have o1 := c1.below n0.below
      have n0 := c1.dN o1 q1
      have o1 := c1.dN n0 o0
      refine ⟨_, rfl, fun n0 o0 => ?_⟩
      obtain ⟨n1, z0⟩ := cp_parts3 f4 j1
      have z1 : (nthS m0 0).2.2.length ≤ 4000 := by rw [z0]; omega
      refine m_index (i := 0) (j := 0 * 1) (st_listV_w (wt o0)) o0 rfl rfl rfl rfl Tryd.underlying39 sz22 (by omega) (by omega) (ss_elem (t := m0) (k := 0) (o1.row (i := 30) rfl).2 (by omega)).some_ rfl (by decide) (fun j1 n0 => ?_)
      refine m_loadE (st_listV_w (wt n0)) n0 rfl rfl rfl 0 (0 * 1) (ss_elem (t := m0) (k := 0) (o1.row (i := 30) rfl).2 (by omega)) rfl rfl Tryd.underlying22 rfl (by decide) (fun j1 o0 => ?_)
      have j1 := o1.data (dRow 4 ((nthS m0 0).1) ((nthS m0 0).2.2.length) ((nthS m0 0).2.1) (encNs ((nthS m0 0).2.2))) (all_at (t := m0) (k := 0) (o1.get (i := 31) rfl) (by omega))
      refine r_move (st_listV_w (wt o0)) o0 rfl rfl rfl (by decide) (fun o1 n0 => ?_)
      have o1 := j1.nf
      refine k_call (xs := [.tmp 183, .tmp 184]) (st_list_w (wt n0)) n0 rfl rfl rfl (by decide) ok30 (rsame_calls _ _ o1.il _ _ ((nthS m0 0).2.2) _ _ _ (o1.g 32) (o1.g 5) (hl := (by omega))) ?_
      rintro n0 j1 ⟨rfl, o0⟩
      have j1 := o1.below o0.below
      refine ⟨_, rfl, fun o0 o1 => ?_⟩
      refine r_pick_t sv o1 rfl rfl rfl rfl (by decide) (fun o0 n0 => ?_)
      refine asg n0 (fun o0 o1 => ?_)
      refine wpList_nil (x_then_n (i0 _ _ ?_))
      refine wp_ret ?_
      refine e_ret1 o1 rfl rfl rfl ?_
      have o1 : (decide (((nthS m0 0).2.2) = t)) = true := decide_eq_true z0
      refine ⟨?_, j1.fr⟩
      exact congrArg Ending.returned (ret_b (by omega))
   ·
    have j1 := x0.setb (d := 104) (b := true) rfl (by rw [(decide_eq_false k0)]; rfl)
    refine wp_cond_true (j1.ev rfl) ?_
    refine wsc (fun k0 x0 => ?_)
    refine mv j1 (fun k0 o1 => ?_)
    have k0 := b0.nf
    refine k_call (xs := [.tmp 105]) se o1 rfl rfl rfl (by decide) ok39 (great13_calls _ _ k0.il ((crE ((lsts ([((aA, ac, a) : Sl), ((bA, bc, b) : Sl)])).flatten ++ [(⟨6, (((m) % 3 : Nat) : Int), 0, (⟨#[]⟩ : ByteArray)⟩ : Nd)]) ((lsts ([((cA, cc, c) : Sl), ((dA, dc, d) : Sl)])).flatten ++ [(⟨6, (((m) % 3 : Nat) : Int), 0, (⟨#[]⟩ : ByteArray)⟩ : Nd)]) t))) ?_
    rintro o1 b0 ⟨rfl, j1⟩
    have b0 := k0.below j1.below
    refine ⟨_, rfl, fun j1 k0 => ?_⟩
    refine asg k0 (fun j1 o1 => ?_)
    refine wpList_nil (x_then_n (x0 _ _ ?_))
    refine wp_ret ?_
    refine x_then_r ?_
    refine e_ret1 o1 rfl rfl rfl ?_
    have o1 : (grB ((crE ((lsts ([((aA, ac, a) : Sl), ((bA, bc, b) : Sl)])).flatten ++ [(⟨6, (((m) % 3 : Nat) : Int), 0, (⟨#[]⟩ : ByteArray)⟩ : Nd)]) ((lsts ([((cA, cc, c) : Sl), ((dA, dc, d) : Sl)])).flatten ++ [(⟨6, (((m) % 3 : Nat) : Int), 0, (⟨#[]⟩ : ByteArray)⟩ : Nd)]) t))) = true := gr_of hge (by assumption)
    refine ⟨?_, b0.fr⟩
    exact congrArg Ending.returned (ret_b (by omega))
end Go.Proofs.YtobgdeffhdefeaaDoor
/- The table of shapes: from the row's list to cells; a world that holds it. -/
namespace Go.Proofs.YtobgdeffhdefeaaDoor
set_option linter.unusedSimpArgs false
set_option linter.unusedVariables false
open Go Go.RowKit Go.WideShapes Go.ChangeShapes
set_option maxRecDepth 100000
def shapeD (k : Nat) : DataW Unit := .agg [(match (shp k).b with | [] => .nil | b => .slice (lits .i64 b) []), .lit (.bool (shp k).n), .lit (.bool (shp k).m), .lit (.bool (shp k).s)]
theorem laid_eq : (Rows.laid_cornice_term_shapes : DataW Unit) = .agg ((List.range 30).map shapeD) := by kernel_rfl
theorem encIs_map (l : List Int) : encIs l = l.map (fun n => Value.int .i64 n) := by
 induction l with
 | nil => rfl
 | cons x t ih => rw [List.map_cons, ← ih]; rfl
theorem shape_cells {w : World} {base : Nat} {sp : Nat → Bool} {held : Bool} {n : Nat} {cs : List Value} {k : Nat} {p : List MemPlace}
  (h : DataW.trod (fun _ => ()) Tryd.prog w base sp held n 129 cs = some (shapeD k, p)) :
  ∃ (A : Option Addr) (cap : Nat), cs = [.slice A (shp k).b.length cap, .bool (shp k).n, .bool (shp k).m, .bool (shp k).s] ∧ (shp k).b.length ≤ cap ∧ RowI w (fun k => k < w.heap.size) 1 A (shp k).b.length (encIs (shp k).b) := by
 have hu : Tryd.prog.underlying 129 = some (.struct (Tryd.prog.fieldsOf 129)) := by kernel_rfl
 have hf : (Tryd.prog.fieldsOf 129).toList.map (fun f => (f.type, f.offset)) = [(66, 0), (4, 1), (4, 2), (4, 3)] := by kernel_rfl
 have hci : Tryd.prog.cellsOf 66 = 1 := by kernel_rfl
 have hci1 : Tryd.prog.cellsOf 3 = 1 := by kernel_rfl
 have hcs : Tryd.prog.cellsOf 4 = 1 := by kernel_rfl
 have hcn : Tryd.prog.cellsOf 129 = 4 := by kernel_rfl
 obtain ⟨xs, m, _, hx, hl, hxl, hg⟩ := DataW.trod_struct hu h
 rw [hcn] at hl
 have hd : xs.map (·.1) = [(match (shp k).b with | [] => .nil | b => .slice (lits .i64 b) []), .lit (.bool (shp k).n), .lit (.bool (shp k).m), .lit (.bool (shp k).s)] := by
  have := congrArg Prod.fst hx
  simp only [shapeD] at this
  injection this with h1
  exact h1.symm
 have fld : ∀ (j : Nat) (t : TypeId) (off : Nat), ((Tryd.prog.fieldsOf 129).toList.map (fun f => (f.type, f.offset)))[j]? = some (t, off) → DataW.trod (fun _ => ()) Tryd.prog w base sp held m t ((cs.drop off).take (Tryd.prog.cellsOf t)) = xs[j]? := by
  intro j t off hj
  rw [List.getElem?_map] at hj
  cases hfj : (Tryd.prog.fieldsOf 129).toList[j]? with
  | none => rw [hfj] at hj; cases hj
  | some f =>
   rw [hfj] at hj
   simp only [Option.map_some, Option.some.injEq, Prod.mk.injEq] at hj
   obtain ⟨rfl, rfl⟩ := hj
   exact hg j f (by rw [← Array.getElem?_toList]; exact hfj)
 rw [hf] at fld
 match cs, hl, xs, hd with
 | [c0, c1, c2, c3], _, [y0, y1, y2, y3], hd =>
  simp only [List.map_cons, List.map_nil, List.cons.injEq, and_true] at hd
  obtain ⟨d0, d1, d2, d3⟩ := hd
  have h0 := fld 0 _ _ rfl
  have h1 := fld 1 _ _ rfl
  have h2 := fld 2 _ _ rfl
  have h3 := fld 3 _ _ rfl
  rw [hci] at h0
  rw [hcs] at h1 h2 h3
  obtain ⟨b1, e1, f1⟩ := DataW.trod_bool Tryd.underlying4 h1
  obtain ⟨b2, e2, f2⟩ := DataW.trod_bool Tryd.underlying4 h2
  obtain ⟨b3, e3, f3⟩ := DataW.trod_bool Tryd.underlying4 h3
  simp at e1 e2 e3
  simp [f1] at d1
  simp [f2] at d2
  simp [f3] at d3
  subst e1 e2 e3 d1 d2 d3
  rcases open_ints Tryd.underlying66 Tryd.underlying3 hci1 h0 with ⟨hcs0, hy⟩ | ⟨a, len, cap, zs, hcs0, _, hle, _, hzl, hy, hcell, _⟩
  ·
   simp at hcs0
   subst hcs0
   rw [hy] at d0
   cases hb : (shp k).b with
   | nil => exact ⟨none, 0, by simp, by simp, by simp [encIs], fun h => absurd h (by simp)⟩
   | cons z zs => rw [hb] at d0; simp at d0
  ·
   simp at hcs0
   subst hcs0
   rw [hy] at d0
   cases hb : (shp k).b with
   | nil => rw [hb] at d0; simp at d0
   | cons z l =>
    rw [hb] at d0
    simp only [DataW.slice.injEq] at d0
    obtain ⟨d4, d5⟩ := d0
    have hinj : ∀ a b : List Int, (lits .i64 a : List (DataW Unit)) = lits .i64 b → a = b := by
     intro a
     induction a with
     | nil => intro b hb; cases b with
      | nil => rfl
      | cons _ _ => simp [lits] at hb
     | cons x a ih => intro b hb; cases b with
      | nil => simp [lits] at hb
      | cons y b =>
       simp only [lits, List.map_cons, List.cons.injEq, DataW.lit.injEq, Lit.int.injEq, true_and] at hb
       rw [hb.1, ih b hb.2]
    have d6 := hinj _ _ d4
    have hll : len = (z :: l).length := by
     have := congrArg List.length d6
     rw [List.length_take] at this
     have hz : len ≤ zs.length := by rw [hzl]; split <;> omega
     omega
    subst hll
    refine ⟨some a, cap, rfl, hle, by simp [encIs_length], fun _ => ⟨a, rfl, ?_, ?_⟩⟩
    ·
     have h9 := hcell 0 (by have hz2 : (z :: l).length ≤ zs.length := (by rw [hzl]; split <;> omega); rw [List.length_cons] at hz2; omega)
     have := lt_of_cell h9
     rwa [block_of_add] at this
    ·
     intro j u hu
     have hjl : j < (z :: l).length := by
      have := (List.getElem?_eq_some_iff.1 hu).1
      rw [encIs_length] at this
      simpa using this
     have hzz : (z :: l).length ≤ zs.length := by rw [hzl]; split <;> omega
     rw [hcell j (by omega)]
     have h8 : (z :: l)[j]? = zs[j]? := by rw [← d6, List.getElem?_take_of_lt hjl]
     have h7 := encIs_map (z :: l)
     rw [h7, List.getElem?_map, h8] at hu
     cases hq : zs[j]? with
     | none => rw [hq] at hu; simp at hu
     | some q =>
      rw [hq] at hu
      simp only [Option.map_some, Option.some.injEq] at hu
      rw [← hu, List.getD_eq_getElem?_getD, hq]
      rfl
theorem shapes_of_laid {W : World} (h : laidMetH Tryd.prog [("cornice/term.shapes", Rows.laid_cornice_term_shapes)] W) : Shapes W (fun k => k < W.heap.size) := by
 have h' : laidMet Tryd.prog [("cornice/term.shapes", Rows.laid_cornice_term_shapes)] W := h
 obtain ⟨ps, ⟨g, t, cs, fuel, p, q, hg, ht, hvar, hd, _, _⟩, _⟩ := h'
 have hg0 : Tryd.prog.globalNamed "cornice/term.shapes" = some 0 := by kernel_rfl
 have ht0 : (Tryd.prog.globals[0]?).map (·.type) = some 130 := by kernel_rfl
 obtain rfl : 0 = g := Option.some.inj (hg0.symm.trans hg)
 obtain rfl : 130 = t := Option.some.inj (ht0.symm.trans ht)
 have hcn : Tryd.prog.cellsOf 129 = 4 := by kernel_rfl
 have hct : Tryd.prog.cellsOf 130 = 120 := by kernel_rfl
 obtain ⟨xs, m, _, hx, hl, hxl, hi⟩ := DataW.trod_array Tryd.underlying130 hd
 rw [hct] at hl
 have hxd : xs.map (·.1) = (List.range 30).map shapeD := by
  have := congrArg Prod.fst hx
  simp only [laid_eq] at this
  injection this with h1
  exact h1.symm
 intro k hk
 have h1 := hi k hk
 rw [hcn] at h1
 have hkx : k < xs.length := by omega
 have h2 : xs[k]? = some (shapeD k, (xs[k]).2) := by
  rw [List.getElem?_eq_getElem hkx]
  have h3 : (xs.map (·.1))[k]? = some (shapeD k) := by rw [hxd]; simp [hk]
  rw [List.getElem?_map, List.getElem?_eq_getElem hkx] at h3
  simp only [Option.map_some, Option.some.injEq] at h3
  rw [← h3]
 rw [h2] at h1
 obtain ⟨A, cap, hcs, hle, hrow⟩ := shape_cells h1
 refine ⟨A, cap, ⟨hle, hrow⟩, ?_, ?_⟩
 ·
  have h4 := World.var?_cell hg hvar 0
  have h5 : cs[0]? ≠ none := by
   intro e
   rw [← Array.getElem?_toList, List.getElem?_eq_none_iff] at e
   omega
  cases h6 : cs[0]? with
  | none => exact absurd h6 h5
  | some v => rw [h6] at h4; exact lt_of_cell h4
 ·
  intro j u hu
  have hj : j < 4 := by
   have := (List.getElem?_eq_some_iff.1 hu).1
   simpa using this
  have h4 := World.var?_cell hg hvar (k * 4 + j)
  rw [← hcs, List.getElem?_take_of_lt hj, List.getElem?_drop, Array.getElem?_toList] at hu
  rw [hu] at h4
  rw [add_of_add]
  have : (⟨0, 0, none⟩ : Addr).add (k * 4 + j) = ⟨0, k * 4 + j, none⟩ := by unfold Addr.add; split <;> simp_all
  rw [this]
  exact h4
noncomputable def laidWorld (os : Os) : World :=
 { World.holding Tryd.prog os ⟨#[.cells #[.int .i64 0, .int .i64 1, .int .i64 0, .int .i64 1, .int .i64 0, .int .i64 0, .int .i64 0, .int .i64 1, .int .i64 0, .int .i64 0, .int .i64 0, .int .i64 0, .int .i64 0, .int .i64 0, .int .i64 1, .int .i64 0, .int .i64 2, .int .i64 0, .int .i64 0, .int .i64 0, .int .i64 0, .int .i64 0, .int .i64 0, .int .i64 0, .int .i64 0, .int .i64 0, .int .i64 0, .int .i64 0, .int .i64 0, .int .i64 0, .int .i64 0, .int .i64 1, .int .i64 0, .int .i64 0, .int .i64 0, .int .i64 0, .int .i64 2, .int .i64 0, .int .i64 0, .int .i64 0, .int .i64 0, .int .i64 0, .int .i64 0, .int .i64 1, .int .i64 0, .int .i64 0, .int .i64 0] 3], #[], []⟩ with heap := (World.holding Tryd.prog os ⟨#[.cells #[.int .i64 0, .int .i64 1, .int .i64 0, .int .i64 1, .int .i64 0, .int .i64 0, .int .i64 0, .int .i64 1, .int .i64 0, .int .i64 0, .int .i64 0, .int .i64 0, .int .i64 0, .int .i64 0, .int .i64 1, .int .i64 0, .int .i64 2, .int .i64 0, .int .i64 0, .int .i64 0, .int .i64 0, .int .i64 0, .int .i64 0, .int .i64 0, .int .i64 0, .int .i64 0, .int .i64 0, .int .i64 0, .int .i64 0, .int .i64 0, .int .i64 0, .int .i64 1, .int .i64 0, .int .i64 0, .int .i64 0, .int .i64 0, .int .i64 2, .int .i64 0, .int .i64 0, .int .i64 0, .int .i64 0, .int .i64 0, .int .i64 0, .int .i64 1, .int .i64 0, .int .i64 0, .int .i64 0] 3], #[], []⟩).heap.modify 0 fun
   | .cells _ t frozen => .cells #[.slice none 0 0, .bool true, .bool false, .bool false, .slice none 0 0, .bool false, .bool false, .bool true, .slice none 0 0, .bool true, .bool false, .bool false, .slice (some ⟨6, 0, none⟩) 2 2, .bool true, .bool false, .bool false, .slice (some ⟨6, 2, none⟩) 2 2, .bool false, .bool false, .bool false, .slice (some ⟨6, 4, none⟩) 2 2, .bool false, .bool false, .bool false, .slice (some ⟨6, 6, none⟩) 2 2, .bool true, .bool false, .bool false, .slice (some ⟨6, 8, none⟩) 3 3, .bool false, .bool false, .bool false, .slice (some ⟨6, 11, none⟩) 1 1, .bool false, .bool false, .bool false, .slice (some ⟨6, 12, none⟩) 1 1, .bool false, .bool false, .bool false, .slice none 0 0, .bool false, .bool false, .bool false, .slice none 0 0, .bool false, .bool false, .bool false, .slice (some ⟨6, 13, none⟩) 1 1, .bool false, .bool false, .bool false, .slice (some ⟨6, 14, none⟩) 4 4, .bool false, .bool false, .bool false, .slice none 0 0, .bool false, .bool false, .bool false, .slice (some ⟨6, 18, none⟩) 2 2, .bool false, .bool false, .bool false, .slice none 0 0, .bool false, .bool false, .bool false, .slice none 0 0, .bool false, .bool false, .bool false, .slice (some ⟨6, 20, none⟩) 3 3, .bool false, .bool false, .bool false, .slice (some ⟨6, 23, none⟩) 2 2, .bool false, .bool false, .bool false, .slice (some ⟨6, 25, none⟩) 4 4, .bool false, .bool false, .bool false, .slice (some ⟨6, 29, none⟩) 6 6, .bool false, .bool false, .bool false, .slice (some ⟨6, 35, none⟩) 5 5, .bool false, .bool false, .bool false, .slice (some ⟨6, 40, none⟩) 2 2, .bool false, .bool false, .bool false, .slice (some ⟨6, 42, none⟩) 4 4, .bool false, .bool false, .bool false, .slice none 0 0, .bool false, .bool false, .bool true, .slice none 0 0, .bool true, .bool true, .bool true, .slice none 0 0, .bool false, .bool true, .bool true, .slice (some ⟨6, 46, none⟩) 1 1, .bool false, .bool false, .bool false, .slice none 0 0, .bool false, .bool false, .bool false] t frozen
   | o => o }
end Go.Proofs.YtobgdeffhdefeaaDoor
/- The law CastrPairs: it returns true, whatever its arguments are, and they read as they did; the table of shapes holds what the program's text lays. -/
namespace Go.Proofs.YtobgdeffhdefeaaDoor.lawCastrPairs
open Go Go.RowKit Go.WideShapes Go.ChangeShapes Go.Proofs.YtobgdeffhdefeaaDoor
set_option maxRecDepth 100000
set_option linter.unusedSimpArgs false
set_option linter.unusedVariables false
theorem contract (H : Type) (enc : TypeId × Value → H) (W : World) (base : Nat) (args : Array Value) (ds gs : List (DataW H)) (before : List MemPlace)
  (hval : ∀ (j : Nat) t v, Tryd.f12.params[j]? = some t → args[j]? = some v → Value.okWide Tryd.prog W .any base t v)
  (hW : DataW.Whole enc Tryd.prog Tryd.f12.params.toList Rows.castrPairsSpec.vars false W args.toList ds gs before) (hL : laidMetH Tryd.prog Rows.castrPairsRow.laid W) :
  Calls Tryd.prog 12 args W fun e W' => ∃ v, e = .returned v ∧ Rows.castrPairsSpec.post enc Tryd.prog Tryd.f12 false true false false W args v W' := by
 have hW' := hW
 obtain ⟨p, q, hA0, hV, rfl, hfz, hnd⟩ := hW
 have hA := hA0
 rw [Tryd.params12] at hA hval
 obtain ⟨v0, vs0, d0, ds0, p0, q0, hargs, rfl, rfl, h0, r0⟩ := trodAll_cons hA
 obtain ⟨v1, vs1, d1, ds1, p1, q1, rfl, rfl, rfl, h1, r1⟩ := trodAll_cons r0
 obtain ⟨v2, vs2, d2, ds2, p2, q2, rfl, rfl, rfl, h2, r2⟩ := trodAll_cons r1
 obtain ⟨v3, vs3, d3, ds3, p3, q3, rfl, rfl, rfl, h3, r3⟩ := trodAll_cons r2
 obtain ⟨v4, vs4, d4, ds4, p4, q4, rfl, rfl, rfl, h4, r4⟩ := trodAll_cons r3
 obtain ⟨v5, vs5, d5, ds5, p5, q5, rfl, rfl, rfl, h5, r5⟩ := trodAll_cons r4
 obtain ⟨rfl, rfl, rfl⟩ := trodAll_nil r5
 obtain rfl : args = #[v0, v1, v2, v3, v4, v5] := by cases args; simp_all
 obtain ⟨rfl, rfl⟩ := trodVars_none hV
 obtain ⟨A0, c0, t0, rfl, g0⟩ := open_nodes (hval 0 _ _ rfl rfl) h0
 obtain ⟨A1, c1, t1, rfl, g1⟩ := open_nodes (hval 1 _ _ rfl rfl) h1
 obtain ⟨A2, c2, t2, rfl, g2⟩ := open_nodes (hval 2 _ _ rfl rfl) h2
 obtain ⟨A3, c3, t3, rfl, g3⟩ := open_nodes (hval 3 _ _ rfl rfl) h3
 obtain ⟨A4, c4, t4, rfl, g4⟩ := open_nodes (hval 4 _ _ rfl rfl) h4
 obtain ⟨b5, rfl, hb5⟩ := open_byte (hval 5 _ _ rfl rfl)
 refine (castrPairs_calls W (fun k => k < W.heap.size) (fun _ h => h) A0 c0 t0 A1 c1 t1 A2 c2 t2 A3 c3 t3 A4 c4 t4 b5 (shapes_of_laid hL) g0 g1 g2 g3 g4 hb5).mono fun e W' ⟨he, hf⟩ => ?_
 subst he
 exact ⟨_, rfl, post_true kids slicesFull (by rw [Tryd.params12]; decide) rfl hW' rfl Tryd.underlying4 ⟨rfl, rfl, rfl⟩ hf.below⟩
theorem laid_met (os : Os) : laidMet Tryd.prog Rows.castrPairsRow.laid ((laidWorld os).forCall (fun _ _ => 0) ⟨#[], #[Value.slice none 0 0, Value.slice none 0 0, Value.slice none 0 0, Value.slice none 0 0, Value.slice none 0 0, Value.int .u8 0], []⟩).memory :=
 laidMet_of_run' 8 (by kernel_rfl) (by kernel_rfl)
theorem reads (os : Os) {H : Type} (enc : TypeId × Value → H) : ∃ places, DataW.whole enc Tryd.prog ((laidWorld os).forCall (fun _ _ => 0) ⟨#[], #[Value.slice none 0 0, Value.slice none 0 0, Value.slice none 0 0, Value.slice none 0 0, Value.slice none 0 0, Value.int .u8 0], []⟩).memory Tryd.f12.params.toList Rows.castrPairsSpec.vars false #[Value.slice none 0 0, Value.slice none 0 0, Value.slice none 0 0, Value.slice none 0 0, Value.slice none 0 0, Value.int .u8 0].toList 8 = some ([.nil, .nil, .nil, .nil, .nil, .lit (.int .u8 0)], [], places) :=
 ⟨[], by kernel_rfl⟩
theorem lifted (os : Os) (started : os.Started) (H : Type) (enc : TypeId × Value → H) (F : Stop.Interp) :
  ReturnsInHanded {} Tryd.checked os 12 .any ((OpenSpec.ofChange Rows.castrPairsSpec).preRow enc Tryd.prog Tryd.f12 Rows.castrPairsRow.domain false Rows.castrPairsRow.laid) (((OpenSpec.ofChange Rows.castrPairsSpec).at F).post enc Tryd.prog Tryd.f12 false true false false) := by
 obtain ⟨places, hx⟩ := reads os enc
 refine returnsInHanded_of_row (C := Tryd.checked) (s := OpenSpec.ofChange Rows.castrPairsSpec) ownKnobNone started (by kernel_rfl) Tryd.func12
  (witness_row_atRef (enc := enc) (C := Tryd.checked) false (laidWorld os) #[Value.slice none 0 0, Value.slice none 0 0, Value.slice none 0 0, Value.slice none 0 0, Value.slice none 0 0, Value.int .u8 0] rfl (by kernel_rfl) (by kernel_rfl) (by kernel_rfl)
   (OpenSpec.preRow_of_cond 8 hx (by kernel_rfl) (fun k hk => by cases hk) (by kernel_rfl) (laid_met os))) ?_
 intro W base args ds gs before hval hW _ _ _ hL _ _
 exact contract H enc W base args ds gs before hval hW hL
theorem said : Rows.CastrPairsSaid :=
 OpenClaim.holds_of_cond 12 Tryd.f12 rfl rfl rfl rfl rfl rfl rfl ⟨rfl, rfl, rfl, rfl, rfl⟩ rfl rfl rfl rfl rfl (by kernel_rfl) Tryd.func12 (by kernel_rfl)
  (of_decide_eq_true (by kernel_rfl)) (by unfold Func.isWrapper; first | (rw [if_pos (by decide +kernel)]; kernel_rfl) | (rw [if_neg (by decide +kernel)]; exact ⟨rfl, rfl⟩))
  (fun os started H enc _ F => by rw [OpenClaim.pre_eq_preRow]; exact lifted os started H enc F)
theorem plain (f : FuncId) (fn : Func) (hf : Tryd.pinned.checked.prog.funcNamed "cornice/cornicelaw13.CastrPairs" = some f) (hfn : Tryd.pinned.checked.prog.funcs[f]? = some fn) :
  false = Tryd.pinned.checked.prog.looks [] ∧ ∀ (j : Nat) t, fn.params[j]? = some t → Tryd.pinned.checked.prog.wantsStandIn t = false := by
 obtain rfl : f = 12 := Option.some.inj ((show Tryd.prog.funcNamed "cornice/cornicelaw13.CastrPairs" = some 12 by kernel_rfl).symm.trans hf) |>.symm
 obtain rfl : fn = Tryd.f12 := (Option.some.inj (Tryd.func12.symm.trans hfn)).symm
 refine ⟨by kernel_rfl, fun j t ht => ?_⟩
 rw [Tryd.params12] at ht
 have hm := Array.mem_of_getElem? ht
 simp only [List.mem_toArray, List.mem_cons, List.not_mem_nil, or_false] at hm
 rcases hm with rfl | rfl | rfl | rfl | rfl | rfl
 · exact (show Tryd.prog.wantsStandIn 22 = false by kernel_rfl)
 · exact (show Tryd.prog.wantsStandIn 22 = false by kernel_rfl)
 · exact (show Tryd.prog.wantsStandIn 22 = false by kernel_rfl)
 · exact (show Tryd.prog.wantsStandIn 22 = false by kernel_rfl)
 · exact (show Tryd.prog.wantsStandIn 22 = false by kernel_rfl)
 · exact (show Tryd.prog.wantsStandIn 5 = false by kernel_rfl)
theorem proved : Rows.CastrPairsCardSaid :=
 Claim7.holds_tied_plain_at .later [] _ _ _ _ said (fun _ h => by cases h) (by kernel_rfl) (fun _ h => by cases h) castrPairs_row_tie rfl ⟨rfl, rfl⟩ (by kernel_rfl) rfl plain (by kernel_rfl)
end Go.Proofs.YtobgdeffhdefeaaDoor.lawCastrPairs
