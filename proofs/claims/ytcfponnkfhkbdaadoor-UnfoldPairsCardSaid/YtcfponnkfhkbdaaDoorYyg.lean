import Derived.Test.YtcfponnkfhkbdaaDoorYyf
import Derived.Test.YtcfponnkfhkbdaaDoorCards
import Derived.Test.YtcfponnkfhkbdaaDoorTie
import Derived.ProofKit
import Derived.OpenShut
import Derived.ReadAgain
import Derived.Deep.DeepHandedRow
import Derived.Deep.Slices
import Derived.Lib.LaidTab
import Derived.Deep.DeepWitnessRowRef
/- Contracts of functions, one theorem each: what the call returns, and that nothing old is changed. Printed by gen.py. -/
namespace Go.Proofs.YtcfponnkfhkbdaaDoor
open Go Go.RowKit
set_option linter.unusedSimpArgs false
set_option linter.unusedVariables false
set_option maxRecDepth 100000 in
set_option maxHeartbeats 1000000 in
theorem rclamp_calls (w0 : World) (Z : Nat → Prop) (hZ : ∀ k, Z k → k < w0.heap.size) (n : Int)  :
    Calls Tryd.prog 44 [.int .i64 n].toArray w0 (fun e w' => e = .returned (.int .i64 (clamp n)) ∧ Fr none_ w0 w') := by
 have b0 := s0 (M := none_) hZ zn
 refine c_enter Tryd.func44 rfl Tryd.ntmps44 rfl (fun c0 d0 => ?_)
 refine wsc (fun c0 f0 => ?_)
 refine asg d0 (fun c0 h0 => ?_)
 refine wpList_nil (x_then_n (f0 _ _ ?_))
 refine wsc (fun f0 c0 => ?_)
 refine mv h0 (fun f0 d0 => ?_)
 refine r_min sv d0 rfl rfl rfl rfl rfl (by decide) (fun f0 h0 => ?_)
 refine r_max sv h0 rfl rfl rfl rfl rfl (by decide) (fun f0 d0 => ?_)
 refine asg d0 (fun f0 h0 => ?_)
 refine wpList_nil (x_then_n (c0 _ _ ?_))
 refine wp_ret ?_
 refine e_ret1 h0 rfl rfl rfl ?_
 refine ⟨?_, b0.fr⟩
 exact congrArg Ending.returned (ret_i (by unfold clamp; omega))
set_option maxRecDepth 100000 in
set_option maxHeartbeats 1000000 in
theorem rshift_calls_rec (rn : Nat) : ∀ (w0 : World) (Z : Nat → Prop) (hZ : ∀ k, Z k → k < w0.heap.size) (tA : Option Addr) (tc : Nat) (t : List Nd) (b : Int) (fr : Int) (u : Int) (ht : (dRow 4 tA t.length tc (encNs t)).φ w0 Z) (hl : t.length ≤ 1000000) (hsm : sml t) (hb : measB t = true) (hu0 : 0 ≤ u) (hub : u + 2 * t.length ≤ 10000000) (hb1 : -1000000 ≤ b) (hb2 : b ≤ 1000000) (hrn : t.length = rn),
    Calls Tryd.prog 43 [.slice tA t.length tc, .int .i64 b, .int .i64 fr, .int .i64 u].toArray w0 (fun e w' => ∃ (rA0 : Option Addr) (rc0 : Nat), e = .returned (.tuple #[.slice rA0 (trL (shV b fr) t u).length rc0, .int .i64 (trEL (shV b fr) t u)]) ∧ Fr none_ w0 w' ∧ (dRow 4 rA0 ((trL (shV b fr) t u).length) rc0 (encNs (trL (shV b fr) t u))).φ w' (nxt Z w0 w')) := by
 induction rn using Nat.strongRecOn
 rename_i rn ih
 intro w0 Z hZ tA tc t b fr u ht hl hsm hb hu0 hub hb1 hb2 hrn
 have b0 := s0 (M := none_) hZ (zc ht zn)
 have hp0 := meas_pos hb
 have hrt := right_at hb (show t.length - 1 < t.length by omega)
 have hbl := bindL_right hrt
 have hbm := bindL_many hrt
 have hpm := ptL_length hb
 refine c_enter Tryd.func43 rfl Tryd.ntmps43 rfl (fun c0 d0 => ?_)
 refine wsc (fun c0 f0 => ?_)
 refine asg d0 (fun c0 h0 => ?_)
 refine asg h0 (fun c0 d0 => ?_)
 refine wpList_nil (x_then_n (f0 _ _ ?_))
 refine wsc (fun f0 c0 => ?_)
 refine mv d0 (fun f0 h0 => ?_)
 have f0 := b0.nf
 refine k_call (xs := [.tmp 19]) se h0 rfl rfl rfl (by decide) ok23 (rroot_calls _ _ f0.il _ _ _ (f0.g 0)) ?_
 rintro h0 b0 ⟨rfl, d0⟩
 have b0 := f0.below d0.below
 refine ⟨_, rfl, fun d0 f0 => ?_⟩
 refine m_alloc (cs := [.int .i64 0, .int .i64 0, .int .i64 0, .string (⟨#[]⟩ : ByteArray)]) sv f0 b0 rfl rfl ze39 rfl (by decide) (fun d0 h0 i0 j0 k0 => ?_)
 refine m_store (i := 0) (cs' := [.int .i64 (((nth t (t.length - 1)).K)), .int .i64 (((nth t (t.length - 1)).N)), .int .i64 (((nth t (t.length - 1)).M)), .string ((nth t (t.length - 1)).S)]) se j0 k0 rfl rfl rfl rfl rfl sz39 rfl rfl rfl (fun h0 d0 f0 b0 => ?_)
 refine wpList_nil (x_then_n (c0 _ _ ?_))
 refine wp_seq_k (fun c0 d0 => ?_)
 refine wsc (fun c0 h0 => ?_)
 refine m_field (j' := 0) sv f0 rfl rfl rfl Tryd.underlying39 rfl sz3 rfl rfl (by decide) (fun c0 k0 => ?_)
 refine m_load (i := 0) sv k0 b0 rfl rfl rfl rfl rfl Tryd.underlying3 rfl (by decide) (fun c0 f0 => ?_)
 refine r_eql sv f0 rfl rfl rfl rfl (by decide) (fun c0 k0 => ?_)
 refine mv k0 (fun c0 f0 => ?_)
 refine l_join (fun ga gw => Reg ga 86 [(0, .slice tA t.length tc), (1, .int .i64 (b)), (2, .int .i64 (fr)), (3, .int .i64 (u)), (8, .slice none 0 0), (9, .int .i64 0), (10, .pointer (some ⟨i0, 0, none⟩)), (31, .bool ((decide ((((nth t (t.length - 1)).K)) = 0)) && (decide ((fr) ≤ (((nth t (t.length - 1)).N) - u))))), (1000000, .bool false)] ∧ St w0 Z none_ gw [.box i0 39 [.int .i64 (((nth t (t.length - 1)).K)), .int .i64 (((nth t (t.length - 1)).N)), .int .i64 (((nth t (t.length - 1)).M)), .string ((nth t (t.length - 1)).S)]] [dRow 4 tA t.length tc (encNs t)]) 7 ?_ ?_
 ·
  rcases Decidable.em ((((nth t (t.length - 1)).K)) = 0) with c0 | c0
  ·
   obtain ⟨k0, j0⟩ := var_at hb c0
   have m0 := f0.setb (d := 24) (b := true) rfl (decide_eq_true c0)
   refine m_field (j' := 1) (st_listV_w (wt m0)) m0 rfl rfl rfl Tryd.underlying39 rfl sz3 rfl rfl (by decide) (fun n0 o0 => ?_)
   refine m_load (i := 0) (st_listV_w (wt o0)) o0 b0 rfl rfl rfl rfl rfl Tryd.underlying3 rfl (by decide) (fun n0 m0 => ?_)
   refine r_move (st_listV_w (wt m0)) m0 rfl rfl rfl (by decide) (fun n0 o0 => ?_)
   refine r_sub (z := (((nth t (t.length - 1)).N) - u)) (st_listV_w (wt o0)) o0 rfl rfl rfl rfl (by decide) (by omega) (by omega) (by omega) (fun n0 m0 => ?_)
   refine r_move (st_listV_w (wt m0)) m0 rfl rfl rfl (by decide) (fun n0 o0 => ?_)
   refine r_geq (st_listV_w (wt o0)) o0 rfl rfl rfl rfl (by decide) (fun n0 m0 => ?_)
   refine r_pick_t sv m0 rfl rfl rfl rfl (by decide) (fun n0 o0 => ?_)
   refine wpList_nil ?_
   exact x_then_n ⟨(o0.sub (rc rfl (rc rfl (rc rfl (rc rfl (rc rfl (rc rfl (rc rfl (rc (rb rfl (by first | rfl | (simp only [decide_eq_true c0, if_pos c0, bl]; done) | (simp [c0]; done) | (simp [c0]; omega))) (rc rfl rnl)))))))))), b0⟩
  ·
   have o0 := f0.setb (d := 24) (b := false) rfl (decide_eq_false c0)
   refine sps o0 (wff o0) (fun f0 n0 => ?_)
   refine sps n0 (wff n0) (fun f0 o0 => ?_)
   refine sps o0 (wff o0) (fun f0 n0 => ?_)
   refine sps n0 (wff n0) (fun f0 o0 => ?_)
   refine sps o0 (wff o0) (fun f0 n0 => ?_)
   refine sps n0 (wff n0) (fun f0 o0 => ?_)
   refine r_pick_f sv o0 rfl rfl rfl rfl (by decide) (fun f0 n0 => ?_)
   refine wpList_nil ?_
   exact x_then_n ⟨(n0.sub (rc rfl (rc rfl (rc rfl (rc rfl (rc rfl (rc rfl (rc rfl (rc (rb rfl (by first | rfl | (simp only [decide_eq_false c0, if_neg c0, bl]; done) | (simp [c0]; done) | (simp [c0]; omega))) (rc rfl rnl)))))))))), b0⟩
 rintro n0 c0 ⟨b0, f0⟩
 refine wpList_nil (x_then_n (h0 _ _ ?_))
 rcases Bool.eq_false_or_eq_true (((decide ((((nth t (t.length - 1)).K)) = 0)) && (decide ((fr) ≤ (((nth t (t.length - 1)).N) - u))))) with h0 | h0
 ·
  have c0 := and_tl h0
  have n0 := of_decide_eq_true c0
  obtain ⟨k0, j0⟩ := var_at hb n0
  have n0 := and_tr h0
  have j0 := of_decide_eq_true n0
  have j0 := b0.setb (d := 31) (b := true) rfl h0
  refine wp_cond_true (j0.ev rfl) ?_
  refine wsc (fun n0 k0 => ?_)
  refine m_field (j' := 1) sv j0 rfl rfl rfl Tryd.underlying39 rfl sz3 rfl rfl (by decide) (fun n0 c0 => ?_)
  refine m_load (i := 0) sv c0 f0 rfl rfl rfl rfl rfl Tryd.underlying3 rfl (by decide) (fun n0 j0 => ?_)
  refine mv j0 (fun n0 c0 => ?_)
  refine r_add (z := (((nth t (t.length - 1)).N) + b)) sv c0 rfl rfl rfl rfl (by decide) (by omega) (by omega) (by omega) (fun n0 j0 => ?_)
  refine asg j0 (fun n0 c0 => ?_)
  refine wpList_nil (x_then_n (k0 _ _ ?_))
  refine wp_seq_k (fun k0 n0 => ?_)
  refine wsc (fun k0 j0 => ?_)
  refine mv c0 (fun k0 o0 => ?_)
  refine mv o0 (fun k0 c0 => ?_)
  refine r_sub (z := (((nth t (t.length - 1)).N) + b - u)) sv c0 rfl rfl rfl rfl (by decide) (by omega) (by omega) (by omega) (fun k0 o0 => ?_)
  refine mv o0 (fun k0 c0 => ?_)
  refine r_lss sv c0 rfl rfl rfl rfl (by decide) (fun k0 o0 => ?_)
  refine wpList_nil (x_then_n (j0 _ _ ?_))
  rcases Decidable.em ((((nth t (t.length - 1)).N) + b - u) < (fr)) with j0 | j0
  ·
   have k0 := o0.setb (d := 40) (b := true) rfl (decide_eq_true j0)
   refine wp_cond_true (k0.ev rfl) ?_
   refine wsc (fun c0 m0 => ?_)
   refine asg k0 (fun c0 p0 => ?_)
   refine asg p0 (fun c0 k0 => ?_)
   refine wpList_nil (x_then_n (m0 _ _ ?_))
   refine wp_ret ?_
   refine x_then_r ?_
   refine x_then_r ?_
   refine e_ret2 k0 rfl rfl rfl rfl ?_
   have k0 : trL (shV b fr) t u = [] := by first | exact (sh_low hb (by omega) (by omega) (by omega)).2 | exact (sh_high hb (by omega) (by omega) (by omega) (by omega)).2 | exact hs2
   rw [k0]
   refine ⟨none, 0, ?_, f0.fr, ⟨Nat.le_refl _, RowI.nil _ _ _ _⟩⟩
   exact ret_t2 rfl (ret_i (by first | omega | (rw [(sh_low hb (by omega) (by omega) (by omega)).1]) | (rw [(sh_high hb (by omega) (by omega) (by omega) (by omega)).1]) | (rw [(sh_good hb (by omega) (by omega) (by omega) (by omega)).1]) | (rw [hs1, hpe, hbl]; done) | (rw [k0]; done)))
  ·
   have m0 := o0.setb (d := 40) (b := false) rfl (decide_eq_false j0)
   refine wp_cond_false (m0.ev rfl) ?_
   refine wp_skip ?_
   refine x_then_n (n0 _ _ ?_)
   refine wp_seq_k (fun n0 j0 => ?_)
   refine wsc (fun n0 o0 => ?_)
   refine mv m0 (fun n0 c0 => ?_)
   refine r_gtr sv c0 rfl rfl rfl rfl (by decide) (fun n0 m0 => ?_)
   refine wpList_nil (x_then_n (o0 _ _ ?_))
   rcases Decidable.em (99 < (((nth t (t.length - 1)).N) + b)) with o0 | o0
   ·
    have n0 := m0.setb (d := 42) (b := true) rfl (decide_eq_true o0)
    refine wp_cond_true (n0.ev rfl) ?_
    refine wsc (fun c0 p0 => ?_)
    refine asg n0 (fun c0 q0 => ?_)
    refine asg q0 (fun c0 n0 => ?_)
    refine wpList_nil (x_then_n (p0 _ _ ?_))
    refine wp_ret ?_
    refine x_then_r ?_
    refine x_then_r ?_
    refine e_ret2 n0 rfl rfl rfl rfl ?_
    have n0 : trL (shV b fr) t u = [] := by first | exact (sh_low hb (by omega) (by omega) (by omega)).2 | exact (sh_high hb (by omega) (by omega) (by omega) (by omega)).2 | exact hs2
    rw [n0]
    refine ⟨none, 0, ?_, f0.fr, ⟨Nat.le_refl _, RowI.nil _ _ _ _⟩⟩
    exact ret_t2 rfl (ret_i (by first | omega | (rw [(sh_low hb (by omega) (by omega) (by omega)).1]) | (rw [(sh_high hb (by omega) (by omega) (by omega) (by omega)).1]) | (rw [(sh_good hb (by omega) (by omega) (by omega) (by omega)).1]) | (rw [hs1, hpe, hbl]; done) | (rw [k0]; done)))
   ·
    have n0 := m0.setb (d := 42) (b := false) rfl (decide_eq_false o0)
    refine wp_cond_false (n0.ev rfl) ?_
    refine wp_skip ?_
    refine x_then_n (j0 _ _ ?_)
    refine wsc (fun j0 o0 => ?_)
    refine mv n0 (fun j0 m0 => ?_)
    refine m_build (ps := [(0, .const (.int .i64 0)), (1, .tmp 43)]) (v := .agg #[.int .i64 0, .int .i64 (((nth t (t.length - 1)).N) + b), .int .i64 0, .string (⟨#[]⟩ : ByteArray)]) sv m0 rfl rfl rfl (fun _ => by kernel_rfl) (by decide) (fun j0 n0 => ?_)
    refine mbs [(0, .tmp 44)] [.int .i64 0, .int .i64 (((nth t (t.length - 1)).N) + b), .int .i64 0, .string (⟨#[]⟩ : ByteArray)] sv n0 f0 Tryd.underlying22 zi39 (fun j0 m0 p0 c0 q0 => ?_)
    refine asg c0 (fun m0 j0 => ?_)
    refine asg j0 (fun m0 c0 => ?_)
    refine wpList_nil (x_then_n (o0 _ _ ?_))
    refine wp_ret ?_
    refine x_then_r ?_
    refine e_ret2 c0 rfl rfl rfl rfl ?_
    have c0 : trL (shV b fr) t u = [(⟨0, (((nth t (t.length - 1)).N) + b), 0, (⟨#[]⟩ : ByteArray)⟩ : Nd)] := (sh_good hb (by omega) (by omega) (by omega) (by omega)).2
    rw [c0]
    have c0 := own_cap (q0.res (i := 1) rfl)
    obtain ⟨o0, m0⟩ := q0.row_data (i := 1) rfl (fun _ h => h)
    have q0 := o0.data (dRow 4 (some ⟨p0, 0, none⟩) 1 1 (encNs ([(⟨0, (((nth t (t.length - 1)).N) + b), 0, (⟨#[]⟩ : ByteArray)⟩ : Nd)]))) ⟨c0, m0⟩
    refine ⟨(some ⟨p0, 0, none⟩), 1, ?_, q0.fr, q0.rx 1⟩
    exact ret_t2 rfl (ret_i (by first | omega | (rw [(sh_low hb (by omega) (by omega) (by omega)).1]) | (rw [(sh_high hb (by omega) (by omega) (by omega) (by omega)).1]) | (rw [(sh_good hb (by omega) (by omega) (by omega) (by omega)).1]) | (rw [hs1, hpe, hbl]; done) | (rw [k0]; done)))
 ·
  have q0 := h0
  try simp only [Bool.or_eq_true, Bool.and_eq_true, Bool.not_eq_true', Bool.not_eq_false', decide_eq_true_eq, decide_eq_false_iff_not, Bool.or_eq_false_iff, Bool.and_eq_false_iff] at q0
  have q0 := b0.setb (d := 31) (b := false) rfl h0
  refine wp_cond_false (q0.ev rfl) ?_
  refine wp_skip ?_
  refine x_then_n (d0 _ _ ?_)
  refine wsc (fun d0 h0 => ?_)
  refine m_loadN (i := 0) (vs := [.int .i64 (((nth t (t.length - 1)).K)), .int .i64 (((nth t (t.length - 1)).N)), .int .i64 (((nth t (t.length - 1)).M)), .string ((nth t (t.length - 1)).S)]) sv q0 f0 rfl rfl rfl rfl rfl Tryd.underlying39 rfl sz39 (by decide) (fun d0 b0 => ?_)
  have d0 := f0.nf
  refine k_call (xs := [.tmp 47]) se b0 rfl rfl rfl (by decide) ok54 (rbinds_calls _ _ d0.il (nth t (t.length - 1)) (hs := (hsm _ (by omega)))) ?_
  rintro b0 f0 ⟨q0, p0, rfl, m0, o0⟩
  have f0 := d0.below m0.below
  have m0 := d0.dN f0 o0
  refine ⟨_, rfl, fun f0 o0 => ?_⟩
  refine mv o0 (fun f0 d0 => ?_)
  refine r_extract sv d0 rfl rfl rfl rfl (by decide) (fun f0 o0 => ?_)
  refine r_extract sv o0 rfl rfl rfl rfl (by decide) (fun f0 d0 => ?_)
  refine asg d0 (fun f0 o0 => ?_)
  refine asg o0 (fun f0 d0 => ?_)
  refine wpList_nil (x_then_n (h0 _ _ ?_))
  refine wsc (fun h0 f0 => ?_)
  refine mv d0 (fun h0 o0 => ?_)
  have h0 := m0.nf
  refine k_call (xs := [.tmp 51]) se o0 rfl rfl rfl (by decide) ok31 (rparts_calls _ _ h0.il _ _ _ (h0.g 0)) ?_
  rintro o0 m0 ⟨d0, b0, c0, rfl, j0, n0, t0, u0⟩
  have m0 := h0.below j0.below
  have j0 := h0.dN m0 n0
  have m0 := h0.dN j0 t0
  refine ⟨_, rfl, fun j0 t0 => ?_⟩
  refine asg t0 (fun j0 h0 => ?_)
  refine wpList_nil (x_then_n (f0 _ _ ?_))
  refine wsc (fun f0 j0 => ?_)
  have f0 := m0.data (dAll []) all_nil
  refine mbs [] [] sv h0 f0 Tryd.underlying42 zi22 (fun m0 t0 n0 o0 v0 => ?_)
  refine asg o0 (fun t0 m0 => ?_)
  refine wpList_nil (x_then_n (j0 _ _ ?_))
  refine wp_seq_k (fun j0 t0 => ?_)
  refine wsc (fun j0 o0 => ?_)
  refine asg m0 (fun j0 f0 => ?_)
  refine wpList_nil (x_then_n (o0 _ _ ?_))
  refine wp_block ?_
  refine wp_loop_ghost (fun gn ga gw => ∃ j : Nat, ∃ Ls : List Sl, ∃ Ao : Option Addr, ∃ co : Nat, (Reg ga 86 [(1, .int .i64 (b)), (2, .int .i64 (fr)), (3, .int .i64 (u)), (10, .pointer (some ⟨i0, 0, none⟩)), (1000000, .bool false), (12, .slice q0 ((bindL (nth t (t.length - 1))).length) p0), (14, .slice d0 c0.length b0), (16, .int .i64 ((j : Nat) : Int)), (15, .slice Ao ((Ls).length) co)]) ∧ (St w0 Z none_ gw [.box i0 39 [.int .i64 (((nth t (t.length - 1)).K)), .int .i64 (((nth t (t.length - 1)).N)), .int .i64 (((nth t (t.length - 1)).M)), .string ((nth t (t.length - 1)).S)], .row Ao ((Ls).length) co 22 1 (encSs Ls)] [dRow 4 tA t.length tc (encNs t), dRow 1 q0 ((bindL (nth t (t.length - 1))).length) p0 (encIs (bindL (nth t (t.length - 1)))), dRow 1 d0 c0.length b0 (encSs c0), dAll c0, dAll Ls]) ∧ (j ≤ c0.length) ∧ (lsts Ls = trTP (shV b fr) t u j) ∧ (trEP (shV b fr) t u j = 0) ∧ (c0.length - j) = gn) _ ⟨0, [], (some ⟨n0, 0, none⟩), 0, (f0.sub (rc rfl (rc rfl (rc rfl (rc rfl (rc rfl (rc rfl (rc rfl (rc rfl (rc rfl rnl)))))))))), v0, by omega, by rw [(tr_zero _ _ _).2]; rfl, (tr_zero _ _ _).1, rfl⟩ ?_
  rintro f0 v0 n0 ⟨j, Ls, Ao, co, b0, d0, hj, hL, hE, p0⟩
  have hrl : c0.length = (ptL t).length := by rw [← lsts_len, u0]
  have hp8 := ptL_le hb
  have hbj : 0 ≤ nthI (bindL (nth t (t.length - 1))) j ∧ nthI (bindL (nth t (t.length - 1))) j ≤ 2 := by rw [hbl]; exact binds_nth j
  have hLn : Ls.length = j := by rw [← lsts_len, hL]; exact trTP_len hb (by omega)
  refine wp_seq_k (fun p0 n0 => ?_)
  refine wsc (fun p0 v0 => ?_)
  refine mv b0 (fun p0 f0 => ?_)
  refine mv f0 (fun p0 b0 => ?_)
  refine r_len sv b0 rfl rfl rfl rfl Tryd.underlying42 (by decide) (fun p0 f0 => ?_)
  refine r_lss sv f0 rfl rfl rfl rfl (by decide) (fun p0 b0 => ?_)
  refine wpList_nil (x_then_n (v0 _ _ ?_))
  rcases Decidable.em (((j : Nat) : Int) < ((c0.length : Nat) : Int)) with v0 | v0
  ·
   obtain ⟨hpe, hpk, hpb, hpl, hps, hp0'⟩ := part_at hb hsm u0 (show j < c0.length by omega)
   have u0 := b0.setb (d := 57) (b := true) rfl (decide_eq_true v0)
   refine wp_cond_true (u0.ev rfl) ?_
   refine wp_skip ?_
   refine x_then_n (n0 _ _ ?_)
   refine wp_seq_k (fun n0 p0 => ?_)
   refine wp_block ?_
   refine wp_seq_k (fun n0 f0 => ?_)
   obtain ⟨n0, q0, o0⟩ := d0.agree
   refine d_reg3 (n := 18) o0 5 pn (pan_then (pan_block (pan_then (pan_then (pan_block (pan_then pan_body)))))) (fun n0 j0 m0 h0 x0 y0 => ?_)
   refine dtM 0 j0 u0 y0 (fun h0 n0 => ?_)
   refine dtM 1 j0 n0 y0 (fun h0 u0 => ?_)
   refine dt 2 rfl j0 u0 (want_n rfl) (fun x hx => m_index (i := j) (j := j * 1) (sy u0) u0 rfl rfl rfl rfl Tryd.underlying42 sz22 (by omega) (by omega) (ss_elem (t := c0) (k := j) (sdat (q0 2 _ rfl) hx.ag).2 (by omega)).some_ rfl (by decide) gt) y0 (fun h0 n0 => ?_)
   refine dt 3 rfl j0 n0 (want_n rfl) (fun x hx => m_loadE (sy n0) n0 rfl rfl rfl 0 (j * 1) (ss_elem (t := c0) (k := j) (sdat (q0 2 _ rfl) hx.ag).2 (by omega)) rfl rfl Tryd.underlying22 rfl (by decide) gt) y0 (fun h0 u0 => ?_)
   have h0 := x0.data (dRow 4 ((nthS c0 j).1) ((nthS c0 j).2.2.length) ((nthS c0 j).2.1) (encNs ((nthS c0 j).2.2))) (all_at (t := c0) (k := j) (x0.get (i := 3) rfl) (by omega))
   refine dtM 4 j0 u0 y0 (fun x0 n0 => ?_)
   refine dtM 5 j0 n0 y0 (fun x0 u0 => ?_)
   refine dtM 6 j0 u0 y0 (fun x0 n0 => ?_)
   refine dtM 7 j0 n0 y0 (fun x0 u0 => ?_)
   refine dtM 8 j0 u0 y0 (fun x0 n0 => ?_)
   refine dt 9 rfl j0 n0 (want_n rfl) (fun x hx => m_index (i := j) (j := j * 1) (sy n0) n0 rfl rfl rfl rfl Tryd.underlying79 sz3 (by omega) (by omega) (ints_elem (t := bindL (nth t (t.length - 1))) (k := j) (sdat (q0 1 _ rfl) hx.ag).2 (by omega)).some_ rfl (by decide) gt) y0 (fun x0 u0 => ?_)
   refine dt 10 rfl j0 u0 (want_n rfl) (fun x hx => m_loadE (sy u0) u0 rfl rfl rfl 0 (j * 1) (ints_elem (t := bindL (nth t (t.length - 1))) (k := j) (sdat (q0 1 _ rfl) hx.ag).2 (by omega)) rfl rfl Tryd.underlying3 rfl (by decide) gt) y0 (fun x0 n0 => ?_)
   refine dt 11 rfl j0 n0 (want_n rfl) (fun x hx => r_add (z := (u + (nthI (bindL (nth t (t.length - 1))) j))) (sy n0) n0 rfl rfl rfl rfl (by decide) (by omega) (by omega) (by omega) gt) y0 (fun x0 u0 => ?_)
   refine d1 12 ?_
   have x0 := h0.nf
   refine k_call (xs := [.tmp 64, .tmp 65, .tmp 66, .tmp 72]) (st_op rfl (want_n rfl)) u0 rfl rfl rfl (by decide) ok43 (ih (((nthS c0 j).2.2).length) (by omega) _ (imm Z w0 [.box i0 39 [.int .i64 (((nth t (t.length - 1)).K)), .int .i64 (((nth t (t.length - 1)).N)), .int .i64 (((nth t (t.length - 1)).M)), .string ((nth t (t.length - 1)).S)], .row Ao ((Ls).length) co 22 1 (encSs Ls)] _) (fun _ h => h.1) _ _ ((nthS c0 j).2.2) (b) (fr) (u + (nthI (bindL (nth t (t.length - 1))) j)) (x0.g 6) (by first | assumption | omega | (simp; done) | (simp; omega)) (by first | assumption | omega | (simp; done) | (simp; omega)) (by first | assumption | omega | (simp; done) | (simp; omega)) (by first | assumption | omega | (simp; done) | (simp; omega)) (by first | assumption | omega | (simp; done) | (simp; omega)) (by first | assumption | omega | (simp; done) | (simp; omega)) (by first | assumption | omega | (simp; done) | (simp; omega)) rfl) ?_
   rintro u0 i0 ⟨h0, n0, rfl, y0, q0⟩
   have i0 := x0.below y0.below
   have y0 := x0.dN i0 q0
   refine ⟨_, rfl, fun i0 q0 => ?_⟩
   have i0 := sWI y0 5 pn
   refine ⟨i0, ?_⟩
   refine dtM 13 j0 q0 i0 (fun x0 u0 => ?_)
   refine dt 14 rfl j0 u0 (want_n rfl) (fun x hx => r_extract (sy u0) u0 rfl rfl rfl rfl (by decide) gt) i0 (fun x0 q0 => ?_)
   refine dt 15 rfl j0 q0 (want_n rfl) (fun x hx => r_extract (sy q0) q0 rfl rfl rfl rfl (by decide) gt) i0 (fun x0 u0 => ?_)
   refine dtA 16 j0 u0 i0 (fun x0 q0 => ?_)
   refine dtA 17 j0 q0 i0 (fun x0 u0 => ?_)
   refine wpAnyH_done (by kernel_rfl) (m0 _ _ ?_) _
   refine x_then_n (f0 _ _ ?_)
   refine wp_seq_k (fun f0 m0 => ?_)
   refine wsc (fun f0 x0 => ?_)
   refine mv u0 (fun f0 q0 => ?_)
   refine r_neq sv q0 rfl rfl rfl rfl (by decide) (fun f0 u0 => ?_)
   refine wpList_nil (x_then_n (x0 _ _ ?_))
   rcases Decidable.em (((trEL (shV (b) (fr)) ((nthS c0 j).2.2) (u + (nthI (bindL (nth t (t.length - 1))) j)))) = 0) with x0 | x0
   ·
    obtain ⟨hs1, hs2⟩ := tr_step (V := shV b fr) (u := u) hb hpk hE (by rw [← hpe, ← hbl]; exact x0)
    have f0 := u0.setb (d := 77) (b := false) rfl (by rw [(decide_eq_true x0)]; rfl)
    refine wp_cond_false (f0.ev rfl) ?_
    refine wp_skip ?_
    refine x_then_n (m0 _ _ ?_)
    refine c_region ?_
    refine mv f0 (fun m0 q0 => ?_)
    refine mv q0 (fun m0 f0 => ?_)
    have m0 := y0.data (dAll [((h0, n0, trL (shV (b) (fr)) ((nthS c0 j).2.2) (u + (nthI (bindL (nth t (t.length - 1))) j))) : Sl)]) (all_cons (y0.get (i := 7) rfl) all_nil)
    refine mbs [(0, .tmp 80)] [.slice h0 ((trL (shV (b) (fr)) ((nthS c0 j).2.2) (u + (nthI (bindL (nth t (t.length - 1))) j))).length) n0] sv f0 m0 Tryd.underlying42 zi22 (fun q0 i0 j0 o0 z0 => ?_)
    refine m_appendF (f := encS) (i := 1) (Ls) ([((h0, n0, trL (shV (b) (fr)) ((nthS c0 j).2.2) (u + (nthI (bindL (nth t (t.length - 1))) j))) : Sl)]) sv o0 z0 rfl rfl rfl rfl rfl encS_len (encS_one _) Tryd.underlying42 zi22 rfl rfl (own_lnews (f := encS) (z0.res (i := 2) rfl)) rfl (by first | omega | (simp only [List.length_cons, List.length_nil]; omega)) (by decide) (fun j0 i0 q0 m0 f0 b1 c1 => ?_)
    have f0 : (Ls ++ ([((h0, n0, trL (shV (b) (fr)) ((nthS c0 j).2.2) (u + (nthI (bindL (nth t (t.length - 1))) j))) : Sl)]) : List Sl).length = (Ls).length + 1 := by first | (simp only [List.length_append, List.length_take, List.length_cons, List.length_nil]; done) | (simp only [List.length_append, List.length_take, List.length_cons, List.length_nil]; omega)
    have f0 := c1.erase 2
    have c1 := f0.data (dAll (Ls ++ ([((h0, n0, trL (shV (b) (fr)) ((nthS c0 j).2.2) (u + (nthI (bindL (nth t (t.length - 1))) j))) : Sl)]))) (all_append (f0.get (i := 4) rfl) (f0.get (i := 8) rfl))
    refine asg b1 (fun f0 i0 => ?_)
    refine wpList_nil ?_
    refine x_block_n ?_
    refine x_then_n (p0 _ _ ?_)
    refine c_region ?_
    refine mv i0 (fun p0 f0 => ?_)
    refine r_add (z := ((j + 1 : Nat) : Int)) sv f0 rfl rfl rfl rfl (by decide) (by omega) (by omega) (by omega) (fun p0 i0 => ?_)
    refine asg i0 (fun p0 f0 => ?_)
    refine wpList_nil ?_
    have p0 := c1.forget 8
    have c1 := p0.forget 7
    have p0 := c1.forget 6
    have c1 := p0.forget 5
    have p0 := c1.forget 4
    exact ⟨_, by omega, j + 1, Ls ++ ([((h0, n0, trL (shV (b) (fr)) ((nthS c0 j).2.2) (u + (nthI (bindL (nth t (t.length - 1))) j))) : Sl)]), q0, m0, (f0.sub (rc rfl (rc rfl (rc rfl (rc rfl (rc rfl (rc rfl (rc rfl (rc rfl (rc rfl rnl)))))))))), p0, by omega, (by rw [lsts_app, lsts_one, hL, hs2, hpe, hbl]), hs1, rfl⟩
   ·
    obtain ⟨hs1, hs2⟩ := tr_bad (V := shV b fr) (u := u) hb hpk hE (by rw [← hpe, ← hbl]; exact x0)
    have p0 := u0.setb (d := 77) (b := true) rfl (by rw [(decide_eq_false x0)]; rfl)
    refine wp_cond_true (p0.ev rfl) ?_
    refine wsc (fun x0 u0 => ?_)
    refine mv p0 (fun x0 f0 => ?_)
    refine asg f0 (fun x0 p0 => ?_)
    refine asg p0 (fun x0 f0 => ?_)
    refine wpList_nil (x_then_n (u0 _ _ ?_))
    refine wp_ret ?_
    refine x_then_r ?_
    refine x_block_r ?_
    refine x_then_r ?_
    refine x_then_r ?_
    refine x_block_r ?_
    refine x_then_r ?_
    refine e_ret2 f0 rfl rfl rfl rfl ?_
    have f0 : trL (shV b fr) t u = [] := by first | exact (sh_low hb (by omega) (by omega) (by omega)).2 | exact (sh_high hb (by omega) (by omega) (by omega) (by omega)).2 | exact hs2
    rw [f0]
    refine ⟨none, 0, ?_, y0.fr, ⟨Nat.le_refl _, RowI.nil _ _ _ _⟩⟩
    exact ret_t2 rfl (ret_i (by first | omega | (rw [(sh_low hb (by omega) (by omega) (by omega)).1]) | (rw [(sh_high hb (by omega) (by omega) (by omega) (by omega)).1]) | (rw [(sh_good hb (by omega) (by omega) (by omega) (by omega)).1]) | (rw [hs1, hpe, hbl]; done) | (rw [k0]; done)))
  ·
   have hj2 : j = (ptL t).length := by omega
   rw [hj2] at hE hL
   have hvv : (nth t (t.length - 1)).K = 0 → (shV b fr) (nth t (t.length - 1)) u = (0, .mk (nth t (t.length - 1)) []) := by intro hk; unfold shV; rw [if_neg (by omega)]
   obtain ⟨k0, y0⟩ := tr_end hb hvv hE
   have hdn := tr_nm (V := shV b fr) (b := 1) (by omega) (fun n u _ => shV_len _ _ n u) hb hvv hE
   have f0 := b0.setb (d := 57) (b := false) rfl (decide_eq_false v0)
   refine wp_cond_false (f0.ev rfl) ?_
   refine wp_exit ?_
   refine x_then_e ?_
   refine x_then_e ?_
   refine x_block_eq ?_
   refine x_then_n (t0 _ _ ?_)
   refine wsc (fun t0 v0 => ?_)
   refine m_loadN (i := 0) (vs := [.int .i64 (((nth t (t.length - 1)).K)), .int .i64 (((nth t (t.length - 1)).N)), .int .i64 (((nth t (t.length - 1)).M)), .string ((nth t (t.length - 1)).S)]) sv f0 d0 rfl rfl rfl rfl rfl Tryd.underlying39 rfl sz39 (by decide) (fun t0 b0 => ?_)
   refine mv b0 (fun t0 f0 => ?_)
   have t0 := d0.nf
   have d0 := own_cap (t0.res (i := 1) rfl)
   obtain ⟨b0, u0⟩ := t0.row_data (i := 1) rfl (fun _ h => h)
   have t0 := b0.data (dRow 1 Ao ((Ls).length) co (encSs Ls)) ⟨d0, u0⟩
   refine k_call (xs := [.tmp 83, .tmp 84]) se f0 rfl rfl rfl (by decide) ok26 (rof_calls _ _ t0.il (nth t (t.length - 1)) _ _ _ (t0.g 5) (t0.g 4) (hl := (by omega)) (hb := (by rw [hL]; omega))) ?_
   rintro f0 u0 ⟨b0, d0, rfl, x0, p0⟩
   have u0 := t0.below x0.below
   have x0 := t0.dN u0 p0
   refine ⟨_, rfl, fun u0 p0 => ?_⟩
   refine asg p0 (fun u0 t0 => ?_)
   refine asg t0 (fun u0 p0 => ?_)
   refine wpList_nil (x_then_n (v0 _ _ ?_))
   refine wp_ret ?_
   refine e_ret2 p0 rfl rfl rfl rfl ?_
   have p0 : trL (shV b fr) t u = (lsts Ls).flatten ++ [(nth t (t.length - 1))] := by rw [y0, hL]
   rw [p0]
   refine ⟨b0, d0, ?_, x0.fr, x0.rx 6⟩
   exact ret_t2 rfl (ret_i (by first | omega | (rw [(sh_low hb (by omega) (by omega) (by omega)).1]) | (rw [(sh_high hb (by omega) (by omega) (by omega) (by omega)).1]) | (rw [(sh_good hb (by omega) (by omega) (by omega) (by omega)).1]) | (rw [hs1, hpe, hbl]; done) | (rw [k0]; done)))
theorem rshift_calls (w0 : World) (Z : Nat → Prop) (hZ : ∀ k, Z k → k < w0.heap.size) (tA : Option Addr) (tc : Nat) (t : List Nd) (b : Int) (fr : Int) (u : Int) (ht : (dRow 4 tA t.length tc (encNs t)).φ w0 Z) (hl : t.length ≤ 1000000 := by first | assumption | omega | (simp; done) | (simp; omega)) (hsm : sml t := by first | assumption | omega | (simp; done) | (simp; omega)) (hb : measB t = true := by first | assumption | omega | (simp; done) | (simp; omega)) (hu0 : 0 ≤ u := by first | assumption | omega | (simp; done) | (simp; omega)) (hub : u + 2 * t.length ≤ 10000000 := by first | assumption | omega | (simp; done) | (simp; omega)) (hb1 : -1000000 ≤ b := by first | assumption | omega | (simp; done) | (simp; omega)) (hb2 : b ≤ 1000000 := by first | assumption | omega | (simp; done) | (simp; omega)) :
    Calls Tryd.prog 43 [.slice tA t.length tc, .int .i64 b, .int .i64 fr, .int .i64 u].toArray w0 (fun e w' => ∃ (rA0 : Option Addr) (rc0 : Nat), e = .returned (.tuple #[.slice rA0 (trL (shV b fr) t u).length rc0, .int .i64 (trEL (shV b fr) t u)]) ∧ Fr none_ w0 w' ∧ (dRow 4 rA0 ((trL (shV b fr) t u).length) rc0 (encNs (trL (shV b fr) t u))).φ w' (nxt Z w0 w')) := rshift_calls_rec _ w0 Z hZ tA tc t b fr u ht hl hsm hb hu0 hub hb1 hb2 rfl
set_option maxRecDepth 100000 in
set_option maxHeartbeats 1000000 in
theorem rShift_calls (w0 : World) (Z : Nat → Prop) (hZ : ∀ k, Z k → k < w0.heap.size) (tA : Option Addr) (tc : Nat) (t : List Nd) (b : Int) (fr : Int) (ht : (dRow 4 tA t.length tc (encNs t)).φ w0 Z) (hl : t.length ≤ 1000000 := by first | assumption | omega | (simp; done) | (simp; omega)) (hsm : sml t := by first | assumption | omega | (simp; done) | (simp; omega)) :
    Calls Tryd.prog 21 [.slice tA t.length tc, .int .i64 b, .int .i64 fr].toArray w0 (fun e w' => ∃ (rA0 : Option Addr) (rc0 : Nat), e = .returned (.tuple #[.slice rA0 (sfA t b fr).length rc0, .int .i64 (sfE t b fr)]) ∧ Fr none_ w0 w' ∧ (dRow 4 rA0 ((sfA t b fr).length) rc0 (encNs (sfA t b fr))).φ w' (nxt Z w0 w')) := by
 have b0 := s0 (M := none_) hZ (zc ht zn)
 refine c_enter Tryd.func21 rfl Tryd.ntmps21 rfl (fun c0 d0 => ?_)
 refine wsc (fun c0 f0 => ?_)
 refine asg d0 (fun c0 h0 => ?_)
 refine asg h0 (fun c0 d0 => ?_)
 refine wpList_nil (x_then_n (f0 _ _ ?_))
 refine wsc (fun f0 c0 => ?_)
 refine mv d0 (fun f0 h0 => ?_)
 have f0 := b0.nf
 refine k_call (xs := [.tmp 9]) se h0 rfl rfl rfl (by decide) ok24 (rcheck_calls _ _ f0.il _ _ _ (f0.g 0)) ?_
 rintro h0 b0 ⟨rfl, d0⟩
 have b0 := f0.below d0.below
 refine ⟨_, rfl, fun d0 f0 => ?_⟩
 refine asg f0 (fun d0 h0 => ?_)
 refine wpList_nil (x_then_n (c0 _ _ ?_))
 refine wp_seq_k (fun c0 d0 => ?_)
 refine wsc (fun c0 f0 => ?_)
 refine mv h0 (fun c0 i0 => ?_)
 refine r_neq sv i0 rfl rfl rfl rfl (by decide) (fun c0 h0 => ?_)
 refine wpList_nil (x_then_n (f0 _ _ ?_))
 rcases Decidable.em (((chk t)) = 0) with f0 | f0
 ·
  have c0 := h0.setb (d := 12) (b := false) rfl (by rw [(decide_eq_true f0)]; rfl)
  refine wp_cond_false (c0.ev rfl) ?_
  refine wp_skip ?_
  refine x_then_n (d0 _ _ ?_)
  refine wsc (fun d0 i0 => ?_)
  refine mv c0 (fun d0 j0 => ?_)
  refine mv j0 (fun d0 c0 => ?_)
  have d0 := b0.nf
  refine k_call (xs := [.tmp 15]) se c0 rfl rfl rfl (by decide) ok44 (rclamp_calls _ _ d0.il (b)) ?_
  rintro c0 j0 ⟨rfl, k0⟩
  have j0 := d0.below k0.below
  refine ⟨_, rfl, fun k0 d0 => ?_⟩
  refine mv d0 (fun k0 c0 => ?_)
  have k0 := j0.nf
  refine k_call (xs := [.tmp 17]) se c0 rfl rfl rfl (by decide) ok44 (rclamp_calls _ _ k0.il (fr)) ?_
  rintro c0 j0 ⟨rfl, d0⟩
  have j0 := k0.below d0.below
  refine ⟨_, rfl, fun d0 k0 => ?_⟩
  refine r_max sv k0 rfl rfl rfl rfl rfl (by decide) (fun d0 c0 => ?_)
  have d0 := j0.nf
  refine k_call (xs := [.tmp 14, .tmp 16, .tmp 19, .const (.int .i64 0)]) se c0 rfl rfl rfl (by decide) ok43 (rshift_calls _ _ d0.il _ _ _ ((clamp (b))) ((max 0 ((clamp (fr))))) 0 (d0.g 0) (hl := hl) (hsm := hsm) (hb := (meas_chk (by omega))) (hu0 := (by omega)) (hub := (by omega)) (hb1 := (by unfold clamp; omega)) (hb2 := (by unfold clamp; omega))) ?_
  rintro c0 j0 ⟨k0, m0, rfl, n0, o0⟩
  have j0 := d0.below n0.below
  have n0 := d0.dN j0 o0
  refine ⟨_, rfl, fun j0 o0 => ?_⟩
  refine r_extract sv o0 rfl rfl rfl rfl (by decide) (fun j0 d0 => ?_)
  refine r_extract sv d0 rfl rfl rfl rfl (by decide) (fun j0 o0 => ?_)
  refine asg o0 (fun j0 d0 => ?_)
  refine asg d0 (fun j0 o0 => ?_)
  refine wpList_nil (x_then_n (i0 _ _ ?_))
  refine wp_ret ?_
  refine e_ret2 o0 rfl rfl rfl rfl ?_
  have o0 : sfA t b fr = trL (shV ((clamp (b))) ((max 0 ((clamp (fr)))))) t 0 := (sfE_ok (by omega)).2
  rw [o0]
  refine ⟨k0, m0, ?_, n0.fr, n0.rx 1⟩
  exact ret_t2 rfl (ret_i (by first | (rw [(sfE_no (by omega)).1]; done) | (rw [(sfE_ok (by omega)).1]; done)))
 ·
  have n0 := h0.setb (d := 12) (b := true) rfl (by rw [(decide_eq_false f0)]; rfl)
  refine wp_cond_true (n0.ev rfl) ?_
  refine wsc (fun f0 h0 => ?_)
  refine mv n0 (fun f0 m0 => ?_)
  refine asg m0 (fun f0 n0 => ?_)
  refine asg n0 (fun f0 m0 => ?_)
  refine wpList_nil (x_then_n (h0 _ _ ?_))
  refine wp_ret ?_
  refine x_then_r ?_
  refine e_ret2 m0 rfl rfl rfl rfl ?_
  have m0 : sfA t b fr = [] := (sfE_no (by omega)).2
  rw [m0]
  refine ⟨none, 0, ?_, b0.fr, ⟨Nat.le_refl _, RowI.nil _ _ _ _⟩⟩
  exact ret_t2 rfl (ret_i (by first | (rw [(sfE_no (by omega)).1]; done) | (rw [(sfE_ok (by omega)).1]; done)))
end Go.Proofs.YtcfponnkfhkbdaaDoor
/- Contracts of functions, one theorem each: what the call returns, and that nothing old is changed. Printed by gen.py. -/
namespace Go.Proofs.YtcfponnkfhkbdaaDoor
open Go Go.RowKit
set_option linter.unusedSimpArgs false
set_option linter.unusedVariables false
set_option maxRecDepth 100000 in
set_option maxHeartbeats 1000000 in
theorem rput_calls_rec (rn : Nat) : ∀ (w0 : World) (Z : Nat → Prop) (hZ : ∀ k, Z k → k < w0.heap.size) (tA : Option Addr) (tc : Nat) (t : List Nd) (k : Int) (u : Int) (pA : Option Addr) (pc : Nat) (p : List Sl) (ht : (dRow 4 tA t.length tc (encNs t)).φ w0 Z) (hp : (dRow 1 pA p.length pc (encSs p)).φ w0 Z) (hps : (dAll p).φ w0 Z) (hl : t.length ≤ 1000000) (hsm : sml t) (hb : measB t = true) (hu0 : 0 ≤ u) (hub : u + 2 * t.length ≤ 10000000) (hl4 : t.length ≤ 4000) (hp1 : p.length ≤ 1000) (hp2 : ∀ x ∈ lsts p, x.length ≤ 4000) (hp3 : ∀ x ∈ lsts p, sml x) (hk0 : 0 ≤ k) (hk1 : k ≤ 1000000) (hrn : t.length = rn),
    Calls Tryd.prog 71 [.slice tA t.length tc, .int .i64 k, .int .i64 u, .slice pA p.length pc].toArray w0 (fun e w' => ∃ (rA0 : Option Addr) (rc0 : Nat), e = .returned (.tuple #[.slice rA0 (trL (puV k (lsts p)) t u).length rc0, .int .i64 (trEL (puV k (lsts p)) t u)]) ∧ Fr none_ w0 w' ∧ (dRow 4 rA0 ((trL (puV k (lsts p)) t u).length) rc0 (encNs (trL (puV k (lsts p)) t u))).φ w' (nxt Z w0 w')) := by
 induction rn using Nat.strongRecOn
 rename_i rn ih
 intro w0 Z hZ tA tc t k u pA pc p ht hp hps hl hsm hb hu0 hub hl4 hp1 hp2 hp3 hk0 hk1 hrn
 have b0 := s0 (M := none_) hZ (zc ht (zc hp (zc hps zn)))
 have hp0 := meas_pos hb
 have hrt := right_at hb (show t.length - 1 < t.length by omega)
 have hbl := bindL_right hrt
 have hbm := bindL_many hrt
 have hpm := ptL_length hb
 have hpl4 := hp2
 refine c_enter Tryd.func71 rfl Tryd.ntmps71 rfl (fun c0 d0 => ?_)
 refine wsc (fun c0 f0 => ?_)
 refine asg d0 (fun c0 h0 => ?_)
 refine asg h0 (fun c0 d0 => ?_)
 refine wpList_nil (x_then_n (f0 _ _ ?_))
 refine wsc (fun f0 c0 => ?_)
 refine mv d0 (fun f0 h0 => ?_)
 have f0 := b0.nf
 refine k_call (xs := [.tmp 19]) se h0 rfl rfl rfl (by decide) ok23 (rroot_calls _ _ f0.il _ _ _ (f0.g 0)) ?_
 rintro h0 b0 ⟨rfl, d0⟩
 have b0 := f0.below d0.below
 refine ⟨_, rfl, fun d0 f0 => ?_⟩
 refine m_alloc (cs := [.int .i64 0, .int .i64 0, .int .i64 0, .string (⟨#[]⟩ : ByteArray)]) sv f0 b0 rfl rfl ze39 rfl (by decide) (fun d0 h0 i0 j0 k0 => ?_)
 refine m_store (i := 0) (cs' := [.int .i64 (((nth t (t.length - 1)).K)), .int .i64 (((nth t (t.length - 1)).N)), .int .i64 (((nth t (t.length - 1)).M)), .string ((nth t (t.length - 1)).S)]) se j0 k0 rfl rfl rfl rfl rfl sz39 rfl rfl rfl (fun h0 d0 f0 b0 => ?_)
 refine wpList_nil (x_then_n (c0 _ _ ?_))
 refine wp_seq_k (fun c0 d0 => ?_)
 refine wsc (fun c0 h0 => ?_)
 refine m_field (j' := 0) sv f0 rfl rfl rfl Tryd.underlying39 rfl sz3 rfl rfl (by decide) (fun c0 k0 => ?_)
 refine m_load (i := 0) sv k0 b0 rfl rfl rfl rfl rfl Tryd.underlying3 rfl (by decide) (fun c0 f0 => ?_)
 refine r_eql sv f0 rfl rfl rfl rfl (by decide) (fun c0 k0 => ?_)
 refine wpList_nil (x_then_n (h0 _ _ ?_))
 rcases Decidable.em ((((nth t (t.length - 1)).K)) = 0) with h0 | h0
 ·
  obtain ⟨c0, f0⟩ := var_at hb h0
  have f0 := k0.setb (d := 23) (b := true) rfl (decide_eq_true h0)
  refine wp_cond_true (f0.ev rfl) ?_
  refine wsc (fun c0 j0 => ?_)
  refine m_field (j' := 1) sv f0 rfl rfl rfl Tryd.underlying39 rfl sz3 rfl rfl (by decide) (fun c0 m0 => ?_)
  refine m_load (i := 0) sv m0 b0 rfl rfl rfl rfl rfl Tryd.underlying3 rfl (by decide) (fun c0 f0 => ?_)
  refine mv f0 (fun c0 m0 => ?_)
  refine r_sub (z := (((nth t (t.length - 1)).N) - u)) sv m0 rfl rfl rfl rfl (by decide) (by omega) (by omega) (by omega) (fun c0 f0 => ?_)
  refine asg f0 (fun c0 m0 => ?_)
  refine wpList_nil (x_then_n (j0 _ _ ?_))
  refine wp_seq_k (fun j0 c0 => ?_)
  refine wsc (fun j0 f0 => ?_)
  refine mv m0 (fun j0 n0 => ?_)
  refine mv n0 (fun j0 m0 => ?_)
  refine r_lss sv m0 rfl rfl rfl rfl (by decide) (fun j0 n0 => ?_)
  refine wpList_nil (x_then_n (f0 _ _ ?_))
  rcases Decidable.em ((((nth t (t.length - 1)).N) - u) < (k)) with f0 | f0
  ·
   have j0 := n0.setb (d := 30) (b := true) rfl (decide_eq_true f0)
   refine wp_cond_true (j0.ev rfl) ?_
   refine wsc (fun m0 o0 => ?_)
   refine mv j0 (fun m0 p0 => ?_)
   refine asg p0 (fun m0 j0 => ?_)
   refine asg j0 (fun m0 p0 => ?_)
   refine wpList_nil (x_then_n (o0 _ _ ?_))
   refine wp_ret ?_
   refine x_then_r ?_
   refine x_then_r ?_
   refine e_ret2 p0 rfl rfl rfl rfl ?_
   have p0 : trL (puV k (lsts p)) t u = t := (pu_lt hb (by omega) (by omega)).2
   rw [p0]
   refine ⟨tA, tc, ?_, b0.fr, b0.rx 0⟩
   exact ret_t2 rfl (ret_i (by first | (rw [(pu_lt hb (by omega) (by omega)).1]; done) | (rw [(pu_in hb (by omega) (by omega) (by rw [lsts_len]; omega)).1, lsts_nth]; rfl) | (rw [(pu_ge hb (by omega) (by omega) (by rw [lsts_len]; omega)).1]; done) | (rw [hs1, hpe, hbl]; done) | (rw [p0]; done)))
  ·
   have o0 := n0.setb (d := 30) (b := false) rfl (decide_eq_false f0)
   refine wp_cond_false (o0.ev rfl) ?_
   refine wp_skip ?_
   refine x_then_n (c0 _ _ ?_)
   refine wp_seq_k (fun c0 f0 => ?_)
   refine wsc (fun c0 n0 => ?_)
   refine mv o0 (fun c0 m0 => ?_)
   refine mv m0 (fun c0 o0 => ?_)
   refine mv o0 (fun c0 m0 => ?_)
   refine r_len sv m0 rfl rfl rfl rfl Tryd.underlying42 (by decide) (fun c0 o0 => ?_)
   refine r_add (z := (k + ((p.length : Nat) : Int))) sv o0 rfl rfl rfl rfl (by decide) (by omega) (by omega) (by omega) (fun c0 m0 => ?_)
   refine r_lss sv m0 rfl rfl rfl rfl (by decide) (fun c0 o0 => ?_)
   refine wpList_nil (x_then_n (n0 _ _ ?_))
   rcases Decidable.em ((((nth t (t.length - 1)).N) - u) < (k + ((p.length : Nat) : Int))) with n0 | n0
   ·
    have c0 := o0.setb (d := 37) (b := true) rfl (decide_eq_true n0)
    refine wp_cond_true (c0.ev rfl) ?_
    refine wsc (fun m0 j0 => ?_)
    refine mv c0 (fun m0 q0 => ?_)
    refine mv q0 (fun m0 c0 => ?_)
    refine mv c0 (fun m0 q0 => ?_)
    refine r_sub (z := (((nth t (t.length - 1)).N) - u - k)) sv q0 rfl rfl rfl rfl (by decide) (by omega) (by omega) (by omega) (fun m0 c0 => ?_)
    refine m_index (i := ((((nth t (t.length - 1)).N) - u - k)).toNat) (j := (((((nth t (t.length - 1)).N) - u - k)).toNat) * 1) sv c0 rfl rfl rfl rfl Tryd.underlying42 sz22 (by omega) (by omega) (ss_elem (t := p) (k := ((((nth t (t.length - 1)).N) - u - k)).toNat) (b0.row (i := 1) rfl).2 (by omega)).some_ rfl (by decide) (fun m0 q0 => ?_)
    refine m_loadE sv q0 rfl rfl rfl 0 ((((((nth t (t.length - 1)).N) - u - k)).toNat) * 1) (ss_elem (t := p) (k := ((((nth t (t.length - 1)).N) - u - k)).toNat) (b0.row (i := 1) rfl).2 (by omega)) rfl rfl Tryd.underlying22 rfl (by decide) (fun m0 c0 => ?_)
    have m0 := b0.data (dRow 4 ((nthS p (((((nth t (t.length - 1)).N) - u - k)).toNat)).1) ((nthS p (((((nth t (t.length - 1)).N) - u - k)).toNat)).2.2.length) ((nthS p (((((nth t (t.length - 1)).N) - u - k)).toNat)).2.1) (encNs ((nthS p (((((nth t (t.length - 1)).N) - u - k)).toNat)).2.2))) (all_at (t := p) (k := ((((nth t (t.length - 1)).N) - u - k)).toNat) (b0.get (i := 2) rfl) (by omega))
    refine mv c0 (fun q0 t0 => ?_)
    refine mv t0 (fun q0 c0 => ?_)
    refine r_add (z := (u + k)) sv c0 rfl rfl rfl rfl (by decide) (by omega) (by omega) (by omega) (fun q0 t0 => ?_)
    have q0 := m0.nf
    refine k_call (xs := [.tmp 43, .tmp 46, .const (.int .i64 0)]) se t0 rfl rfl rfl (by decide) ok21 (rShift_calls _ _ q0.il _ _ ((nthS p (((((nth t (t.length - 1)).N) - u - k)).toNat)).2.2) (u + k) 0 (q0.g 3) (hl := (Nat.le_trans (hp2 _ (by rw [lsts_nth]; exact nthL_mem (by rw [lsts_len]; omega))) (by omega))) (hsm := (hp3 _ (by rw [lsts_nth]; exact nthL_mem (by rw [lsts_len]; omega))))) ?_
    rintro t0 m0 ⟨c0, u0, rfl, v0, x0⟩
    have m0 := q0.below v0.below
    have v0 := q0.dN m0 x0
    refine ⟨_, rfl, fun m0 x0 => ?_⟩
    refine r_extract sv x0 rfl rfl rfl rfl (by decide) (fun m0 q0 => ?_)
    refine r_extract sv q0 rfl rfl rfl rfl (by decide) (fun m0 x0 => ?_)
    refine asg x0 (fun m0 q0 => ?_)
    refine asg q0 (fun m0 x0 => ?_)
    refine wpList_nil (x_then_n (j0 _ _ ?_))
    refine wp_ret ?_
    refine x_then_r ?_
    refine x_then_r ?_
    refine e_ret2 x0 rfl rfl rfl rfl ?_
    have x0 : trL (puV k (lsts p)) t u = sfA ((nthS p (((((nth t (t.length - 1)).N) - u - k)).toNat)).2.2) (u + k) 0 := by rw [(pu_in hb (by omega) (by omega) (by rw [lsts_len]; omega)).2, lsts_nth]; rfl
    rw [x0]
    refine ⟨c0, u0, ?_, v0.fr, v0.rx 4⟩
    exact ret_t2 rfl (ret_i (by first | (rw [(pu_lt hb (by omega) (by omega)).1]; done) | (rw [(pu_in hb (by omega) (by omega) (by rw [lsts_len]; omega)).1, lsts_nth]; rfl) | (rw [(pu_ge hb (by omega) (by omega) (by rw [lsts_len]; omega)).1]; done) | (rw [hs1, hpe, hbl]; done) | (rw [p0]; done)))
   ·
    have v0 := o0.setb (d := 37) (b := false) rfl (decide_eq_false n0)
    refine wp_cond_false (v0.ev rfl) ?_
    refine wp_skip ?_
    refine x_then_n (f0 _ _ ?_)
    refine wsc (fun f0 n0 => ?_)
    refine m_field (j' := 1) sv v0 rfl rfl rfl Tryd.underlying39 rfl sz3 rfl rfl (by decide) (fun f0 o0 => ?_)
    refine m_load (i := 0) sv o0 b0 rfl rfl rfl rfl rfl Tryd.underlying3 rfl (by decide) (fun f0 v0 => ?_)
    refine mv v0 (fun f0 o0 => ?_)
    refine r_len sv o0 rfl rfl rfl rfl Tryd.underlying42 (by decide) (fun f0 v0 => ?_)
    refine r_sub (z := (((nth t (t.length - 1)).N) - ((p.length : Nat) : Int))) sv v0 rfl rfl rfl rfl (by decide) (by omega) (by omega) (by omega) (fun f0 o0 => ?_)
    refine m_build (ps := [(0, .const (.int .i64 0)), (1, .tmp 54)]) (v := .agg #[.int .i64 0, .int .i64 (((nth t (t.length - 1)).N) - ((p.length : Nat) : Int)), .int .i64 0, .string (⟨#[]⟩ : ByteArray)]) sv o0 rfl rfl rfl (fun _ => by kernel_rfl) (by decide) (fun f0 v0 => ?_)
    refine mbs [(0, .tmp 55)] [.int .i64 0, .int .i64 (((nth t (t.length - 1)).N) - ((p.length : Nat) : Int)), .int .i64 0, .string (⟨#[]⟩ : ByteArray)] sv v0 b0 Tryd.underlying22 zi39 (fun f0 o0 u0 c0 x0 => ?_)
    refine asg c0 (fun o0 f0 => ?_)
    refine asg f0 (fun o0 c0 => ?_)
    refine wpList_nil (x_then_n (n0 _ _ ?_))
    refine wp_ret ?_
    refine x_then_r ?_
    refine e_ret2 c0 rfl rfl rfl rfl ?_
    have c0 : trL (puV k (lsts p)) t u = [(⟨0, (((nth t (t.length - 1)).N) - ((p.length : Nat) : Int)), 0, (⟨#[]⟩ : ByteArray)⟩ : Nd)] := by rw [(pu_ge hb (by omega) (by omega) (by rw [lsts_len]; omega)).2, lsts_len]
    rw [c0]
    have c0 := own_cap (x0.res (i := 1) rfl)
    obtain ⟨n0, o0⟩ := x0.row_data (i := 1) rfl (fun _ h => h)
    have x0 := n0.data (dRow 4 (some ⟨u0, 0, none⟩) 1 1 (encNs ([(⟨0, (((nth t (t.length - 1)).N) - ((p.length : Nat) : Int)), 0, (⟨#[]⟩ : ByteArray)⟩ : Nd)]))) ⟨c0, o0⟩
    refine ⟨(some ⟨u0, 0, none⟩), 1, ?_, x0.fr, x0.rx 3⟩
    exact ret_t2 rfl (ret_i (by first | (rw [(pu_lt hb (by omega) (by omega)).1]; done) | (rw [(pu_in hb (by omega) (by omega) (by rw [lsts_len]; omega)).1, lsts_nth]; rfl) | (rw [(pu_ge hb (by omega) (by omega) (by rw [lsts_len]; omega)).1]; done) | (rw [hs1, hpe, hbl]; done) | (rw [p0]; done)))
 ·
  have x0 := k0.setb (d := 23) (b := false) rfl (decide_eq_false h0)
  refine wp_cond_false (x0.ev rfl) ?_
  refine wp_skip ?_
  refine x_then_n (d0 _ _ ?_)
  refine wsc (fun d0 h0 => ?_)
  refine m_loadN (i := 0) (vs := [.int .i64 (((nth t (t.length - 1)).K)), .int .i64 (((nth t (t.length - 1)).N)), .int .i64 (((nth t (t.length - 1)).M)), .string ((nth t (t.length - 1)).S)]) sv x0 b0 rfl rfl rfl rfl rfl Tryd.underlying39 rfl sz39 (by decide) (fun d0 k0 => ?_)
  have d0 := b0.nf
  refine k_call (xs := [.tmp 58]) se k0 rfl rfl rfl (by decide) ok54 (rbinds_calls _ _ d0.il (nth t (t.length - 1)) (hs := (hsm _ (by omega)))) ?_
  rintro k0 b0 ⟨x0, u0, rfl, o0, n0⟩
  have b0 := d0.below o0.below
  have o0 := d0.dN b0 n0
  refine ⟨_, rfl, fun b0 n0 => ?_⟩
  refine mv n0 (fun b0 d0 => ?_)
  refine r_extract sv d0 rfl rfl rfl rfl (by decide) (fun b0 n0 => ?_)
  refine r_extract sv n0 rfl rfl rfl rfl (by decide) (fun b0 d0 => ?_)
  refine asg d0 (fun b0 n0 => ?_)
  refine asg n0 (fun b0 d0 => ?_)
  refine wpList_nil (x_then_n (h0 _ _ ?_))
  refine wsc (fun h0 b0 => ?_)
  refine mv d0 (fun h0 n0 => ?_)
  have h0 := o0.nf
  refine k_call (xs := [.tmp 62]) se n0 rfl rfl rfl (by decide) ok31 (rparts_calls _ _ h0.il _ _ _ (h0.g 0)) ?_
  rintro n0 o0 ⟨d0, k0, c0, rfl, f0, v0, j0, m0⟩
  have o0 := h0.below f0.below
  have f0 := h0.dN o0 v0
  have o0 := h0.dN f0 j0
  refine ⟨_, rfl, fun f0 j0 => ?_⟩
  refine asg j0 (fun f0 h0 => ?_)
  refine wpList_nil (x_then_n (b0 _ _ ?_))
  refine wsc (fun b0 f0 => ?_)
  have b0 := o0.data (dAll []) all_nil
  refine mbs [] [] sv h0 b0 Tryd.underlying42 zi22 (fun o0 j0 v0 n0 q0 => ?_)
  refine asg n0 (fun j0 o0 => ?_)
  refine wpList_nil (x_then_n (f0 _ _ ?_))
  refine wp_seq_k (fun f0 j0 => ?_)
  refine wsc (fun f0 n0 => ?_)
  refine asg o0 (fun f0 b0 => ?_)
  refine wpList_nil (x_then_n (n0 _ _ ?_))
  refine wp_block ?_
  refine wp_loop_ghost (fun gn ga gw => ∃ j : Nat, ∃ Ls : List Sl, ∃ Ao : Option Addr, ∃ co : Nat, (Reg ga 97 [(1000000, .bool false), (1, .int .i64 (k)), (2, .int .i64 (u)), (3, .slice pA p.length pc), (10, .pointer (some ⟨i0, 0, none⟩)), (12, .slice x0 ((bindL (nth t (t.length - 1))).length) u0), (14, .slice d0 c0.length k0), (16, .int .i64 ((j : Nat) : Int)), (15, .slice Ao ((Ls).length) co)]) ∧ (St w0 Z none_ gw [.box i0 39 [.int .i64 (((nth t (t.length - 1)).K)), .int .i64 (((nth t (t.length - 1)).N)), .int .i64 (((nth t (t.length - 1)).M)), .string ((nth t (t.length - 1)).S)], .row Ao ((Ls).length) co 22 1 (encSs Ls)] [dRow 4 tA t.length tc (encNs t), dRow 1 pA p.length pc (encSs p), dAll p, dRow 1 x0 ((bindL (nth t (t.length - 1))).length) u0 (encIs (bindL (nth t (t.length - 1)))), dRow 1 d0 c0.length k0 (encSs c0), dAll c0, dAll Ls]) ∧ (j ≤ c0.length) ∧ (lsts Ls = trTP (puV k (lsts p)) t u j) ∧ (trEP (puV k (lsts p)) t u j = 0) ∧ (c0.length - j) = gn) _ ⟨0, [], (some ⟨v0, 0, none⟩), 0, (b0.sub (rc rfl (rc rfl (rc rfl (rc rfl (rc rfl (rc rfl (rc rfl (rc rfl (rc rfl rnl)))))))))), q0, by omega, by rw [(tr_zero _ _ _).2]; rfl, (tr_zero _ _ _).1, rfl⟩ ?_
  rintro b0 q0 v0 ⟨j, Ls, Ao, co, k0, d0, hj, hL, hE, u0⟩
  have hrl : c0.length = (ptL t).length := by rw [← lsts_len, m0]
  have hp8 := ptL_le hb
  have hbj : 0 ≤ nthI (bindL (nth t (t.length - 1))) j ∧ nthI (bindL (nth t (t.length - 1))) j ≤ 2 := by rw [hbl]; exact binds_nth j
  have hLn : Ls.length = j := by rw [← lsts_len, hL]; exact trTP_len hb (by omega)
  refine wp_seq_k (fun u0 v0 => ?_)
  refine wsc (fun u0 q0 => ?_)
  refine mv k0 (fun u0 b0 => ?_)
  refine mv b0 (fun u0 k0 => ?_)
  refine r_len sv k0 rfl rfl rfl rfl Tryd.underlying42 (by decide) (fun u0 b0 => ?_)
  refine r_lss sv b0 rfl rfl rfl rfl (by decide) (fun u0 k0 => ?_)
  refine wpList_nil (x_then_n (q0 _ _ ?_))
  rcases Decidable.em (((j : Nat) : Int) < ((c0.length : Nat) : Int)) with q0 | q0
  ·
   obtain ⟨hpe, hpk, hpb, hpl, hps, hp0'⟩ := part_at hb hsm m0 (show j < c0.length by omega)
   have m0 := k0.setb (d := 68) (b := true) rfl (decide_eq_true q0)
   refine wp_cond_true (m0.ev rfl) ?_
   refine wp_skip ?_
   refine x_then_n (v0 _ _ ?_)
   refine wp_seq_k (fun v0 u0 => ?_)
   refine wp_block ?_
   refine wp_seq_k (fun v0 b0 => ?_)
   obtain ⟨v0, x0, n0⟩ := d0.agree
   refine d_reg3 (n := 18) n0 7 pn (pan_then (pan_block (pan_then (pan_then (pan_block (pan_then pan_body)))))) (fun v0 f0 o0 h0 t0 y0 => ?_)
   refine dtM 0 f0 m0 y0 (fun h0 v0 => ?_)
   refine dtM 1 f0 v0 y0 (fun h0 m0 => ?_)
   refine dt 2 rfl f0 m0 (want_n rfl) (fun x hx => m_index (i := j) (j := j * 1) (sy m0) m0 rfl rfl rfl rfl Tryd.underlying42 sz22 (by omega) (by omega) (ss_elem (t := c0) (k := j) (sdat (x0 4 _ rfl) hx.ag).2 (by omega)).some_ rfl (by decide) gt) y0 (fun h0 v0 => ?_)
   refine dt 3 rfl f0 v0 (want_n rfl) (fun x hx => m_loadE (sy v0) v0 rfl rfl rfl 0 (j * 1) (ss_elem (t := c0) (k := j) (sdat (x0 4 _ rfl) hx.ag).2 (by omega)) rfl rfl Tryd.underlying22 rfl (by decide) gt) y0 (fun h0 m0 => ?_)
   have h0 := t0.data (dRow 4 ((nthS c0 j).1) ((nthS c0 j).2.2.length) ((nthS c0 j).2.1) (encNs ((nthS c0 j).2.2))) (all_at (t := c0) (k := j) (t0.get (i := 5) rfl) (by omega))
   refine dtM 4 f0 m0 y0 (fun t0 v0 => ?_)
   refine dtM 5 f0 v0 y0 (fun t0 m0 => ?_)
   refine dtM 6 f0 m0 y0 (fun t0 v0 => ?_)
   refine dtM 7 f0 v0 y0 (fun t0 m0 => ?_)
   refine dt 8 rfl f0 m0 (want_n rfl) (fun x hx => m_index (i := j) (j := j * 1) (sy m0) m0 rfl rfl rfl rfl Tryd.underlying79 sz3 (by omega) (by omega) (ints_elem (t := bindL (nth t (t.length - 1))) (k := j) (sdat (x0 3 _ rfl) hx.ag).2 (by omega)).some_ rfl (by decide) gt) y0 (fun t0 v0 => ?_)
   refine dt 9 rfl f0 v0 (want_n rfl) (fun x hx => m_loadE (sy v0) v0 rfl rfl rfl 0 (j * 1) (ints_elem (t := bindL (nth t (t.length - 1))) (k := j) (sdat (x0 3 _ rfl) hx.ag).2 (by omega)) rfl rfl Tryd.underlying3 rfl (by decide) gt) y0 (fun t0 m0 => ?_)
   refine dt 10 rfl f0 m0 (want_n rfl) (fun x hx => r_add (z := (u + (nthI (bindL (nth t (t.length - 1))) j))) (sy m0) m0 rfl rfl rfl rfl (by decide) (by omega) (by omega) (by omega) gt) y0 (fun t0 v0 => ?_)
   refine dtM 11 f0 v0 y0 (fun t0 m0 => ?_)
   refine d1 12 ?_
   have t0 := h0.nf
   refine k_call (xs := [.tmp 75, .tmp 76, .tmp 82, .tmp 83]) (st_op rfl (want_n rfl)) m0 rfl rfl rfl (by decide) ok71 (ih (((nthS c0 j).2.2).length) (by omega) _ (imm Z w0 [.box i0 39 [.int .i64 (((nth t (t.length - 1)).K)), .int .i64 (((nth t (t.length - 1)).N)), .int .i64 (((nth t (t.length - 1)).M)), .string ((nth t (t.length - 1)).S)], .row Ao ((Ls).length) co 22 1 (encSs Ls)] _) (fun _ h => h.1) _ _ ((nthS c0 j).2.2) (k) (u + (nthI (bindL (nth t (t.length - 1))) j)) _ _ _ (t0.g 8) (t0.g 1) (t0.g 2) (by first | assumption | omega | (simp; done) | (simp; omega)) (by first | assumption | omega | (simp; done) | (simp; omega)) (by first | assumption | omega | (simp; done) | (simp; omega)) (by first | assumption | omega | (simp; done) | (simp; omega)) (by first | assumption | omega | (simp; done) | (simp; omega)) (by first | assumption | omega | (simp; done) | (simp; omega)) (by first | assumption | omega | (simp; done) | (simp; omega)) (by first | assumption | omega | (simp; done) | (simp; omega)) (by first | assumption | omega | (simp; done) | (simp; omega)) (by first | assumption | omega | (simp; done) | (simp; omega)) (by first | assumption | omega | (simp; done) | (simp; omega)) rfl) ?_
   rintro m0 i0 ⟨h0, v0, rfl, y0, x0⟩
   have i0 := t0.below y0.below
   have y0 := t0.dN i0 x0
   refine ⟨_, rfl, fun i0 x0 => ?_⟩
   have i0 := sWI y0 7 pn
   refine ⟨i0, ?_⟩
   refine dtM 13 f0 x0 i0 (fun t0 m0 => ?_)
   refine dt 14 rfl f0 m0 (want_n rfl) (fun x hx => r_extract (sy m0) m0 rfl rfl rfl rfl (by decide) gt) i0 (fun t0 x0 => ?_)
   refine dt 15 rfl f0 x0 (want_n rfl) (fun x hx => r_extract (sy x0) x0 rfl rfl rfl rfl (by decide) gt) i0 (fun t0 m0 => ?_)
   refine dtA 16 f0 m0 i0 (fun t0 x0 => ?_)
   refine dtA 17 f0 x0 i0 (fun t0 m0 => ?_)
   refine wpAnyH_done (by kernel_rfl) (o0 _ _ ?_) _
   refine x_then_n (b0 _ _ ?_)
   refine wp_seq_k (fun b0 o0 => ?_)
   refine wsc (fun b0 t0 => ?_)
   refine mv m0 (fun b0 x0 => ?_)
   refine r_neq sv x0 rfl rfl rfl rfl (by decide) (fun b0 m0 => ?_)
   refine wpList_nil (x_then_n (t0 _ _ ?_))
   rcases Decidable.em (((trEL (puV (k) (lsts p)) ((nthS c0 j).2.2) (u + (nthI (bindL (nth t (t.length - 1))) j)))) = 0) with t0 | t0
   ·
    obtain ⟨hs1, hs2⟩ := tr_step (V := puV k (lsts p)) (u := u) hb hpk hE (by rw [← hpe, ← hbl]; exact t0)
    have b0 := m0.setb (d := 88) (b := false) rfl (by rw [(decide_eq_true t0)]; rfl)
    refine wp_cond_false (b0.ev rfl) ?_
    refine wp_skip ?_
    refine x_then_n (o0 _ _ ?_)
    refine c_region ?_
    refine mv b0 (fun o0 x0 => ?_)
    refine mv x0 (fun o0 b0 => ?_)
    have o0 := y0.data (dAll [((h0, v0, trL (puV (k) (lsts p)) ((nthS c0 j).2.2) (u + (nthI (bindL (nth t (t.length - 1))) j))) : Sl)]) (all_cons (y0.get (i := 9) rfl) all_nil)
    refine mbs [(0, .tmp 91)] [.slice h0 ((trL (puV (k) (lsts p)) ((nthS c0 j).2.2) (u + (nthI (bindL (nth t (t.length - 1))) j))).length) v0] sv b0 o0 Tryd.underlying42 zi22 (fun x0 i0 f0 n0 z0 => ?_)
    refine m_appendF (f := encS) (i := 1) (Ls) ([((h0, v0, trL (puV (k) (lsts p)) ((nthS c0 j).2.2) (u + (nthI (bindL (nth t (t.length - 1))) j))) : Sl)]) sv n0 z0 rfl rfl rfl rfl rfl encS_len (encS_one _) Tryd.underlying42 zi22 rfl rfl (own_lnews (f := encS) (z0.res (i := 2) rfl)) rfl (by first | omega | (simp only [List.length_cons, List.length_nil]; omega)) (by decide) (fun f0 i0 x0 o0 b0 b1 c1 => ?_)
    have b0 : (Ls ++ ([((h0, v0, trL (puV (k) (lsts p)) ((nthS c0 j).2.2) (u + (nthI (bindL (nth t (t.length - 1))) j))) : Sl)]) : List Sl).length = (Ls).length + 1 := by first | (simp only [List.length_append, List.length_take, List.length_cons, List.length_nil]; done) | (simp only [List.length_append, List.length_take, List.length_cons, List.length_nil]; omega)
    have b0 := c1.erase 2
    have c1 := b0.data (dAll (Ls ++ ([((h0, v0, trL (puV (k) (lsts p)) ((nthS c0 j).2.2) (u + (nthI (bindL (nth t (t.length - 1))) j))) : Sl)]))) (all_append (b0.get (i := 6) rfl) (b0.get (i := 10) rfl))
    refine asg b1 (fun b0 i0 => ?_)
    refine wpList_nil ?_
    refine x_block_n ?_
    refine x_then_n (u0 _ _ ?_)
    refine c_region ?_
    refine mv i0 (fun u0 b0 => ?_)
    refine r_add (z := ((j + 1 : Nat) : Int)) sv b0 rfl rfl rfl rfl (by decide) (by omega) (by omega) (by omega) (fun u0 i0 => ?_)
    refine asg i0 (fun u0 b0 => ?_)
    refine wpList_nil ?_
    have u0 := c1.forget 10
    have c1 := u0.forget 9
    have u0 := c1.forget 8
    have c1 := u0.forget 7
    have u0 := c1.forget 6
    exact ⟨_, by omega, j + 1, Ls ++ ([((h0, v0, trL (puV (k) (lsts p)) ((nthS c0 j).2.2) (u + (nthI (bindL (nth t (t.length - 1))) j))) : Sl)]), x0, o0, (b0.sub (rc rfl (rc rfl (rc rfl (rc rfl (rc rfl (rc rfl (rc rfl (rc rfl (rc rfl rnl)))))))))), u0, by omega, (by rw [lsts_app, lsts_one, hL, hs2, hpe, hbl]), hs1, rfl⟩
   ·
    obtain ⟨hs1, hs2⟩ := tr_bad (V := puV k (lsts p)) (u := u) hb hpk hE (by rw [← hpe, ← hbl]; exact t0)
    have u0 := m0.setb (d := 88) (b := true) rfl (by rw [(decide_eq_false t0)]; rfl)
    refine wp_cond_true (u0.ev rfl) ?_
    refine wsc (fun t0 m0 => ?_)
    refine mv u0 (fun t0 b0 => ?_)
    refine asg b0 (fun t0 u0 => ?_)
    refine asg u0 (fun t0 b0 => ?_)
    refine wpList_nil (x_then_n (m0 _ _ ?_))
    refine wp_ret ?_
    refine x_then_r ?_
    refine x_block_r ?_
    refine x_then_r ?_
    refine x_then_r ?_
    refine x_block_r ?_
    refine x_then_r ?_
    refine e_ret2 b0 rfl rfl rfl rfl ?_
    have b0 : trL (puV k (lsts p)) t u = [] := hs2
    rw [b0]
    refine ⟨none, 0, ?_, y0.fr, ⟨Nat.le_refl _, RowI.nil _ _ _ _⟩⟩
    exact ret_t2 rfl (ret_i (by first | (rw [(pu_lt hb (by omega) (by omega)).1]; done) | (rw [(pu_in hb (by omega) (by omega) (by rw [lsts_len]; omega)).1, lsts_nth]; rfl) | (rw [(pu_ge hb (by omega) (by omega) (by rw [lsts_len]; omega)).1]; done) | (rw [hs1, hpe, hbl]; done) | (rw [p0]; done)))
  ·
   have hj2 : j = (ptL t).length := by omega
   rw [hj2] at hE hL
   have hvv : (nth t (t.length - 1)).K = 0 → (puV k (lsts p)) (nth t (t.length - 1)) u = (0, .mk (nth t (t.length - 1)) []) := by intro hk; omega
   obtain ⟨p0, y0⟩ := tr_end hb hvv hE
   have hdn := tr_nm (V := puV k (lsts p)) (b := 4000) (by omega) (puV_len (by omega) hpl4) hb hvv hE
   have b0 := k0.setb (d := 68) (b := false) rfl (decide_eq_false q0)
   refine wp_cond_false (b0.ev rfl) ?_
   refine wp_exit ?_
   refine x_then_e ?_
   refine x_then_e ?_
   refine x_block_eq ?_
   refine x_then_n (j0 _ _ ?_)
   refine wsc (fun j0 q0 => ?_)
   refine m_loadN (i := 0) (vs := [.int .i64 (((nth t (t.length - 1)).K)), .int .i64 (((nth t (t.length - 1)).N)), .int .i64 (((nth t (t.length - 1)).M)), .string ((nth t (t.length - 1)).S)]) sv b0 d0 rfl rfl rfl rfl rfl Tryd.underlying39 rfl sz39 (by decide) (fun j0 k0 => ?_)
   refine mv k0 (fun j0 b0 => ?_)
   have j0 := d0.nf
   have d0 := own_cap (j0.res (i := 1) rfl)
   obtain ⟨k0, m0⟩ := j0.row_data (i := 1) rfl (fun _ h => h)
   have j0 := k0.data (dRow 1 Ao ((Ls).length) co (encSs Ls)) ⟨d0, m0⟩
   refine k_call (xs := [.tmp 94, .tmp 95]) se b0 rfl rfl rfl (by decide) ok26 (rof_calls _ _ j0.il (nth t (t.length - 1)) _ _ _ (j0.g 7) (j0.g 6) (hl := (by omega)) (hb := (by rw [hL]; omega))) ?_
   rintro b0 m0 ⟨k0, d0, rfl, t0, u0⟩
   have m0 := j0.below t0.below
   have t0 := j0.dN m0 u0
   refine ⟨_, rfl, fun m0 u0 => ?_⟩
   refine asg u0 (fun m0 j0 => ?_)
   refine asg j0 (fun m0 u0 => ?_)
   refine wpList_nil (x_then_n (q0 _ _ ?_))
   refine wp_ret ?_
   refine e_ret2 u0 rfl rfl rfl rfl ?_
   have u0 : trL (puV k (lsts p)) t u = (lsts Ls).flatten ++ [(nth t (t.length - 1))] := by rw [y0, hL]
   rw [u0]
   refine ⟨k0, d0, ?_, t0.fr, t0.rx 8⟩
   exact ret_t2 rfl (ret_i (by first | (rw [(pu_lt hb (by omega) (by omega)).1]; done) | (rw [(pu_in hb (by omega) (by omega) (by rw [lsts_len]; omega)).1, lsts_nth]; rfl) | (rw [(pu_ge hb (by omega) (by omega) (by rw [lsts_len]; omega)).1]; done) | (rw [hs1, hpe, hbl]; done) | (rw [p0]; done)))
theorem rput_calls (w0 : World) (Z : Nat → Prop) (hZ : ∀ k, Z k → k < w0.heap.size) (tA : Option Addr) (tc : Nat) (t : List Nd) (k : Int) (u : Int) (pA : Option Addr) (pc : Nat) (p : List Sl) (ht : (dRow 4 tA t.length tc (encNs t)).φ w0 Z) (hp : (dRow 1 pA p.length pc (encSs p)).φ w0 Z) (hps : (dAll p).φ w0 Z) (hl : t.length ≤ 1000000 := by first | assumption | omega | (simp; done) | (simp; omega)) (hsm : sml t := by first | assumption | omega | (simp; done) | (simp; omega)) (hb : measB t = true := by first | assumption | omega | (simp; done) | (simp; omega)) (hu0 : 0 ≤ u := by first | assumption | omega | (simp; done) | (simp; omega)) (hub : u + 2 * t.length ≤ 10000000 := by first | assumption | omega | (simp; done) | (simp; omega)) (hl4 : t.length ≤ 4000 := by first | assumption | omega | (simp; done) | (simp; omega)) (hp1 : p.length ≤ 1000 := by first | assumption | omega | (simp; done) | (simp; omega)) (hp2 : ∀ x ∈ lsts p, x.length ≤ 4000 := by first | assumption | omega | (simp; done) | (simp; omega)) (hp3 : ∀ x ∈ lsts p, sml x := by first | assumption | omega | (simp; done) | (simp; omega)) (hk0 : 0 ≤ k := by first | assumption | omega | (simp; done) | (simp; omega)) (hk1 : k ≤ 1000000 := by first | assumption | omega | (simp; done) | (simp; omega)) :
    Calls Tryd.prog 71 [.slice tA t.length tc, .int .i64 k, .int .i64 u, .slice pA p.length pc].toArray w0 (fun e w' => ∃ (rA0 : Option Addr) (rc0 : Nat), e = .returned (.tuple #[.slice rA0 (trL (puV k (lsts p)) t u).length rc0, .int .i64 (trEL (puV k (lsts p)) t u)]) ∧ Fr none_ w0 w' ∧ (dRow 4 rA0 ((trL (puV k (lsts p)) t u).length) rc0 (encNs (trL (puV k (lsts p)) t u))).φ w' (nxt Z w0 w')) := rput_calls_rec _ w0 Z hZ tA tc t k u pA pc p ht hp hps hl hsm hb hu0 hub hl4 hp1 hp2 hp3 hk0 hk1 rfl
set_option maxRecDepth 100000 in
set_option maxHeartbeats 1000000 in
theorem rPut_calls (w0 : World) (Z : Nat → Prop) (hZ : ∀ k, Z k → k < w0.heap.size) (tA : Option Addr) (tc : Nat) (t : List Nd) (k : Int) (pA : Option Addr) (pc : Nat) (p : List Sl) (ht : (dRow 4 tA t.length tc (encNs t)).φ w0 Z) (hp : (dRow 1 pA p.length pc (encSs p)).φ w0 Z) (hps : (dAll p).φ w0 Z) (hl : t.length ≤ 1000000 := by first | assumption | omega | (simp; done) | (simp; omega)) (hsm : sml t := by first | assumption | omega | (simp; done) | (simp; omega)) (hb : measB t = true := by first | assumption | omega | (simp; done) | (simp; omega)) (hl4 : t.length ≤ 4000 := by first | assumption | omega | (simp; done) | (simp; omega)) (hp1 : p.length ≤ 1000 := by first | assumption | omega | (simp; done) | (simp; omega)) (hp2 : ∀ x ∈ lsts p, x.length ≤ 4000 := by first | assumption | omega | (simp; done) | (simp; omega)) (hp3 : ∀ x ∈ lsts p, sml x := by first | assumption | omega | (simp; done) | (simp; omega)) (hk0 : 0 ≤ k := by first | assumption | omega | (simp; done) | (simp; omega)) (hk1 : k ≤ 1000000 := by first | assumption | omega | (simp; done) | (simp; omega)) :
    Calls Tryd.prog 47 [.slice tA t.length tc, .int .i64 k, .slice pA p.length pc].toArray w0 (fun e w' => ∃ (rA0 : Option Addr) (rc0 : Nat), e = .returned (.tuple #[.slice rA0 (poA t k (lsts p)).length rc0, .int .i64 (poE t k (lsts p))]) ∧ Fr none_ w0 w' ∧ (dRow 4 rA0 ((poA t k (lsts p)).length) rc0 (encNs (poA t k (lsts p)))).φ w' (nxt Z w0 w')) := by
 have b0 := s0 (M := none_) hZ (zc ht (zc hp (zc hps zn)))
 have hxl := trL_len (b := 4000) (by omega) (puV_len (k := k) (by omega) hp2) hb 0
 have hxs := trL_sml (puV_sml (k := k) hp3) hb hsm 0
 refine c_enter Tryd.func47 rfl Tryd.ntmps47 rfl (fun c0 d0 => ?_)
 refine wsc (fun c0 f0 => ?_)
 refine asg d0 (fun c0 h0 => ?_)
 refine asg h0 (fun c0 d0 => ?_)
 refine wpList_nil (x_then_n (f0 _ _ ?_))
 refine wsc (fun f0 c0 => ?_)
 refine mv d0 (fun f0 h0 => ?_)
 refine mv h0 (fun f0 d0 => ?_)
 refine mv d0 (fun f0 h0 => ?_)
 have f0 := b0.nf
 refine k_call (xs := [.tmp 11, .tmp 12, .const (.int .i64 0), .tmp 13]) se h0 rfl rfl rfl (by decide) ok71 (rput_calls _ _ f0.il _ _ _ (k) 0 _ _ _ (f0.g 0) (f0.g 1) (f0.g 2)) ?_
 rintro h0 b0 ⟨d0, i0, rfl, j0, k0⟩
 have b0 := f0.below j0.below
 have j0 := f0.dN b0 k0
 refine ⟨_, rfl, fun b0 k0 => ?_⟩
 refine mv k0 (fun b0 f0 => ?_)
 refine r_extract sv f0 rfl rfl rfl rfl (by decide) (fun b0 k0 => ?_)
 refine r_extract sv k0 rfl rfl rfl rfl (by decide) (fun b0 f0 => ?_)
 refine asg f0 (fun b0 k0 => ?_)
 refine asg k0 (fun b0 f0 => ?_)
 refine wpList_nil (x_then_n (c0 _ _ ?_))
 refine wp_seq_k (fun c0 b0 => ?_)
 refine wsc (fun c0 k0 => ?_)
 refine mv f0 (fun c0 h0 => ?_)
 refine r_eql sv h0 rfl rfl rfl rfl (by decide) (fun c0 f0 => ?_)
 refine wpList_nil (x_then_n (k0 _ _ ?_))
 rcases Decidable.em (((trEL (puV (k) (lsts p)) t 0)) = 0) with k0 | k0
 ·
  have c0 := f0.setb (d := 18) (b := true) rfl (decide_eq_true k0)
  refine wp_cond_true (c0.ev rfl) ?_
  refine c_region ?_
  refine mv c0 (fun h0 m0 => ?_)
  have h0 := j0.nf
  refine k_call (xs := [.tmp 19]) se m0 rfl rfl rfl (by decide) ok24 (rcheck_calls _ _ h0.il _ _ (trL (puV (k) (lsts p)) t 0) (h0.g 3)) ?_
  rintro m0 c0 ⟨rfl, n0⟩
  have c0 := h0.below n0.below
  refine ⟨_, rfl, fun n0 h0 => ?_⟩
  refine asg h0 (fun n0 m0 => ?_)
  refine wpList_nil (x_then_n (b0 _ _ ?_))
  refine wp_seq_k (fun n0 h0 => ?_)
  refine wsc (fun n0 o0 => ?_)
  refine mv m0 (fun n0 p0 => ?_)
  refine r_neq sv p0 rfl rfl rfl rfl (by decide) (fun n0 m0 => ?_)
  refine wpList_nil (x_then_n (o0 _ _ ?_))
  rcases Decidable.em (((chk (trL (puV (k) (lsts p)) t 0))) = 0) with o0 | o0
  ·
   have n0 := m0.setb (d := 22) (b := false) rfl (by rw [(decide_eq_true o0)]; rfl)
   refine wp_cond_false (n0.ev rfl) ?_
   refine wp_skip ?_
   refine x_then_n (h0 _ _ ?_)
   refine wsc (fun h0 p0 => ?_)
   refine mv n0 (fun h0 q0 => ?_)
   refine asg q0 (fun h0 n0 => ?_)
   refine asg n0 (fun h0 q0 => ?_)
   refine wpList_nil (x_then_n (p0 _ _ ?_))
   refine wp_ret ?_
   refine e_ret2 q0 rfl rfl rfl rfl ?_
   have q0 : poA t k (lsts p) = trL (puV (k) (lsts p)) t 0 := by rw [(po_chk (by omega)).2, if_pos (by omega)]
   rw [q0]
   refine ⟨d0, i0, ?_, c0.fr, c0.rx 3⟩
   exact ret_t2 rfl (ret_i (by first | (rw [(po_err (by omega)).1]; done) | (rw [(po_chk (by omega)).1]; done) | (rw [(po_chk (by omega)).1]; omega)))
  ·
   have i0 := m0.setb (d := 22) (b := true) rfl (by rw [(decide_eq_false o0)]; rfl)
   refine wp_cond_true (i0.ev rfl) ?_
   refine wsc (fun o0 m0 => ?_)
   refine mv i0 (fun o0 d0 => ?_)
   refine asg d0 (fun o0 i0 => ?_)
   refine asg i0 (fun o0 d0 => ?_)
   refine wpList_nil (x_then_n (m0 _ _ ?_))
   refine wp_ret ?_
   refine x_then_r ?_
   refine e_ret2 d0 rfl rfl rfl rfl ?_
   have d0 : poA t k (lsts p) = [] := by first | exact (po_err (by omega)).2 | (rw [(po_chk (by omega)).2, if_neg (by omega)])
   rw [d0]
   refine ⟨none, 0, ?_, c0.fr, ⟨Nat.le_refl _, RowI.nil _ _ _ _⟩⟩
   exact ret_t2 rfl (ret_i (by first | (rw [(po_err (by omega)).1]; done) | (rw [(po_chk (by omega)).1]; done) | (rw [(po_chk (by omega)).1]; omega)))
 ·
  have c0 := f0.setb (d := 18) (b := false) rfl (decide_eq_false k0)
  refine wp_cond_false (c0.ev rfl) ?_
  refine wp_skip ?_
  refine x_then_n (b0 _ _ ?_)
  refine wp_seq_k (fun b0 f0 => ?_)
  refine wsc (fun f0 b0 => ?_)
  refine mv c0 (fun f0 d0 => ?_)
  refine r_neq sv d0 rfl rfl rfl rfl (by decide) (fun f0 c0 => ?_)
  refine wpList_nil (x_then_n (b0 _ _ ?_))
  have b0 := c0.setb (d := 22) (b := true) rfl (by rw [(decide_eq_false k0)]; rfl)
  refine wp_cond_true (b0.ev rfl) ?_
  refine wsc (fun c0 k0 => ?_)
  refine mv b0 (fun c0 f0 => ?_)
  refine asg f0 (fun c0 b0 => ?_)
  refine asg b0 (fun c0 f0 => ?_)
  refine wpList_nil (x_then_n (k0 _ _ ?_))
  refine wp_ret ?_
  refine x_then_r ?_
  refine e_ret2 f0 rfl rfl rfl rfl ?_
  have f0 : poA t k (lsts p) = [] := by first | exact (po_err (by omega)).2 | (rw [(po_chk (by omega)).2, if_neg (by omega)])
  rw [f0]
  refine ⟨none, 0, ?_, j0.fr, ⟨Nat.le_refl _, RowI.nil _ _ _ _⟩⟩
  exact ret_t2 rfl (ret_i (by first | (rw [(po_err (by omega)).1]; done) | (rw [(po_chk (by omega)).1]; done) | (rw [(po_chk (by omega)).1]; omega)))
end Go.Proofs.YtcfponnkfhkbdaaDoor
/- Contracts of functions, one theorem each: what the call returns, and that nothing old is changed. Printed by gen.py. -/
namespace Go.Proofs.YtcfponnkfhkbdaaDoor
open Go Go.RowKit
set_option linter.unusedSimpArgs false
set_option linter.unusedVariables false
set_option maxRecDepth 100000 in
set_option maxHeartbeats 2000000 in
theorem rSubst_calls (w0 : World) (Z : Nat → Prop) (hZ : ∀ k, Z k → k < w0.heap.size) (tA : Option Addr) (tc : Nat) (t : List Nd) (k : Int) (uA : Option Addr) (uc : Nat) (u : List Nd) (ht : (dRow 4 tA t.length tc (encNs t)).φ w0 Z) (hu : (dRow 4 uA u.length uc (encNs u)).φ w0 Z) (hl : t.length ≤ 4000 := by first | assumption | omega | (simp; done) | (simp; omega)) (hsm : sml t := by first | assumption | omega | (simp; done) | (simp; omega)) (hlu : u.length ≤ 4000 := by first | assumption | omega | (simp; done) | (simp; omega)) (hsu : sml u := by first | assumption | omega | (simp; done) | (simp; omega)) :
    Calls Tryd.prog 27 [.slice tA t.length tc, .int .i64 k, .slice uA u.length uc].toArray w0 (fun e w' => ∃ (rA0 : Option Addr) (rc0 : Nat), e = .returned (.tuple #[.slice rA0 (suA t k u).length rc0, .int .i64 (suE t k u)]) ∧ Fr none_ w0 w' ∧ (dRow 4 rA0 ((suA t k u).length) rc0 (encNs (suA t k u))).φ w' (nxt Z w0 w')) := by
 have b0 := s0 (M := none_) hZ (zc ht (zc hu zn))
 refine c_enter Tryd.func27 rfl Tryd.ntmps27 rfl (fun c0 d0 => ?_)
 refine wsc (fun c0 f0 => ?_)
 refine asg d0 (fun c0 h0 => ?_)
 refine asg h0 (fun c0 d0 => ?_)
 refine wpList_nil (x_then_n (f0 _ _ ?_))
 refine wsc (fun f0 c0 => ?_)
 refine mv d0 (fun f0 h0 => ?_)
 have f0 := b0.nf
 refine k_call (xs := [.tmp 10]) se h0 rfl rfl rfl (by decide) ok24 (rcheck_calls _ _ f0.il _ _ _ (f0.g 0)) ?_
 rintro h0 b0 ⟨rfl, d0⟩
 have b0 := f0.below d0.below
 refine ⟨_, rfl, fun d0 f0 => ?_⟩
 refine asg f0 (fun d0 h0 => ?_)
 refine wpList_nil (x_then_n (c0 _ _ ?_))
 refine wp_seq_k (fun c0 d0 => ?_)
 refine wsc (fun c0 f0 => ?_)
 refine mv h0 (fun c0 i0 => ?_)
 refine r_eql sv i0 rfl rfl rfl rfl (by decide) (fun c0 h0 => ?_)
 refine wpList_nil (x_then_n (f0 _ _ ?_))
 rcases Decidable.em (((chk t)) = 0) with f0 | f0
 ·
  have c0 := h0.setb (d := 13) (b := true) rfl (decide_eq_true f0)
  refine wp_cond_true (c0.ev rfl) ?_
  refine c_region ?_
  refine mv c0 (fun i0 j0 => ?_)
  have i0 := b0.nf
  refine k_call (xs := [.tmp 14]) se j0 rfl rfl rfl (by decide) ok24 (rcheck_calls _ _ i0.il _ _ _ (i0.g 1)) ?_
  rintro j0 c0 ⟨rfl, k0⟩
  have c0 := i0.below k0.below
  refine ⟨_, rfl, fun k0 i0 => ?_⟩
  refine asg i0 (fun k0 j0 => ?_)
  refine wpList_nil (x_then_n (d0 _ _ ?_))
  refine wp_seq_k (fun k0 i0 => ?_)
  refine wsc (fun k0 m0 => ?_)
  refine mv j0 (fun k0 n0 => ?_)
  refine r_eql sv n0 rfl rfl rfl rfl (by decide) (fun k0 j0 => ?_)
  refine mv j0 (fun k0 n0 => ?_)
  refine l_join (fun ga gw => Reg ga 37 [(0, .slice tA t.length tc), (1, .int .i64 (k)), (2, .slice uA u.length uc), (6, .slice none 0 0), (7, .int .i64 0), (8, .int .i64 ((chk u))), (25, .bool ((decide (((chk u)) = 0)) && ((decide ((k) < 0)) || (decide (99 < (k)))))), (1000000, .bool false)] ∧ St w0 Z none_ gw [] [dRow 4 tA t.length tc (encNs t), dRow 4 uA u.length uc (encNs u)]) 7 ?_ ?_
  ·
   rcases Decidable.em (((chk u)) = 0) with k0 | k0
   ·
    have j0 := n0.setb (d := 18) (b := true) rfl (decide_eq_true k0)
    refine r_move (st_listV_w (wt j0)) j0 rfl rfl rfl (by decide) (fun o0 p0 => ?_)
    refine r_lss (st_listV_w (wt p0)) p0 rfl rfl rfl rfl (by decide) (fun o0 j0 => ?_)
    refine r_move (st_listV_w (wt j0)) j0 rfl rfl rfl (by decide) (fun o0 p0 => ?_)
    rcases Decidable.em ((k) < 0) with o0 | o0
    ·
     have j0 := p0.setb (d := 21) (b := true) rfl (decide_eq_true o0)
     refine sps j0 (wff j0) (fun q0 t0 => ?_)
     refine sps t0 (wff t0) (fun q0 j0 => ?_)
     refine r_pick_t (st_listV_w (wt j0)) j0 rfl rfl rfl rfl (by decide) (fun q0 t0 => ?_)
     refine r_pick_t sv t0 rfl rfl rfl rfl (by decide) (fun q0 j0 => ?_)
     refine wpList_nil ?_
     exact x_then_n ⟨(j0.sub (rc rfl (rc rfl (rc rfl (rc rfl (rc rfl (rc rfl (rc (rb rfl (by first | rfl | (simp only [decide_eq_true k0, if_pos k0, decide_eq_true o0, if_pos o0, bl]; done) | (simp [k0, o0]; done) | (simp [k0, o0]; omega))) (rc rfl rnl))))))))), c0⟩
    ·
     have j0 := p0.setb (d := 21) (b := false) rfl (decide_eq_false o0)
     refine r_move (st_listV_w (wt j0)) j0 rfl rfl rfl (by decide) (fun p0 q0 => ?_)
     refine r_gtr (st_listV_w (wt q0)) q0 rfl rfl rfl rfl (by decide) (fun p0 j0 => ?_)
     refine r_pick_f (st_listV_w (wt j0)) j0 rfl rfl rfl rfl (by decide) (fun p0 q0 => ?_)
     refine r_pick_t sv q0 rfl rfl rfl rfl (by decide) (fun p0 j0 => ?_)
     refine wpList_nil ?_
     exact x_then_n ⟨(j0.sub (rc rfl (rc rfl (rc rfl (rc rfl (rc rfl (rc rfl (rc (rb rfl (by first | rfl | (simp only [decide_eq_true k0, if_pos k0, decide_eq_false o0, if_neg o0, bl]; done) | (simp [k0, o0]; done) | (simp [k0, o0]; omega))) (rc rfl rnl))))))))), c0⟩
   ·
    have j0 := n0.setb (d := 18) (b := false) rfl (decide_eq_false k0)
    refine sps j0 (wff j0) (fun n0 o0 => ?_)
    refine sps o0 (wff o0) (fun n0 j0 => ?_)
    refine sps j0 (wff j0) (fun n0 o0 => ?_)
    refine sps o0 (wu o0) (fun n0 j0 => ?_)
    refine sps j0 (wu j0) (fun n0 o0 => ?_)
    refine sps o0 (wff o0) (fun n0 j0 => ?_)
    refine r_pick_f sv j0 rfl rfl rfl rfl (by decide) (fun n0 o0 => ?_)
    refine wpList_nil ?_
    exact x_then_n ⟨(o0.sub (rc rfl (rc rfl (rc rfl (rc rfl (rc rfl (rc rfl (rc (rb rfl (by first | rfl | (simp only [decide_eq_false k0, if_neg k0, bl]; done) | (simp [k0]; done) | (simp [k0]; omega))) (rc rfl rnl))))))))), c0⟩
  rintro o0 k0 ⟨c0, n0⟩
  refine wpList_nil (x_then_n (m0 _ _ ?_))
  rcases Bool.eq_false_or_eq_true (((decide (((chk u)) = 0)) && ((decide ((k) < 0)) || (decide (99 < (k)))))) with m0 | m0
  ·
   have k0 := and_tl m0
   have o0 := of_decide_eq_true k0
   have k0 := and_tr m0
   have j0 := k0
   try simp only [Bool.or_eq_true, Bool.and_eq_true, Bool.not_eq_true', Bool.not_eq_false', decide_eq_true_eq, decide_eq_false_iff_not, Bool.or_eq_false_iff, Bool.and_eq_false_iff] at j0
   have j0 := c0.setb (d := 25) (b := true) rfl m0
   refine wp_cond_true (j0.ev rfl) ?_
   refine c_region ?_
   refine asg j0 (fun k0 p0 => ?_)
   refine wpList_nil (x_then_n (i0 _ _ ?_))
   refine wp_seq_k (fun k0 j0 => ?_)
   refine wsc (fun j0 k0 => ?_)
   refine mv p0 (fun j0 q0 => ?_)
   have j0 : ¬ (1 : Int) = 0 := by decide
   refine r_neq sv q0 rfl rfl rfl rfl (by decide) (fun p0 t0 => ?_)
   refine wpList_nil (x_then_n (k0 _ _ ?_))
   have k0 := t0.setb (d := 27) (b := true) rfl (by rw [(decide_eq_false j0)]; rfl)
   refine wp_cond_true (k0.ev rfl) ?_
   refine wsc (fun t0 p0 => ?_)
   refine mv k0 (fun t0 q0 => ?_)
   refine asg q0 (fun t0 k0 => ?_)
   refine asg k0 (fun t0 q0 => ?_)
   refine wpList_nil (x_then_n (p0 _ _ ?_))
   refine wp_ret ?_
   refine x_then_r ?_
   refine e_ret2 q0 rfl rfl rfl rfl ?_
   have q0 : suA t k u = [] := by unfold suA; rw [if_neg (by unfold suE; simp [f0, m0, o0, j0] <;> omega)]
   rw [q0]
   refine ⟨none, 0, ?_, n0.fr, ⟨Nat.le_refl _, RowI.nil _ _ _ _⟩⟩
   exact ret_t2 rfl (ret_i (by first | omega | (unfold suE; simp only [f0, m0, o0, j0, not_true_eq_false, not_false_eq_true, if_true, if_false]; done) | (unfold suE; simp [f0, m0, o0, j0]; done) | (unfold suE; simp [f0, m0, o0, j0]; omega)))
  ·
   have j0 := m0
   try simp only [Bool.or_eq_true, Bool.and_eq_true, Bool.not_eq_true', Bool.not_eq_false', decide_eq_true_eq, decide_eq_false_iff_not, Bool.or_eq_false_iff, Bool.and_eq_false_iff] at j0
   have j0 := c0.setb (d := 25) (b := false) rfl m0
   refine wp_cond_false (j0.ev rfl) ?_
   refine wp_skip ?_
   refine x_then_n (i0 _ _ ?_)
   refine wp_seq_k (fun i0 c0 => ?_)
   refine wsc (fun i0 o0 => ?_)
   refine mv j0 (fun i0 q0 => ?_)
   refine r_neq sv q0 rfl rfl rfl rfl (by decide) (fun i0 j0 => ?_)
   refine wpList_nil (x_then_n (o0 _ _ ?_))
   rcases Decidable.em (((chk u)) = 0) with o0 | o0
   ·
    have i0 := j0.setb (d := 27) (b := false) rfl (by rw [(decide_eq_true o0)]; rfl)
    refine wp_cond_false (i0.ev rfl) ?_
    refine wp_skip ?_
    refine x_then_n (c0 _ _ ?_)
    refine wsc (fun c0 q0 => ?_)
    refine mv i0 (fun c0 p0 => ?_)
    have c0 := n0.data (dAll [((uA, uc, u) : Sl)]) (all_cons (n0.get (i := 1) rfl) all_nil)
    refine mbs [(0, .tmp 29)] [.slice uA u.length uc] sv p0 c0 Tryd.underlying42 zi22 (fun i0 t0 k0 u0 v0 => ?_)
    refine asg u0 (fun t0 i0 => ?_)
    refine wpList_nil (x_then_n (q0 _ _ ?_))
    refine wsc (fun q0 t0 => ?_)
    refine mv i0 (fun q0 u0 => ?_)
    refine mv u0 (fun q0 i0 => ?_)
    refine mv i0 (fun q0 u0 => ?_)
    have q0 := v0.nf
    have v0 := own_cap (q0.res (i := 0) rfl)
    obtain ⟨i0, c0⟩ := q0.row_data (i := 0) rfl (fun _ h => h)
    have q0 := i0.data (dRow 1 (some ⟨k0, 0, none⟩) 1 1 (encSs ([((uA, uc, u) : Sl)]))) ⟨v0, c0⟩
    refine k_call (xs := [.tmp 31, .tmp 32, .tmp 33]) se u0 rfl rfl rfl (by decide) ok47 (rPut_calls _ _ q0.il _ _ _ (k) _ _ ([((uA, uc, u) : Sl)]) (q0.g 0) (q0.g 3) (q0.g 2) (hl := (by omega)) (hsm := hsm) (hb := (meas_chk (by assumption))) (hl4 := hl) (hp1 := (by simp)) (hp2 := (by simpa [lsts] using hlu)) (hp3 := (by simpa [lsts] using hsu)) (hk0 := (by omega)) (hk1 := (by omega))) ?_
    rintro u0 c0 ⟨i0, v0, rfl, k0, p0⟩
    have c0 := q0.below k0.below
    have k0 := q0.dN c0 p0
    refine ⟨_, rfl, fun c0 p0 => ?_⟩
    refine r_extract sv p0 rfl rfl rfl rfl (by decide) (fun c0 q0 => ?_)
    refine r_extract sv q0 rfl rfl rfl rfl (by decide) (fun c0 p0 => ?_)
    refine asg p0 (fun c0 q0 => ?_)
    refine asg q0 (fun c0 p0 => ?_)
    refine wpList_nil (x_then_n (t0 _ _ ?_))
    refine wp_ret ?_
    refine e_ret2 p0 rfl rfl rfl rfl ?_
    have p0 : suA t k u = poA t (k) (lsts ([((uA, uc, u) : Sl)])) := by unfold suA suE; simp only [f0, m0, o0, not_true_eq_false, if_false, show ¬ (k < 0 ∨ 99 < k) by omega]; exact po_same _ _ _
    rw [p0]
    refine ⟨i0, v0, ?_, k0.fr, k0.rx 4⟩
    exact ret_t2 rfl (ret_i (by (show poE t k [u] = suE t k u; unfold suE; simp [f0, m0, o0, show ¬ (k < 0 ∨ 99 < k) by omega])))
   ·
    have k0 := j0.setb (d := 27) (b := true) rfl (by rw [(decide_eq_false o0)]; rfl)
    refine wp_cond_true (k0.ev rfl) ?_
    refine wsc (fun j0 v0 => ?_)
    refine mv k0 (fun j0 i0 => ?_)
    refine asg i0 (fun j0 k0 => ?_)
    refine asg k0 (fun j0 i0 => ?_)
    refine wpList_nil (x_then_n (v0 _ _ ?_))
    refine wp_ret ?_
    refine x_then_r ?_
    refine e_ret2 i0 rfl rfl rfl rfl ?_
    have i0 : suA t k u = [] := by unfold suA; rw [if_neg (by unfold suE; simp [f0, m0, o0] <;> omega)]
    rw [i0]
    refine ⟨none, 0, ?_, n0.fr, ⟨Nat.le_refl _, RowI.nil _ _ _ _⟩⟩
    exact ret_t2 rfl (ret_i (by first | omega | (unfold suE; simp only [f0, m0, o0, not_true_eq_false, not_false_eq_true, if_true, if_false]; done) | (unfold suE; simp [f0, m0, o0]; done) | (unfold suE; simp [f0, m0, o0]; omega)))
 ·
  have o0 := h0.setb (d := 13) (b := false) rfl (decide_eq_false f0)
  refine wp_cond_false (o0.ev rfl) ?_
  refine wp_skip ?_
  refine x_then_n (d0 _ _ ?_)
  refine wp_seq_k (fun d0 h0 => ?_)
  refine wsc (fun d0 m0 => ?_)
  refine mv o0 (fun d0 n0 => ?_)
  refine r_eql sv n0 rfl rfl rfl rfl (by decide) (fun d0 o0 => ?_)
  refine mv o0 (fun d0 n0 => ?_)
  have d0 := n0.setb (d := 18) (b := false) rfl (decide_eq_false f0)
  refine sps d0 (wff d0) (fun n0 o0 => ?_)
  refine sps o0 (wff o0) (fun n0 d0 => ?_)
  refine sps d0 (wff d0) (fun n0 o0 => ?_)
  refine sps o0 (wu o0) (fun n0 d0 => ?_)
  refine sps d0 (wu d0) (fun n0 o0 => ?_)
  refine sps o0 (wff o0) (fun n0 d0 => ?_)
  refine r_pick_f sv d0 rfl rfl rfl rfl (by decide) (fun n0 o0 => ?_)
  refine wpList_nil (x_then_n (m0 _ _ ?_))
  refine wp_cond_false (o0.ev rfl) ?_
  refine wp_skip ?_
  refine x_then_n (h0 _ _ ?_)
  refine wp_seq_k (fun h0 m0 => ?_)
  refine wsc (fun m0 h0 => ?_)
  refine mv o0 (fun m0 n0 => ?_)
  refine r_neq sv n0 rfl rfl rfl rfl (by decide) (fun m0 o0 => ?_)
  refine wpList_nil (x_then_n (h0 _ _ ?_))
  have h0 := o0.setb (d := 27) (b := true) rfl (by rw [(decide_eq_false f0)]; rfl)
  refine wp_cond_true (h0.ev rfl) ?_
  refine wsc (fun o0 m0 => ?_)
  refine mv h0 (fun o0 n0 => ?_)
  refine asg n0 (fun o0 h0 => ?_)
  refine asg h0 (fun o0 n0 => ?_)
  refine wpList_nil (x_then_n (m0 _ _ ?_))
  refine wp_ret ?_
  refine x_then_r ?_
  refine e_ret2 n0 rfl rfl rfl rfl ?_
  have n0 : suA t k u = [] := by unfold suA; rw [if_neg (by unfold suE; simp [f0] <;> omega)]
  rw [n0]
  refine ⟨none, 0, ?_, b0.fr, ⟨Nat.le_refl _, RowI.nil _ _ _ _⟩⟩
  exact ret_t2 rfl (ret_i (by first | omega | (unfold suE; simp only [f0, not_true_eq_false, not_false_eq_true, if_true, if_false]; done) | (unfold suE; simp [f0]; done) | (unfold suE; simp [f0]; omega)))
end Go.Proofs.YtcfponnkfhkbdaaDoor
/- Redexes of pairs, of functions, of numbers. -/
namespace Go.Proofs.YtcfponnkfhkbdaaDoor
set_option linter.unusedSimpArgs false
set_option linter.unusedVariables false
def ofL (k : Nat) (p : List (List Nd)) : List Nd := p.flatten ++ [⟨(k : Int), 0, 0, ⟨#[]⟩⟩]
theorem ofL_ok {k : Nat} {p : List (List Nd)} {b : Nat} (hk : k < 30 ∧ k ≠ 1 ∧ k ≠ 25 ∧ k ≠ 26 ∧ k ≠ 27) (hm : (shp k).b.length = p.length) (hp : ∀ x ∈ p, chk x = 0 ∧ dpL x ≤ b) (hb : b < 60) (hl : p.flatten.length < 4000) :
  chk (ofL k p) = 0 ∧ dpL (ofL k p) ≤ b + 1 ∧ ptL (ofL k p) = p ∧ nth (ofL k p) ((ofL k p).length - 1) = ⟨(k : Int), 0, 0, ⟨#[]⟩⟩ ∧ (ofL k p).length = p.flatten.length + 1 := by
 obtain ⟨hr, hn⟩ := right_lit hk
 have hp' : ∀ x ∈ p, measB x = true := fun x hx => meas_chk (hp x hx).1
 obtain ⟨h1, _, h3, h4⟩ := built hr (hn.trans hm) hp'
 have h5 : dpL (ofL k p) ≤ b + 1 := built_deep hr (hn.trans hm) hp' (fun x hx => (hp x hx).2)
 have hl' : (ofL k p).length = p.flatten.length + 1 := by simp [ofL]
 exact ⟨chk_of (t := ofL k p) h1 (by omega) (by omega), h5, h3, h4, hl'⟩
theorem ofL_sml {k : Nat} {p : List (List Nd)} (hp : ∀ x ∈ p, sml x) : sml (ofL k p) := noL_sml (e := 0) (n := ⟨(k : Int), 0, 0, ⟨#[]⟩⟩) (p := p) (show (⟨#[]⟩ : ByteArray).size < 1000000 by decide) hp
def PU (x : List Nd) : Prop := chk x = 0 ∧ dpL x ≤ 50
section
variable {s a b : List Nd} (hs : PU s) (ha : PU a) (hb : PU b) (hls : s.length ≤ 120) (hla : a.length ≤ 120) (hlb : b.length ≤ 120)
include hs ha hb hls hla hlb
theorem pair_ok : chk (ofL 7 [s, a, b]) = 0 ∧ dpL (ofL 7 [s, a, b]) ≤ 51 ∧ ptL (ofL 7 [s, a, b]) = [s, a, b] ∧ nth (ofL 7 [s, a, b]) ((ofL 7 [s, a, b]).length - 1) = ⟨7, 0, 0, ⟨#[]⟩⟩ ∧ (ofL 7 [s, a, b]).length ≤ 361 := by
 obtain ⟨h1, h2, h3, h4, h5⟩ := ofL_ok (k := 7) (p := [s, a, b]) (b := 50) (by decide) rfl (by
  intro x hx
  simp only [List.mem_cons, List.not_mem_nil, or_false] at hx
  rcases hx with rfl | rfl | rfl
  · exact hs
  · exact ha
  · exact hb) (by decide) (by simp; omega)
 refine ⟨h1, h2, h3, h4, ?_⟩
 rw [h5]
 simp
 omega
theorem half_ok {k : Nat} (hk : k = 8 ∨ k = 9) : chk (ofL k [ofL 7 [s, a, b]]) = 0 ∧ (ofL k [ofL 7 [s, a, b]]).length ≤ 362 ∧ urE (ofL k [ofL 7 [s, a, b]]) = 0 ∧ urA (ofL k [ofL 7 [s, a, b]]) = (if k = 8 then a else b) ∧ ¬ (nth (ofL k [ofL 7 [s, a, b]]) ((ofL k [ofL 7 [s, a, b]]).length - 1)).K = 27 := by
 obtain ⟨p1, p2, p3, p4, p5⟩ := pair_ok hs ha hb hls hla hlb
 obtain ⟨h1, _, h3, h4, h5⟩ := ofL_ok (k := k) (p := [ofL 7 [s, a, b]]) (b := 51) (by rcases hk with rfl | rfl <;> decide) (by rcases hk with rfl | rfl <;> rfl) (by
  intro x hx
  simp only [List.mem_cons, List.not_mem_nil, or_false] at hx
  rw [hx]; exact ⟨p1, p2⟩) (by decide) (by simp; omega)
 have hu := ur_half (t := ofL k [ofL 7 [s, a, b]]) h1 hk h4 h3 (by rw [p4]) p3
 have hn : nthL [s, a, b] (k - 7) = if k = 8 then a else b := by rcases hk with rfl | rfl <;> rfl
 have hc : chk (if k = 8 then a else b) = 0 := by
  split
  · exact ha.1
  · exact hb.1
 rw [hn] at hu
 refine ⟨h1, ?_, hu.1.trans hc, hu.2 hc, ?_⟩
 ·
  rw [h5]
  simp
  omega
 ·
  rw [h4]
  intro q
  have : (k : Int) = 27 := q
  omega
end
theorem app_ok {s a f : List Nd} (hs : PU s) (ha : PU a) (hf : PU f) (hls : s.length ≤ 120) (hla : a.length ≤ 120) (hlf : f.length ≤ 120) :
  chk (ofL 5 [ofL 4 [s, f], a]) = 0 ∧ (ofL 5 [ofL 4 [s, f], a]).length ≤ 362 ∧ urE (ofL 5 [ofL 4 [s, f], a]) = suE f 0 a ∧ urA (ofL 5 [ofL 4 [s, f], a]) = suA f 0 a ∧ ¬ (nth (ofL 5 [ofL 4 [s, f], a]) ((ofL 5 [ofL 4 [s, f], a]).length - 1)).K = 27 := by
 obtain ⟨l1, l2, l3, l4, l5⟩ := ofL_ok (k := 4) (p := [s, f]) (b := 50) (by decide) rfl (by
  intro x hx
  simp only [List.mem_cons, List.not_mem_nil, or_false] at hx
  rcases hx with rfl | rfl
  · exact hs
  · exact hf) (by decide) (by simp; omega)
 have hll : (ofL 4 [s, f]).length ≤ 241 := by
  rw [l5]
  simp
  omega
 obtain ⟨h1, _, h3, h4, h5⟩ := ofL_ok (k := 5) (p := [ofL 4 [s, f], a]) (b := 51) (by decide) rfl (by
  intro x hx
  simp only [List.mem_cons, List.not_mem_nil, or_false] at hx
  rcases hx with rfl | rfl
  · exact ⟨l1, l2⟩
  · exact ⟨ha.1, by have := ha.2; omega⟩) (by decide) (by simp; omega)
 obtain ⟨u1, u2⟩ := ur_app (t := ofL 5 [ofL 4 [s, f], a]) h1 h4 h3 (by rw [l4]; rfl) l3
 have hck : ckE [f, a] = 0 := by simp [ckE, hf.1, ha.1]
 obtain ⟨i1, i2⟩ := in_ok (t := f) (l := [a]) hck
 have hsu : suE f 0 a = poE f 0 [a] := by
  unfold suE
  rw [if_neg (by rw [hf.1]; omega), if_neg (by rw [ha.1]; omega), if_neg (by omega)]
 refine ⟨h1, ?_, ?_, ?_, by rw [h4]; exact (by decide : ¬ (5 : Int) = 27)⟩
 ·
  rw [h5]
  simp
  omega
 ·
  rw [u1, hsu]
  by_cases h0 : inE f [a] = 0
  · rw [if_pos h0, in_chk h0, ← i1, h0]
  · rw [if_neg h0, i1]
 ·
  rw [u2, i2]
  unfold suA
  rw [hsu]
  unfold poA
  split <;> rfl
theorem up_el {s a b : List Nd} {A B C : Option Addr} {c d e k : Nat} (hls : s.length ≤ 120) (hss : sml s) (hla : a.length ≤ 120) (hsa : sml a) (hlb : b.length ≤ 120) (hsb : sml b) (hk : k < 3) :
  (nthS [((A, c, s) : Sl), ((B, d, a) : Sl), ((C, e, b) : Sl)] k).2.2.length ≤ 120 ∧ sml (nthS [((A, c, s) : Sl), ((B, d, a) : Sl), ((C, e, b) : Sl)] k).2.2 := by
 have : k = 0 ∨ k = 1 ∨ k = 2 := by omega
 rcases this with rfl | rfl | rfl
 · exact ⟨hls, hss⟩
 · exact ⟨hla, hsa⟩
 · exact ⟨hlb, hsb⟩
theorem hyp_p {Ls : List Sl} {k : Nat} (h : ∀ i, i < k → PU (nthS Ls i).2.2) (hk : PU (nthS Ls k).2.2) : ∀ i, i < k + 1 → PU (nthS Ls i).2.2 := fun i hi => by
 by_cases e : i = k
 · subst e; exact hk
 · exact h i (by omega)
theorem pr_sml {s a b : List Nd} (hs : sml s) (ha : sml a) (hb : sml b) (k : Nat) : sml (ofL k [ofL 7 [s, a, b]]) := ofL_sml (by
 intro x hx
 simp only [List.mem_cons, List.not_mem_nil, or_false] at hx
 rw [hx]
 refine ofL_sml ?_
 intro y hy
 simp only [List.mem_cons, List.not_mem_nil, or_false] at hy
 rcases hy with rfl | rfl | rfl
 · exact hs
 · exact ha
 · exact hb)
theorem ap_sml {s a f : List Nd} (hs : sml s) (ha : sml a) (hf : sml f) : sml (ofL 5 [ofL 4 [s, f], a]) := ofL_sml (by
 intro x hx
 simp only [List.mem_cons, List.not_mem_nil, or_false] at hx
 rcases hx with rfl | rfl
 ·
  refine ofL_sml ?_
  intro y hy
  simp only [List.mem_cons, List.not_mem_nil, or_false] at hy
  rcases hy with rfl | rfl
  · exact hs
  · exact hf
 · exact ha)
end Go.Proofs.YtcfponnkfhkbdaaDoor
/- Contracts of functions, one theorem each: what the call returns, and that nothing old is changed. Printed by gen.py. -/
namespace Go.Proofs.YtcfponnkfhkbdaaDoor
open Go Go.RowKit
set_option linter.unusedSimpArgs false
set_option linter.unusedVariables false
set_option maxRecDepth 100000 in
set_option maxHeartbeats 1000000 in
theorem great14_calls (w0 : World) (Z : Nat → Prop) (hZ : ∀ k, Z k → k < w0.heap.size) (er : Int)  :
    Calls Tryd.prog 22 [.int .i64 er].toArray w0 (fun e w' => e = .returned (.bool (grB er)) ∧ Fr none_ w0 w') := by
 have b0 := s0 (M := none_) hZ zn
 refine c_enter Tryd.func22 rfl Tryd.ntmps22 rfl (fun c0 d0 => ?_)
 refine wsc (fun c0 f0 => ?_)
 refine asg d0 (fun c0 h0 => ?_)
 refine wpList_nil (x_then_n (f0 _ _ ?_))
 refine wsc (fun f0 c0 => ?_)
 refine mv h0 (fun f0 d0 => ?_)
 refine r_eql sv d0 rfl rfl rfl rfl (by decide) (fun f0 h0 => ?_)
 refine mv h0 (fun f0 d0 => ?_)
 refine l_join (fun ga gw => Reg ga 13 [(0, .int .i64 (er)), (2, .bool false), (8, .bool ((decide ((er) = 2)) || (decide ((er) = 21)))), (1000000, .bool false)] ∧ St w0 Z none_ gw [] []) 3 ?_ ?_
 ·
  rcases Decidable.em ((er) = 2) with f0 | f0
  ·
   have h0 := d0.setb (d := 5) (b := true) rfl (decide_eq_true f0)
   refine sps h0 (wff h0) (fun i0 j0 => ?_)
   refine sps j0 (wff j0) (fun i0 h0 => ?_)
   refine r_pick_t sv h0 rfl rfl rfl rfl (by decide) (fun i0 j0 => ?_)
   refine wpList_nil ?_
   exact x_then_n ⟨(j0.sub (rc rfl (rc rfl (rc (rb rfl (by first | rfl | (simp only [decide_eq_true f0, if_pos f0, bl]; done) | (simp [f0]; done) | (simp [f0]; omega))) (rc rfl rnl))))), b0⟩
  ·
   have j0 := d0.setb (d := 5) (b := false) rfl (decide_eq_false f0)
   refine r_move (st_listV_w (wt j0)) j0 rfl rfl rfl (by decide) (fun d0 i0 => ?_)
   refine r_eql (st_listV_w (wt i0)) i0 rfl rfl rfl rfl (by decide) (fun d0 j0 => ?_)
   refine r_pick_f sv j0 rfl rfl rfl rfl (by decide) (fun d0 i0 => ?_)
   refine wpList_nil ?_
   exact x_then_n ⟨(i0.sub (rc rfl (rc rfl (rc (rb rfl (by first | rfl | (simp only [decide_eq_false f0, if_neg f0, bl]; done) | (simp [f0]; done) | (simp [f0]; omega))) (rc rfl rnl))))), b0⟩
 rintro i0 f0 ⟨b0, d0⟩
 refine mv b0 (fun f0 i0 => ?_)
 refine l_join (fun ga gw => Reg ga 13 [(2, .bool false), (12, .bool (((decide ((er) = 2)) || (decide ((er) = 21))) || (decide ((er) = 22)))), (1000000, .bool false)] ∧ St w0 Z none_ gw [] []) 3 ?_ ?_
 ·
  rcases Bool.eq_false_or_eq_true (((decide ((er) = 2)) || (decide ((er) = 21)))) with f0 | f0
  ·
   have b0 := f0
   try simp only [Bool.or_eq_true, Bool.and_eq_true, Bool.not_eq_true', Bool.not_eq_false', decide_eq_true_eq, decide_eq_false_iff_not, Bool.or_eq_false_iff, Bool.and_eq_false_iff] at b0
   have b0 := i0.setb (d := 9) (b := true) rfl f0
   refine sps b0 (wff b0) (fun j0 h0 => ?_)
   refine sps h0 (wff h0) (fun j0 b0 => ?_)
   refine r_pick_t sv b0 rfl rfl rfl rfl (by decide) (fun j0 h0 => ?_)
   refine wpList_nil ?_
   exact x_then_n ⟨(h0.sub (rc rfl (rc (rb rfl (by first | rfl | (simp only [f0, bl]; done) | (simp [f0]; done) | (simp [f0]; omega))) (rc rfl rnl)))), d0⟩
  ·
   have h0 := or_fl f0
   have j0 := of_decide_eq_false h0
   have j0 := or_fr f0
   have h0 := of_decide_eq_false j0
   have h0 := i0.setb (d := 9) (b := false) rfl f0
   refine r_move (st_listV_w (wt h0)) h0 rfl rfl rfl (by decide) (fun i0 j0 => ?_)
   refine r_eql (st_listV_w (wt j0)) j0 rfl rfl rfl rfl (by decide) (fun i0 h0 => ?_)
   refine r_pick_f sv h0 rfl rfl rfl rfl (by decide) (fun i0 j0 => ?_)
   refine wpList_nil ?_
   exact x_then_n ⟨(j0.sub (rc rfl (rc (rb rfl (by first | rfl | (simp only [f0, bl]; done) | (simp [f0]; done) | (simp [f0]; omega))) (rc rfl rnl)))), d0⟩
 rintro j0 f0 ⟨d0, i0⟩
 refine asg d0 (fun f0 j0 => ?_)
 refine wpList_nil (x_then_n (c0 _ _ ?_))
 refine wp_ret ?_
 refine e_ret1 j0 rfl rfl rfl ?_
 refine ⟨?_, i0.fr⟩
 exact congrArg Ending.returned (ret_b (by first | rfl | (unfold grB; simp []; done) | ( unfold grB; simp; omega)))
set_option maxRecDepth 100000 in
set_option maxHeartbeats 1000000 in
theorem kin14_calls (w0 : World) (Z : Nat → Prop) (hZ : ∀ k, Z k → k < w0.heap.size) (er : Int) (fr : Int)  :
    Calls Tryd.prog 15 [.int .i64 er, .int .i64 fr].toArray w0 (fun e w' => e = .returned (.bool (kinB er fr)) ∧ Fr none_ w0 w') := by
 have b0 := s0 (M := none_) hZ zn
 refine c_enter Tryd.func15 rfl Tryd.ntmps15 rfl (fun c0 d0 => ?_)
 refine wsc (fun c0 f0 => ?_)
 refine asg d0 (fun c0 h0 => ?_)
 refine wpList_nil (x_then_n (f0 _ _ ?_))
 refine wsc (fun f0 c0 => ?_)
 refine mv h0 (fun f0 d0 => ?_)
 refine mv d0 (fun f0 h0 => ?_)
 refine r_eql sv h0 rfl rfl rfl rfl (by decide) (fun f0 d0 => ?_)
 refine mv d0 (fun f0 h0 => ?_)
 refine l_join (fun ga gw => Reg ga 16 [(4, .bool false), (15, .bool ((decide ((er) = (fr))) || ((grB (er)) && (grB (fr))))), (1000000, .bool false)] ∧ St w0 Z none_ gw [] []) 7 ?_ ?_
 ·
  rcases Decidable.em ((er) = (fr)) with f0 | f0
  ·
   have d0 := h0.setb (d := 8) (b := true) rfl (decide_eq_true f0)
   refine sps d0 (wff d0) (fun i0 j0 => ?_)
   refine sps j0 (wff j0) (fun i0 d0 => ?_)
   refine sps d0 (wff d0) (fun i0 j0 => ?_)
   refine sps j0 (wu j0) (fun i0 d0 => ?_)
   refine sps d0 (wu d0) (fun i0 j0 => ?_)
   refine sps j0 (wff j0) (fun i0 d0 => ?_)
   refine r_pick_t sv d0 rfl rfl rfl rfl (by decide) (fun i0 j0 => ?_)
   refine wpList_nil ?_
   exact x_then_n ⟨(j0.sub (rc rfl (rc (rb rfl (by first | rfl | (simp only [decide_eq_true f0, if_pos f0, bl]; done) | (simp [f0]; done) | (simp [f0]; omega))) (rc rfl rnl)))), b0⟩
  ·
   have j0 := h0.setb (d := 8) (b := false) rfl (decide_eq_false f0)
   refine r_move (st_listV_w (wt j0)) j0 rfl rfl rfl (by decide) (fun h0 i0 => ?_)
   have h0 := b0.nf
   refine k_call (xs := [.tmp 9]) (st_list_w (wt i0)) i0 rfl rfl rfl (by decide) ok22 (great14_calls _ _ h0.il (er)) ?_
   rintro i0 b0 ⟨rfl, j0⟩
   have b0 := h0.below j0.below
   refine ⟨_, rfl, fun j0 h0 => ?_⟩
   refine r_move (st_listV_w (wt h0)) h0 rfl rfl rfl (by decide) (fun j0 i0 => ?_)
   rcases Bool.eq_false_or_eq_true (grB (er)) with j0 | j0
   ·
    have h0 := i0.setb (d := 11) (b := true) rfl j0
    refine r_move (st_listV_w (wt h0)) h0 rfl rfl rfl (by decide) (fun d0 k0 => ?_)
    have d0 := b0.nf
    refine k_call (xs := [.tmp 12]) (st_list_w (wt k0)) k0 rfl rfl rfl (by decide) ok22 (great14_calls _ _ d0.il (fr)) ?_
    rintro k0 h0 ⟨rfl, m0⟩
    have h0 := d0.below m0.below
    refine ⟨_, rfl, fun m0 d0 => ?_⟩
    refine r_pick_t (st_listV_w (wt d0)) d0 rfl rfl rfl rfl (by decide) (fun m0 k0 => ?_)
    refine r_pick_f sv k0 rfl rfl rfl rfl (by decide) (fun m0 d0 => ?_)
    refine wpList_nil ?_
    exact x_then_n ⟨(d0.sub (rc rfl (rc (rb rfl (by first | rfl | (simp only [decide_eq_false f0, if_neg f0, j0, bl]; done) | (simp [f0, j0]; done) | (simp [f0, j0]; omega))) (rc rfl rnl)))), h0⟩
   ·
    have d0 := i0.setb (d := 11) (b := false) rfl j0
    refine sps d0 (wff d0) (fun i0 h0 => ?_)
    refine sps h0 (wff h0) (fun i0 d0 => ?_)
    refine r_pick_f (st_listV_w (wt d0)) d0 rfl rfl rfl rfl (by decide) (fun i0 h0 => ?_)
    refine r_pick_f sv h0 rfl rfl rfl rfl (by decide) (fun i0 d0 => ?_)
    refine wpList_nil ?_
    exact x_then_n ⟨(d0.sub (rc rfl (rc (rb rfl (by first | rfl | (simp only [decide_eq_false f0, if_neg f0, j0, bl]; done) | (simp [f0, j0]; done) | (simp [f0, j0]; omega))) (rc rfl rnl)))), b0⟩
 rintro d0 j0 ⟨b0, f0⟩
 refine asg b0 (fun j0 d0 => ?_)
 refine wpList_nil (x_then_n (c0 _ _ ?_))
 refine wp_ret ?_
 refine e_ret1 d0 rfl rfl rfl ?_
 refine ⟨?_, f0.fr⟩
 exact congrArg Ending.returned (ret_b (by (unfold kinB; first | (simp []; done) | (simp_all; done))))
set_option maxRecDepth 100000 in
set_option maxHeartbeats 1000000 in
theorem unfoldPairs_calls (w0 : World) (Z : Nat → Prop) (hZ : ∀ k, Z k → k < w0.heap.size) (sA : Option Addr) (sc : Nat) (s : List Nd) (aA : Option Addr) (ac : Nat) (a : List Nd) (bA : Option Addr) (bc : Nat) (b : List Nd) (fA : Option Addr) (fc : Nat) (f : List Nd) (hShp : Shapes w0 Z) (hs : (dRow 4 sA s.length sc (encNs s)).φ w0 Z) (ha : (dRow 4 aA a.length ac (encNs a)).φ w0 Z) (hb : (dRow 4 bA b.length bc (encNs b)).φ w0 Z) (hf : (dRow 4 fA f.length fc (encNs f)).φ w0 Z) :
    Calls Tryd.prog 6 [.slice sA s.length sc, .slice aA a.length ac, .slice bA b.length bc, .slice fA f.length fc].toArray w0 (fun e w' => e = .returned (.bool (true)) ∧ Fr none_ w0 w') := by
 have b0 := s0 (M := none_) hZ (zc (d := dShapes) hShp (zc hs (zc ha (zc hb (zc hf zn)))))
 refine c_enter Tryd.func6 rfl Tryd.ntmps6 rfl (fun c0 d0 => ?_)
 refine wsc (fun c0 f0 => ?_)
 refine asg d0 (fun c0 h0 => ?_)
 refine wpList_nil (x_then_n (f0 _ _ ?_))
 refine wp_seq_k (fun f0 c0 => ?_)
 refine wsc (fun f0 d0 => ?_)
 refine mv h0 (fun f0 i0 => ?_)
 have f0 := b0.nf
 refine k_call (xs := [.tmp 23]) se i0 rfl rfl rfl (by decide) ok10 (heavy14_calls _ _ f0.il _ _ _ (f0.g 1)) ?_
 rintro i0 b0 ⟨rfl, h0⟩
 have b0 := f0.below h0.below
 refine ⟨_, rfl, fun h0 f0 => ?_⟩
 refine mv f0 (fun h0 i0 => ?_)
 refine l_join (fun ga gw => Reg ga 141 [(0, .slice sA s.length sc), (1, .slice aA a.length ac), (2, .slice bA b.length bc), (3, .slice fA f.length fc), (8, .bool false), (28, .bool ((heavyB 120 s) || (heavyB 120 a))), (1000000, .bool false)] ∧ St w0 Z none_ gw [] [dShapes, dRow 4 sA s.length sc (encNs s), dRow 4 aA a.length ac (encNs a), dRow 4 bA b.length bc (encNs b), dRow 4 fA f.length fc (encNs f)]) 3 ?_ ?_
 ·
  rcases Bool.eq_false_or_eq_true (heavyB 120 s) with h0 | h0
  ·
   have f0 := i0.setb (d := 25) (b := true) rfl h0
   refine sps f0 (wff f0) (fun j0 k0 => ?_)
   refine sps k0 (wff k0) (fun j0 f0 => ?_)
   refine r_pick_t sv f0 rfl rfl rfl rfl (by decide) (fun j0 k0 => ?_)
   refine wpList_nil ?_
   exact x_then_n ⟨(k0.sub (rc rfl (rc rfl (rc rfl (rc rfl (rc rfl (rc (rb rfl (by first | rfl | (simp only [h0, bl]; done) | (simp [h0]; done) | (simp [h0]; omega))) (rc rfl rnl)))))))), b0⟩
  ·
   obtain ⟨hls, hss⟩ := heavy_false h0
   obtain ⟨hls, hss⟩ := heavy_false h0
   have k0 := i0.setb (d := 25) (b := false) rfl h0
   refine r_move (st_listV_w (wt k0)) k0 rfl rfl rfl (by decide) (fun i0 j0 => ?_)
   have i0 := b0.nf
   refine k_call (xs := [.tmp 26]) (st_list_w (wt j0)) j0 rfl rfl rfl (by decide) ok10 (heavy14_calls _ _ i0.il _ _ _ (i0.g 2)) ?_
   rintro j0 b0 ⟨rfl, k0⟩
   have b0 := i0.below k0.below
   refine ⟨_, rfl, fun k0 i0 => ?_⟩
   refine r_pick_f sv i0 rfl rfl rfl rfl (by decide) (fun k0 j0 => ?_)
   refine wpList_nil ?_
   exact x_then_n ⟨(j0.sub (rc rfl (rc rfl (rc rfl (rc rfl (rc rfl (rc (rb rfl (by first | rfl | (simp only [h0, bl]; done) | (simp [h0]; done) | (simp [h0]; omega))) (rc rfl rnl)))))))), b0⟩
 rintro j0 b0 ⟨h0, k0⟩
 refine mv h0 (fun b0 j0 => ?_)
 refine l_join (fun ga gw => Reg ga 141 [(0, .slice sA s.length sc), (1, .slice aA a.length ac), (2, .slice bA b.length bc), (3, .slice fA f.length fc), (8, .bool false), (32, .bool (((heavyB 120 s) || (heavyB 120 a)) || (heavyB 120 b))), (1000000, .bool false)] ∧ St w0 Z none_ gw [] [dShapes, dRow 4 sA s.length sc (encNs s), dRow 4 aA a.length ac (encNs a), dRow 4 bA b.length bc (encNs b), dRow 4 fA f.length fc (encNs f)]) 3 ?_ ?_
 ·
  rcases Bool.eq_false_or_eq_true (((heavyB 120 s) || (heavyB 120 a))) with b0 | b0
  ·
   have h0 := b0
   try simp only [Bool.or_eq_true, Bool.and_eq_true, Bool.not_eq_true', Bool.not_eq_false', decide_eq_true_eq, decide_eq_false_iff_not, Bool.or_eq_false_iff, Bool.and_eq_false_iff] at h0
   have h0 := j0.setb (d := 29) (b := true) rfl b0
   refine sps h0 (wff h0) (fun i0 f0 => ?_)
   refine sps f0 (wff f0) (fun i0 h0 => ?_)
   refine r_pick_t sv h0 rfl rfl rfl rfl (by decide) (fun i0 f0 => ?_)
   refine wpList_nil ?_
   exact x_then_n ⟨(f0.sub (rc rfl (rc rfl (rc rfl (rc rfl (rc rfl (rc (rb rfl (by first | rfl | (simp only [b0, bl]; done) | (simp [b0]; done) | (simp [b0]; omega))) (rc rfl rnl)))))))), k0⟩
  ·
   have f0 := or_fl b0
   obtain ⟨hls, hss⟩ := heavy_false f0
   have f0 := or_fr b0
   obtain ⟨hla, hsa⟩ := heavy_false f0
   have f0 := j0.setb (d := 29) (b := false) rfl b0
   refine r_move (st_listV_w (wt f0)) f0 rfl rfl rfl (by decide) (fun j0 i0 => ?_)
   have j0 := k0.nf
   refine k_call (xs := [.tmp 30]) (st_list_w (wt i0)) i0 rfl rfl rfl (by decide) ok10 (heavy14_calls _ _ j0.il _ _ _ (j0.g 3)) ?_
   rintro i0 k0 ⟨rfl, f0⟩
   have k0 := j0.below f0.below
   refine ⟨_, rfl, fun f0 j0 => ?_⟩
   refine r_pick_f sv j0 rfl rfl rfl rfl (by decide) (fun f0 i0 => ?_)
   refine wpList_nil ?_
   exact x_then_n ⟨(i0.sub (rc rfl (rc rfl (rc rfl (rc rfl (rc rfl (rc (rb rfl (by first | rfl | (simp only [b0, bl]; done) | (simp [b0]; done) | (simp [b0]; omega))) (rc rfl rnl)))))))), k0⟩
 rintro i0 k0 ⟨b0, f0⟩
 refine mv b0 (fun k0 i0 => ?_)
 refine l_join (fun ga gw => Reg ga 141 [(0, .slice sA s.length sc), (1, .slice aA a.length ac), (2, .slice bA b.length bc), (3, .slice fA f.length fc), (8, .bool false), (36, .bool ((((heavyB 120 s) || (heavyB 120 a)) || (heavyB 120 b)) || (heavyB 120 f))), (1000000, .bool false)] ∧ St w0 Z none_ gw [] [dShapes, dRow 4 sA s.length sc (encNs s), dRow 4 aA a.length ac (encNs a), dRow 4 bA b.length bc (encNs b), dRow 4 fA f.length fc (encNs f)]) 3 ?_ ?_
 ·
  rcases Bool.eq_false_or_eq_true ((((heavyB 120 s) || (heavyB 120 a)) || (heavyB 120 b))) with k0 | k0
  ·
   have b0 := k0
   try simp only [Bool.or_eq_true, Bool.and_eq_true, Bool.not_eq_true', Bool.not_eq_false', decide_eq_true_eq, decide_eq_false_iff_not, Bool.or_eq_false_iff, Bool.and_eq_false_iff] at b0
   have b0 := i0.setb (d := 33) (b := true) rfl k0
   refine sps b0 (wff b0) (fun j0 h0 => ?_)
   refine sps h0 (wff h0) (fun j0 b0 => ?_)
   refine r_pick_t sv b0 rfl rfl rfl rfl (by decide) (fun j0 h0 => ?_)
   refine wpList_nil ?_
   exact x_then_n ⟨(h0.sub (rc rfl (rc rfl (rc rfl (rc rfl (rc rfl (rc (rb rfl (by first | rfl | (simp only [k0, bl]; done) | (simp [k0]; done) | (simp [k0]; omega))) (rc rfl rnl)))))))), f0⟩
  ·
   have h0 := or_fl k0
   have j0 := or_fl h0
   obtain ⟨hls, hss⟩ := heavy_false j0
   have j0 := or_fr h0
   obtain ⟨hla, hsa⟩ := heavy_false j0
   have j0 := or_fr k0
   obtain ⟨hlb, hsb⟩ := heavy_false j0
   have j0 := i0.setb (d := 33) (b := false) rfl k0
   refine r_move (st_listV_w (wt j0)) j0 rfl rfl rfl (by decide) (fun i0 h0 => ?_)
   have i0 := f0.nf
   refine k_call (xs := [.tmp 34]) (st_list_w (wt h0)) h0 rfl rfl rfl (by decide) ok10 (heavy14_calls _ _ i0.il _ _ _ (i0.g 4)) ?_
   rintro h0 f0 ⟨rfl, j0⟩
   have f0 := i0.below j0.below
   refine ⟨_, rfl, fun j0 i0 => ?_⟩
   refine r_pick_f sv i0 rfl rfl rfl rfl (by decide) (fun j0 h0 => ?_)
   refine wpList_nil ?_
   exact x_then_n ⟨(h0.sub (rc rfl (rc rfl (rc rfl (rc rfl (rc rfl (rc (rb rfl (by first | rfl | (simp only [k0, bl]; done) | (simp [k0]; done) | (simp [k0]; omega))) (rc rfl rnl)))))))), f0⟩
 rintro h0 f0 ⟨k0, j0⟩
 refine mv k0 (fun f0 h0 => ?_)
 refine l_join (fun ga gw => Reg ga 141 [(0, .slice sA s.length sc), (1, .slice aA a.length ac), (2, .slice bA b.length bc), (3, .slice fA f.length fc), (8, .bool false), (40, .bool (((((heavyB 120 s) || (heavyB 120 a)) || (heavyB 120 b)) || (heavyB 120 f)) || (!true))), (1000000, .bool false)] ∧ St w0 Z none_ gw [] [dShapes, dRow 4 sA s.length sc (encNs s), dRow 4 aA a.length ac (encNs a), dRow 4 bA b.length bc (encNs b), dRow 4 fA f.length fc (encNs f)]) 3 ?_ ?_
 ·
  rcases Bool.eq_false_or_eq_true (((((heavyB 120 s) || (heavyB 120 a)) || (heavyB 120 b)) || (heavyB 120 f))) with f0 | f0
  ·
   have k0 := f0
   try simp only [Bool.or_eq_true, Bool.and_eq_true, Bool.not_eq_true', Bool.not_eq_false', decide_eq_true_eq, decide_eq_false_iff_not, Bool.or_eq_false_iff, Bool.and_eq_false_iff] at k0
   have k0 := h0.setb (d := 37) (b := true) rfl f0
   refine sps k0 (wff k0) (fun i0 b0 => ?_)
   refine sps b0 (wff b0) (fun i0 k0 => ?_)
   refine r_pick_t sv k0 rfl rfl rfl rfl (by decide) (fun i0 b0 => ?_)
   refine wpList_nil ?_
   exact x_then_n ⟨(b0.sub (rc rfl (rc rfl (rc rfl (rc rfl (rc rfl (rc (rb rfl (by first | rfl | (simp only [f0, bl]; done) | (simp [f0]; done) | (simp [f0]; omega))) (rc rfl rnl)))))))), j0⟩
  ·
   have b0 := or_fl f0
   have i0 := or_fl b0
   have k0 := or_fl i0
   obtain ⟨hls, hss⟩ := heavy_false k0
   have k0 := or_fr i0
   obtain ⟨hla, hsa⟩ := heavy_false k0
   have k0 := or_fr b0
   obtain ⟨hlb, hsb⟩ := heavy_false k0
   have k0 := or_fr f0
   obtain ⟨hlf, hsf⟩ := heavy_false k0
   have k0 := h0.setb (d := 37) (b := false) rfl f0
   have h0 := j0.nf
   refine k_call (xs := []) (st_list_w (wt k0)) k0 rfl rfl rfl (by decide) ok12 (shown14_calls _ _ h0.il (h0.g 0)) ?_
   rintro k0 j0 ⟨rfl, b0⟩
   have j0 := h0.below b0.below
   refine ⟨_, rfl, fun b0 h0 => ?_⟩
   refine r_not (st_listV_w (wt h0)) h0 rfl rfl rfl (by decide) (fun b0 k0 => ?_)
   refine r_pick_f sv k0 rfl rfl rfl rfl (by decide) (fun b0 h0 => ?_)
   refine wpList_nil ?_
   exact x_then_n ⟨(h0.sub (rc rfl (rc rfl (rc rfl (rc rfl (rc rfl (rc (rb rfl (by first | rfl | (simp only [f0, bl]; done) | (simp [f0]; done) | (simp [f0]; omega))) (rc rfl rnl)))))))), j0⟩
 rintro h0 j0 ⟨f0, b0⟩
 refine wpList_nil (x_then_n (d0 _ _ ?_))
 rcases Bool.eq_false_or_eq_true ((((((heavyB 120 s) || (heavyB 120 a)) || (heavyB 120 b)) || (heavyB 120 f)) || (!true))) with d0 | d0
 ·
  have j0 := d0
  try simp only [Bool.or_eq_true, Bool.and_eq_true, Bool.not_eq_true', Bool.not_eq_false', decide_eq_true_eq, decide_eq_false_iff_not, Bool.or_eq_false_iff, Bool.and_eq_false_iff] at j0
  have j0 := f0.setb (d := 40) (b := true) rfl d0
  refine wp_cond_true (j0.ev rfl) ?_
  refine wsc (fun h0 k0 => ?_)
  have h0 := b0.nf
  refine k_call (xs := []) se j0 rfl rfl rfl (by decide) ok12 (shown14_calls _ _ h0.il (h0.g 0)) ?_
  rintro j0 i0 ⟨rfl, m0⟩
  have i0 := h0.below m0.below
  refine ⟨_, rfl, fun m0 h0 => ?_⟩
  refine asg h0 (fun m0 j0 => ?_)
  refine wpList_nil (x_then_n (k0 _ _ ?_))
  refine wp_ret ?_
  refine x_then_r ?_
  refine e_ret1 j0 rfl rfl rfl ?_
  refine ⟨?_, i0.fr⟩
  exact congrArg Ending.returned (ret_b (by first | rfl | omega | assumption | exact decide_eq_true (by assumption) | (have i0 := d0; (try simp at i0);  omega) | (simp [d0]; done) | (simp [] at *; done) | (simp [d0] <;> omega) | (rw [Bool.eq_iff_iff]; simp [d0] <;> omega) | (rw [Bool.eq_iff_iff]; simp [d0] at * <;> omega)))
 ·
  have j0 := or_fl d0
  have k0 := or_fl j0
  have m0 := or_fl k0
  have h0 := or_fl m0
  obtain ⟨hls, hss⟩ := heavy_false h0
  have n0 := or_fr m0
  obtain ⟨hla, hsa⟩ := heavy_false n0
  have m0 := or_fr k0
  obtain ⟨hlb, hsb⟩ := heavy_false m0
  have k0 := or_fr j0
  obtain ⟨hlf, hsf⟩ := heavy_false k0
  have j0 := or_fr d0
  have o0 := not_f j0
  have j0 := f0.setb (d := 40) (b := false) rfl d0
  refine wp_cond_false (j0.ev rfl) ?_
  refine wp_skip ?_
  refine x_then_n (c0 _ _ ?_)
  refine wsc (fun c0 f0 => ?_)
  refine mv j0 (fun c0 p0 => ?_)
  refine mv p0 (fun c0 j0 => ?_)
  refine mv j0 (fun c0 p0 => ?_)
  have c0 := b0.data (dAll [((sA, sc, s) : Sl), ((aA, ac, a) : Sl), ((bA, bc, b) : Sl)]) (all_cons (b0.get (i := 1) rfl) (all_cons (b0.get (i := 2) rfl) (all_cons (b0.get (i := 3) rfl) all_nil)))
  refine mbs [(0, .tmp 42), (1, .tmp 43), (2, .tmp 44)] [.slice sA s.length sc, .slice aA a.length ac, .slice bA b.length bc] sv p0 c0 Tryd.underlying42 zi22 (fun b0 j0 t0 u0 v0 => ?_)
  refine asg u0 (fun j0 b0 => ?_)
  refine wpList_nil (x_then_n (f0 _ _ ?_))
  refine wp_seq_k (fun f0 j0 => ?_)
  refine wsc (fun f0 u0 => ?_)
  refine asg b0 (fun f0 c0 => ?_)
  refine wpList_nil (x_then_n (u0 _ _ ?_))
  refine wp_block ?_
  refine wp_loop_ghost (fun gn ga gw => ∃ k : Nat, (Reg ga 141 [(0, .slice sA s.length sc), (1, .slice aA a.length ac), (2, .slice bA b.length bc), (3, .slice fA f.length fc), (1000000, .bool false), (9, .slice (some ⟨t0, 0, none⟩) 3 3), (10, .int .i64 ((k : Nat) : Int))]) ∧ (St w0 Z none_ gw [.row (some ⟨t0, 0, none⟩) 3 3 22 1 (encSs ([((sA, sc, s) : Sl), ((aA, ac, a) : Sl), ((bA, bc, b) : Sl)]))] [dShapes, dRow 4 sA s.length sc (encNs s), dRow 4 aA a.length ac (encNs a), dRow 4 bA b.length bc (encNs b), dRow 4 fA f.length fc (encNs f), dAll [((sA, sc, s) : Sl), ((aA, ac, a) : Sl), ((bA, bc, b) : Sl)]]) ∧ (k ≤ 3) ∧ (∀ i, i < k → PU (nthS [((sA, sc, s) : Sl), ((aA, ac, a) : Sl), ((bA, bc, b) : Sl)] i).2.2) ∧ (3 - k) = gn) _ ⟨0, (c0.sub (rc rfl (rc rfl (rc rfl (rc rfl (rc rfl (rc rfl (rc rfl rnl)))))))), v0, by omega, (fun _ h => by omega), rfl⟩ ?_
  rintro c0 v0 u0 ⟨k, f0, b0, hk, hq, p0⟩
  refine wp_seq_k (fun p0 u0 => ?_)
  refine wsc (fun p0 v0 => ?_)
  refine mv f0 (fun p0 c0 => ?_)
  refine mv c0 (fun p0 f0 => ?_)
  refine r_len sv f0 rfl rfl rfl rfl Tryd.underlying42 (by decide) (fun p0 c0 => ?_)
  refine r_lss sv c0 rfl rfl rfl rfl (by decide) (fun p0 f0 => ?_)
  refine wpList_nil (x_then_n (v0 _ _ ?_))
  rcases Decidable.em (((k : Nat) : Int) < 3) with v0 | v0
  ·
   obtain ⟨hlx, hsx⟩ := up_el (k := k) (A := sA) (B := aA) (C := bA) (c := sc) (d := ac) (e := bc) hls hss hla hsa hlb hsb (by omega)
   have p0 := f0.setb (d := 49) (b := true) rfl (decide_eq_true v0)
   refine wp_cond_true (p0.ev rfl) ?_
   refine wp_skip ?_
   refine x_then_n (u0 _ _ ?_)
   refine wp_seq_k (fun u0 c0 => ?_)
   refine wp_block ?_
   refine wsc (fun u0 x0 => ?_)
   refine mv p0 (fun u0 y0 => ?_)
   refine mv y0 (fun u0 p0 => ?_)
   refine m_index (i := k) (j := k * 1) sv p0 rfl rfl rfl rfl Tryd.underlying42 sz22 (by omega) (by first | omega | (simp; omega)) (own_ss (t := [((sA, sc, s) : Sl), ((aA, ac, a) : Sl), ((bA, bc, b) : Sl)]) (k := k) (b0.res (i := 0) rfl) (by first | omega | (simp; omega))).some_ rfl (by decide) (fun u0 y0 => ?_)
   refine m_loadE sv y0 rfl rfl rfl 0 (k * 1) (own_ss (t := [((sA, sc, s) : Sl), ((aA, ac, a) : Sl), ((bA, bc, b) : Sl)]) (k := k) (b0.res (i := 0) rfl) (by first | omega | (simp; omega))) rfl rfl Tryd.underlying22 rfl (by decide) (fun u0 p0 => ?_)
   have u0 := b0.data (dRow 4 ((nthS ([((sA, sc, s) : Sl), ((aA, ac, a) : Sl), ((bA, bc, b) : Sl)]) k).1) ((nthS ([((sA, sc, s) : Sl), ((aA, ac, a) : Sl), ((bA, bc, b) : Sl)]) k).2.2.length) ((nthS ([((sA, sc, s) : Sl), ((aA, ac, a) : Sl), ((bA, bc, b) : Sl)]) k).2.1) (encNs ((nthS ([((sA, sc, s) : Sl), ((aA, ac, a) : Sl), ((bA, bc, b) : Sl)]) k).2.2))) (all_at (t := [((sA, sc, s) : Sl), ((aA, ac, a) : Sl), ((bA, bc, b) : Sl)]) (k := k) (b0.get (i := 5) rfl) (by first | omega | (simp; omega)))
   have y0 := u0.nf
   refine k_call (xs := [.tmp 55]) se p0 rfl rfl rfl (by decide) ok24 (rcheck_calls _ _ y0.il _ _ ((nthS ([((sA, sc, s) : Sl), ((aA, ac, a) : Sl), ((bA, bc, b) : Sl)]) k).2.2) (y0.g 6) (hl := (by omega)) (hsm := (by assumption))) ?_
   rintro p0 u0 ⟨rfl, z0⟩
   have u0 := y0.below z0.below
   refine ⟨_, rfl, fun z0 y0 => ?_⟩
   refine r_neq sv y0 rfl rfl rfl rfl (by decide) (fun z0 p0 => ?_)
   refine mv p0 (fun z0 y0 => ?_)
   refine l_join (fun ga gw => Reg ga 141 [(0, .slice sA s.length sc), (1, .slice aA a.length ac), (2, .slice bA b.length bc), (3, .slice fA f.length fc), (9, .slice (some ⟨t0, 0, none⟩) 3 3), (10, .int .i64 ((k : Nat) : Int)), (65, .bool ((!(decide (((chk ((nthS ([((sA, sc, s) : Sl), ((aA, ac, a) : Sl), ((bA, bc, b) : Sl)]) k).2.2))) = 0))) || (decide (50 < ((dpL ((nthS ([((sA, sc, s) : Sl), ((aA, ac, a) : Sl), ((bA, bc, b) : Sl)]) k).2.2) : Nat) : Int))))), (1000000, .bool false)] ∧ St w0 Z none_ gw [.row (some ⟨t0, 0, none⟩) 3 3 22 1 (encSs ([((sA, sc, s) : Sl), ((aA, ac, a) : Sl), ((bA, bc, b) : Sl)]))] [dShapes, dRow 4 sA s.length sc (encNs s), dRow 4 aA a.length ac (encNs a), dRow 4 bA b.length bc (encNs b), dRow 4 fA f.length fc (encNs f), dAll [((sA, sc, s) : Sl), ((aA, ac, a) : Sl), ((bA, bc, b) : Sl)], dRow 4 ((nthS ([((sA, sc, s) : Sl), ((aA, ac, a) : Sl), ((bA, bc, b) : Sl)]) k).1) ((nthS ([((sA, sc, s) : Sl), ((aA, ac, a) : Sl), ((bA, bc, b) : Sl)]) k).2.2.length) ((nthS ([((sA, sc, s) : Sl), ((aA, ac, a) : Sl), ((bA, bc, b) : Sl)]) k).2.1) (encNs ((nthS ([((sA, sc, s) : Sl), ((aA, ac, a) : Sl), ((bA, bc, b) : Sl)]) k).2.2))]) 7 ?_ ?_
   ·
    rcases Decidable.em (((chk ((nthS ([((sA, sc, s) : Sl), ((aA, ac, a) : Sl), ((bA, bc, b) : Sl)]) k).2.2))) = 0) with z0 | z0
    ·
     have hcx := z0
     have hmx := meas_chk hcx
     have p0 := y0.setb (d := 58) (b := false) rfl (by rw [(decide_eq_true z0)]; rfl)
     refine r_move (st_listV_w (wt p0)) p0 rfl rfl rfl (by decide) (fun b1 c1 => ?_)
     refine r_move (st_listV_w (wt c1)) c1 rfl rfl rfl (by decide) (fun b1 p0 => ?_)
     refine m_index (i := k) (j := k * 1) (st_listV_w (wt p0)) p0 rfl rfl rfl rfl Tryd.underlying42 sz22 (by omega) (by first | omega | (simp; omega)) (own_ss (t := [((sA, sc, s) : Sl), ((aA, ac, a) : Sl), ((bA, bc, b) : Sl)]) (k := k) (u0.res (i := 0) rfl) (by first | omega | (simp; omega))).some_ rfl (by decide) (fun b1 c1 => ?_)
     refine m_loadE (st_listV_w (wt c1)) c1 rfl rfl rfl 0 (k * 1) (own_ss (t := [((sA, sc, s) : Sl), ((aA, ac, a) : Sl), ((bA, bc, b) : Sl)]) (k := k) (u0.res (i := 0) rfl) (by first | omega | (simp; omega))) rfl rfl Tryd.underlying22 rfl (by decide) (fun b1 p0 => ?_)
     have b1 := u0.data (dRow 4 ((nthS ([((sA, sc, s) : Sl), ((aA, ac, a) : Sl), ((bA, bc, b) : Sl)]) k).1) ((nthS ([((sA, sc, s) : Sl), ((aA, ac, a) : Sl), ((bA, bc, b) : Sl)]) k).2.2.length) ((nthS ([((sA, sc, s) : Sl), ((aA, ac, a) : Sl), ((bA, bc, b) : Sl)]) k).2.1) (encNs ((nthS ([((sA, sc, s) : Sl), ((aA, ac, a) : Sl), ((bA, bc, b) : Sl)]) k).2.2))) (all_at (t := [((sA, sc, s) : Sl), ((aA, ac, a) : Sl), ((bA, bc, b) : Sl)]) (k := k) (u0.get (i := 5) rfl) (by first | omega | (simp; omega)))
     have c1 := b1.nf
     refine k_call (xs := [.tmp 62]) (st_list_w (wt p0)) p0 rfl rfl rfl (by decide) ok25 (rdeep_calls _ _ c1.il _ _ ((nthS ([((sA, sc, s) : Sl), ((aA, ac, a) : Sl), ((bA, bc, b) : Sl)]) k).2.2) (c1.g 7) (hl := (by omega)) (hsm := (by assumption)) (hb := (by assumption))) ?_
     rintro p0 b1 ⟨rfl, d1⟩
     have b1 := c1.below d1.below
     refine ⟨_, rfl, fun d1 c1 => ?_⟩
     refine r_gtr (st_listV_w (wt c1)) c1 rfl rfl rfl rfl (by decide) (fun d1 p0 => ?_)
     refine r_pick_f sv p0 rfl rfl rfl rfl (by decide) (fun d1 c1 => ?_)
     refine wpList_nil ?_
     exact x_then_n ⟨(c1.sub (rc rfl (rc rfl (rc rfl (rc rfl (rc rfl (rc rfl (rc (rb rfl (by first | rfl | (simp only [decide_eq_true z0, if_pos z0, bl]; done) | (simp [z0]; done) | (simp [z0]; omega))) (rc rfl rnl))))))))), (b1.forget 7)⟩
    ·
     have c1 := y0.setb (d := 58) (b := true) rfl (by rw [(decide_eq_false z0)]; rfl)
     refine sps c1 (wff c1) (fun y0 b1 => ?_)
     refine sps b1 (wff b1) (fun y0 c1 => ?_)
     refine sps c1 (wff c1) (fun y0 b1 => ?_)
     refine sps b1 (wff b1) (fun y0 c1 => ?_)
     refine sps c1 (wff c1) (fun y0 b1 => ?_)
     refine sps b1 (wff b1) (fun y0 c1 => ?_)
     refine r_pick_t sv c1 rfl rfl rfl rfl (by decide) (fun y0 b1 => ?_)
     refine wpList_nil ?_
     exact x_then_n ⟨(b1.sub (rc rfl (rc rfl (rc rfl (rc rfl (rc rfl (rc rfl (rc (rb rfl (by first | rfl | (simp only [decide_eq_false z0, if_neg z0, bl]; done) | (simp [z0]; done) | (simp [z0]; omega))) (rc rfl rnl))))))))), u0⟩
   rintro b1 z0 ⟨u0, y0⟩
   refine wpList_nil (x_then_n (x0 _ _ ?_))
   rcases Bool.eq_false_or_eq_true (((!(decide (((chk ((nthS ([((sA, sc, s) : Sl), ((aA, ac, a) : Sl), ((bA, bc, b) : Sl)]) k).2.2))) = 0))) || (decide (50 < ((dpL ((nthS ([((sA, sc, s) : Sl), ((aA, ac, a) : Sl), ((bA, bc, b) : Sl)]) k).2.2) : Nat) : Int))))) with x0 | x0
   ·
    have z0 := x0
    try simp only [Bool.or_eq_true, Bool.and_eq_true, Bool.not_eq_true', Bool.not_eq_false', decide_eq_true_eq, decide_eq_false_iff_not, Bool.or_eq_false_iff, Bool.and_eq_false_iff] at z0
    have z0 := u0.setb (d := 65) (b := true) rfl x0
    refine wp_cond_true (z0.ev rfl) ?_
    refine wsc (fun b1 c1 => ?_)
    have b1 := y0.nf
    refine k_call (xs := []) se z0 rfl rfl rfl (by decide) ok12 (shown14_calls _ _ b1.il (b1.g 0)) ?_
    rintro z0 d1 ⟨rfl, p0⟩
    have d1 := b1.below p0.below
    refine ⟨_, rfl, fun p0 b1 => ?_⟩
    refine asg b1 (fun p0 z0 => ?_)
    refine wpList_nil (x_then_n (c1 _ _ ?_))
    refine wp_ret ?_
    refine x_block_r ?_
    refine x_then_r ?_
    refine x_then_r ?_
    refine x_block_r ?_
    refine x_then_r ?_
    refine e_ret1 z0 rfl rfl rfl ?_
    refine ⟨?_, d1.fr⟩
    exact congrArg Ending.returned (ret_b (by first | rfl | omega | assumption | exact decide_eq_true (by assumption) | (have i0 := d0; (try simp at i0); have d1 := h0; (try simp at d1); have z0 := n0; (try simp at z0); have c1 := m0; (try simp at c1); have p0 := k0; (try simp at p0); have b1 := o0; (try simp at b1); have f1 := v0; (try simp at f1); have h1 := x0; (try simp at h1);  omega) | (simp [d0, h0, n0, m0, k0, o0, v0, x0]; done) | (simp [] at *; done) | (simp [d0, h0, n0, m0, k0, o0, v0, x0] <;> omega) | (rw [Bool.eq_iff_iff]; simp [d0, h0, n0, m0, k0, o0, v0, x0] <;> omega) | (rw [Bool.eq_iff_iff]; simp [d0, h0, n0, m0, k0, o0, v0, x0] at * <;> omega)))
   ·
    have i1 := or_fl x0
    have j1 := not_f i1
    have i1 := of_decide_eq_true j1
    have hcx := i1
    have hmx := meas_chk hcx
    have i1 := or_fr x0
    have j1 := of_decide_eq_false i1
    have j1 := u0.setb (d := 65) (b := false) rfl x0
    refine wp_cond_false (j1.ev rfl) ?_
    refine wp_skip ?_
    refine x_block_n ?_
    refine x_then_n (c0 _ _ ?_)
    refine c_region ?_
    refine mv j1 (fun c0 x0 => ?_)
    refine r_add (z := ((k + 1 : Nat) : Int)) sv x0 rfl rfl rfl rfl (by decide) (by omega) (by omega) (by omega) (fun c0 j1 => ?_)
    refine asg j1 (fun c0 x0 => ?_)
    refine wpList_nil ?_
    have c0 := y0.forget 6
    exact ⟨_, by omega, k + 1, (x0.sub (rc rfl (rc rfl (rc rfl (rc rfl (rc rfl (rc rfl (rc rfl rnl)))))))), c0, by omega, (hyp_p hq ⟨hcx, by omega⟩), rfl⟩
  ·
   have hus : PU s := hq 0 (by omega)
   have hua : PU a := hq 1 (by omega)
   have hub : PU b := hq 2 (by omega)
   obtain ⟨hp1, _, _, _, hp5⟩ := pair_ok hus hua hub hls hla hlb
   obtain ⟨c0, x0, y0, j1, u0⟩ := half_ok hus hua hub hls hla hlb (.inl rfl)
   obtain ⟨hg1, hg2, hg3, hg4, hg27⟩ := half_ok hus hua hub hls hla hlb (.inr rfl)
   have hfl : (urA (ofL 8 [ofL 7 [s, a, b]])).length ≤ 1000000 := by rw [j1, if_pos rfl]; omega
   have hgl : (urA (ofL 9 [ofL 7 [s, a, b]])).length ≤ 1000000 := by rw [hg4, if_neg (by decide)]; omega
   have c0 := f0.setb (d := 49) (b := false) rfl (decide_eq_false v0)
   refine wp_cond_false (c0.ev rfl) ?_
   refine wp_exit ?_
   refine x_then_e ?_
   refine x_then_e ?_
   refine x_block_eq ?_
   refine x_then_n (j0 _ _ ?_)
   refine wsc (fun j0 f0 => ?_)
   refine m_build (ps := [(0, .const (.int .i64 7))]) (v := .agg #[.int .i64 7, .int .i64 0, .int .i64 0, .string (⟨#[]⟩ : ByteArray)]) sv c0 rfl rfl rfl (fun _ => by kernel_rfl) (by decide) (fun j0 i1 => ?_)
   refine mv i1 (fun j0 c0 => ?_)
   have j0 := b0.nf
   have b0 := own_cap (j0.res (i := 0) rfl)
   obtain ⟨i1, k1⟩ := j0.row_data (i := 0) rfl (fun _ h => h)
   have j0 := i1.data (dRow 1 (some ⟨t0, 0, none⟩) 3 3 (encSs ([((sA, sc, s) : Sl), ((aA, ac, a) : Sl), ((bA, bc, b) : Sl)]))) ⟨b0, k1⟩
   refine k_call (xs := [.tmp 67, .tmp 68]) se c0 rfl rfl rfl (by decide) ok26 (rof_calls _ _ j0.il (⟨7, 0, 0, (⟨#[]⟩ : ByteArray)⟩ : Nd) _ _ ([((sA, sc, s) : Sl), ((aA, ac, a) : Sl), ((bA, bc, b) : Sl)]) (j0.g 6) (j0.g 5) (hl := (by simp)) (hb := (by simp [lsts]; omega))) ?_
   rintro c0 k1 ⟨i1, b0, rfl, m1, n1⟩
   have k1 := j0.below m1.below
   have m1 := j0.dN k1 n1
   refine ⟨_, rfl, fun k1 n1 => ?_⟩
   refine asg n1 (fun k1 j0 => ?_)
   refine wpList_nil (x_then_n (f0 _ _ ?_))
   refine wsc (fun f0 k1 => ?_)
   refine mv j0 (fun f0 n1 => ?_)
   have f0 := m1.data (dAll [((i1, b0, (lsts ([((sA, sc, s) : Sl), ((aA, ac, a) : Sl), ((bA, bc, b) : Sl)])).flatten ++ [(⟨7, 0, 0, (⟨#[]⟩ : ByteArray)⟩ : Nd)]) : Sl)]) (all_cons (m1.get (i := 7) rfl) all_nil)
   refine mbs [(0, .tmp 70)] [.slice i1 (((lsts ([((sA, sc, s) : Sl), ((aA, ac, a) : Sl), ((bA, bc, b) : Sl)])).flatten ++ [(⟨7, 0, 0, (⟨#[]⟩ : ByteArray)⟩ : Nd)]).length) b0] sv n1 f0 Tryd.underlying42 zi22 (fun m1 j0 c0 o1 p1 => ?_)
   refine asg o1 (fun j0 m1 => ?_)
   refine wpList_nil (x_then_n (k1 _ _ ?_))
   refine wsc (fun k1 j0 => ?_)
   refine m_build (ps := [(0, .const (.int .i64 8))]) (v := .agg #[.int .i64 8, .int .i64 0, .int .i64 0, .string (⟨#[]⟩ : ByteArray)]) sv m1 rfl rfl rfl (fun _ => by kernel_rfl) (by decide) (fun k1 o1 => ?_)
   refine mv o1 (fun k1 m1 => ?_)
   have k1 := p1.nf
   have p1 := own_cap (k1.res (i := 0) rfl)
   obtain ⟨o1, f0⟩ := k1.row_data (i := 0) rfl (fun _ h => h)
   have k1 := o1.data (dRow 1 (some ⟨c0, 0, none⟩) 1 1 (encSs ([((i1, b0, (lsts ([((sA, sc, s) : Sl), ((aA, ac, a) : Sl), ((bA, bc, b) : Sl)])).flatten ++ [(⟨7, 0, 0, (⟨#[]⟩ : ByteArray)⟩ : Nd)]) : Sl)]))) ⟨p1, f0⟩
   refine k_call (xs := [.tmp 73, .tmp 74]) se m1 rfl rfl rfl (by decide) ok26 (rof_calls _ _ k1.il (⟨8, 0, 0, (⟨#[]⟩ : ByteArray)⟩ : Nd) _ _ ([((i1, b0, (lsts ([((sA, sc, s) : Sl), ((aA, ac, a) : Sl), ((bA, bc, b) : Sl)])).flatten ++ [(⟨7, 0, 0, (⟨#[]⟩ : ByteArray)⟩ : Nd)]) : Sl)]) (k1.g 9) (k1.g 8) (hl := (by simp)) (hb := (by simp [lsts]; omega))) ?_
   rintro m1 f0 ⟨o1, p1, rfl, n1, s1⟩
   have f0 := k1.below n1.below
   have n1 := k1.dN f0 s1
   refine ⟨_, rfl, fun f0 s1 => ?_⟩
   have f0 := n1.nf
   refine k_call (xs := [.tmp 75, .const (.slice none 0 0)]) se s1 rfl rfl rfl (by decide) ok13 (urule0_calls _ _ f0.il _ _ ((lsts ([((i1, b0, (lsts ([((sA, sc, s) : Sl), ((aA, ac, a) : Sl), ((bA, bc, b) : Sl)])).flatten ++ [(⟨7, 0, 0, (⟨#[]⟩ : ByteArray)⟩ : Nd)]) : Sl)])).flatten ++ [(⟨8, 0, 0, (⟨#[]⟩ : ByteArray)⟩ : Nd)]) (f0.g 0) (f0.g 10) (hsm := (by first | exact pr_sml hss hsa hsb _ | exact ap_sml hss hsa hsf)) (hl := (by first | exact Nat.le_trans x0 (by decide) | exact Nat.le_trans hg2 (by decide) | exact Nat.le_trans ha2 (by decide))) (h27 := (by first | exact u0 | exact hg27 | exact ha27))) ?_
   rintro s1 n1 ⟨k1, m1, rfl, t1, u1⟩
   have n1 := f0.below t1.below
   have t1 := f0.dN n1 u1
   refine ⟨_, rfl, fun n1 u1 => ?_⟩
   refine mv u1 (fun n1 f0 => ?_)
   refine r_extract sv f0 rfl rfl rfl rfl (by decide) (fun n1 u1 => ?_)
   refine r_extract sv u1 rfl rfl rfl rfl (by decide) (fun n1 f0 => ?_)
   refine asg f0 (fun n1 u1 => ?_)
   refine asg u1 (fun n1 f0 => ?_)
   refine wpList_nil (x_then_n (j0 _ _ ?_))
   refine wsc (fun j0 n1 => ?_)
   refine m_build (ps := [(0, .const (.int .i64 9))]) (v := .agg #[.int .i64 9, .int .i64 0, .int .i64 0, .string (⟨#[]⟩ : ByteArray)]) sv f0 rfl rfl rfl (fun _ => by kernel_rfl) (by decide) (fun j0 u1 => ?_)
   refine mv u1 (fun j0 f0 => ?_)
   have j0 := t1.nf
   refine k_call (xs := [.tmp 80, .tmp 81]) se f0 rfl rfl rfl (by decide) ok26 (rof_calls _ _ j0.il (⟨9, 0, 0, (⟨#[]⟩ : ByteArray)⟩ : Nd) _ _ ([((i1, b0, (lsts ([((sA, sc, s) : Sl), ((aA, ac, a) : Sl), ((bA, bc, b) : Sl)])).flatten ++ [(⟨7, 0, 0, (⟨#[]⟩ : ByteArray)⟩ : Nd)]) : Sl)]) (j0.g 9) (j0.g 8) (hl := (by simp)) (hb := (by simp [lsts]; omega))) ?_
   rintro f0 t1 ⟨u1, s1, rfl, v1, x1⟩
   have t1 := j0.below v1.below
   have v1 := j0.dN t1 x1
   refine ⟨_, rfl, fun t1 x1 => ?_⟩
   have t1 := v1.nf
   refine k_call (xs := [.tmp 82, .const (.slice none 0 0)]) se x1 rfl rfl rfl (by decide) ok13 (urule0_calls _ _ t1.il _ _ ((lsts ([((i1, b0, (lsts ([((sA, sc, s) : Sl), ((aA, ac, a) : Sl), ((bA, bc, b) : Sl)])).flatten ++ [(⟨7, 0, 0, (⟨#[]⟩ : ByteArray)⟩ : Nd)]) : Sl)])).flatten ++ [(⟨9, 0, 0, (⟨#[]⟩ : ByteArray)⟩ : Nd)]) (t1.g 0) (t1.g 12) (hsm := (by first | exact pr_sml hss hsa hsb _ | exact ap_sml hss hsa hsf)) (hl := (by first | exact Nat.le_trans x0 (by decide) | exact Nat.le_trans hg2 (by decide) | exact Nat.le_trans ha2 (by decide))) (h27 := (by first | exact u0 | exact hg27 | exact ha27))) ?_
   rintro x1 v1 ⟨j0, f0, rfl, y1, z1⟩
   have v1 := t1.below y1.below
   have y1 := t1.dN v1 z1
   refine ⟨_, rfl, fun v1 z1 => ?_⟩
   refine mv z1 (fun v1 t1 => ?_)
   refine r_extract sv t1 rfl rfl rfl rfl (by decide) (fun v1 z1 => ?_)
   refine r_extract sv z1 rfl rfl rfl rfl (by decide) (fun v1 t1 => ?_)
   refine asg t1 (fun v1 z1 => ?_)
   refine asg z1 (fun v1 t1 => ?_)
   refine wpList_nil (x_then_n (n1 _ _ ?_))
   refine wp_seq_k (fun n1 v1 => ?_)
   refine wsc (fun n1 z1 => ?_)
   refine mv t1 (fun n1 x1 => ?_)
   refine r_neq sv x1 rfl rfl rfl rfl (by decide) (fun n1 t1 => ?_)
   refine mv t1 (fun n1 x1 => ?_)
   have n1 : ((urE ((lsts ([((i1, b0, (lsts ([((sA, sc, s) : Sl), ((aA, ac, a) : Sl), ((bA, bc, b) : Sl)])).flatten ++ [(⟨7, 0, 0, (⟨#[]⟩ : ByteArray)⟩ : Nd)]) : Sl)])).flatten ++ [(⟨8, 0, 0, (⟨#[]⟩ : ByteArray)⟩ : Nd)]))) = 0 := y0
   have y0 := x1.setb (d := 88) (b := false) rfl (by rw [(decide_eq_true n1)]; rfl)
   refine r_move (st_listV_w (wt y0)) y0 rfl rfl rfl (by decide) (fun x1 t1 => ?_)
   refine r_neq (st_listV_w (wt t1)) t1 rfl rfl rfl rfl (by decide) (fun x1 y0 => ?_)
   refine r_pick_f sv y0 rfl rfl rfl rfl (by decide) (fun x1 t1 => ?_)
   refine mv t1 (fun x1 y0 => ?_)
   have x1 : ((urE ((lsts ([((i1, b0, (lsts ([((sA, sc, s) : Sl), ((aA, ac, a) : Sl), ((bA, bc, b) : Sl)])).flatten ++ [(⟨7, 0, 0, (⟨#[]⟩ : ByteArray)⟩ : Nd)]) : Sl)])).flatten ++ [(⟨9, 0, 0, (⟨#[]⟩ : ByteArray)⟩ : Nd)]))) = 0 := hg3
   have t1 := y0.setb (d := 92) (b := false) rfl (by rw [(decide_eq_true x1)]; rfl)
   refine r_move (st_listV_w (wt t1)) t1 rfl rfl rfl (by decide) (fun y0 b2 => ?_)
   refine r_move (st_listV_w (wt b2)) b2 rfl rfl rfl (by decide) (fun y0 t1 => ?_)
   have y0 := y1.nf
   refine k_call (xs := [.tmp 93, .tmp 94]) (st_list_w (wt t1)) t1 rfl rfl rfl (by decide) ok16 (rsame_calls _ _ y0.il _ _ (urA ((lsts ([((i1, b0, (lsts ([((sA, sc, s) : Sl), ((aA, ac, a) : Sl), ((bA, bc, b) : Sl)])).flatten ++ [(⟨7, 0, 0, (⟨#[]⟩ : ByteArray)⟩ : Nd)]) : Sl)])).flatten ++ [(⟨8, 0, 0, (⟨#[]⟩ : ByteArray)⟩ : Nd)])) _ _ _ (y0.g 11) (y0.g 2) (hl := (by first | exact hfl | exact hgl | exact hal))) ?_
   rintro t1 y1 ⟨rfl, b2⟩
   have y1 := y0.below b2.below
   refine ⟨_, rfl, fun b2 y0 => ?_⟩
   refine r_not (st_listV_w (wt y0)) y0 rfl rfl rfl (by decide) (fun b2 t1 => ?_)
   refine r_pick_f sv t1 rfl rfl rfl rfl (by decide) (fun b2 y0 => ?_)
   refine mv y0 (fun b2 t1 => ?_)
   have b2 : (decide ((urA ((lsts ([((i1, b0, (lsts ([((sA, sc, s) : Sl), ((aA, ac, a) : Sl), ((bA, bc, b) : Sl)])).flatten ++ [(⟨7, 0, 0, (⟨#[]⟩ : ByteArray)⟩ : Nd)]) : Sl)])).flatten ++ [(⟨8, 0, 0, (⟨#[]⟩ : ByteArray)⟩ : Nd)])) = a)) = true := decide_eq_true (j1.trans (if_pos rfl))
   have j1 := of_decide_eq_true b2
   have y0 := t1.setb (d := 98) (b := false) rfl (by rw [b2]; rfl)
   refine r_move (st_listV_w (wt y0)) y0 rfl rfl rfl (by decide) (fun t1 c2 => ?_)
   refine r_move (st_listV_w (wt c2)) c2 rfl rfl rfl (by decide) (fun t1 y0 => ?_)
   have t1 := y1.nf
   refine k_call (xs := [.tmp 99, .tmp 100]) (st_list_w (wt y0)) y0 rfl rfl rfl (by decide) ok16 (rsame_calls _ _ t1.il _ _ (urA ((lsts ([((i1, b0, (lsts ([((sA, sc, s) : Sl), ((aA, ac, a) : Sl), ((bA, bc, b) : Sl)])).flatten ++ [(⟨7, 0, 0, (⟨#[]⟩ : ByteArray)⟩ : Nd)]) : Sl)])).flatten ++ [(⟨9, 0, 0, (⟨#[]⟩ : ByteArray)⟩ : Nd)])) _ _ _ (t1.g 13) (t1.g 3) (hl := (by first | exact hfl | exact hgl | exact hal))) ?_
   rintro y0 y1 ⟨rfl, c2⟩
   have y1 := t1.below c2.below
   refine ⟨_, rfl, fun c2 t1 => ?_⟩
   refine r_not (st_listV_w (wt t1)) t1 rfl rfl rfl (by decide) (fun c2 y0 => ?_)
   refine r_pick_f sv y0 rfl rfl rfl rfl (by decide) (fun c2 t1 => ?_)
   refine wpList_nil (x_then_n (z1 _ _ ?_))
   have z1 : (decide ((urA ((lsts ([((i1, b0, (lsts ([((sA, sc, s) : Sl), ((aA, ac, a) : Sl), ((bA, bc, b) : Sl)])).flatten ++ [(⟨7, 0, 0, (⟨#[]⟩ : ByteArray)⟩ : Nd)]) : Sl)])).flatten ++ [(⟨9, 0, 0, (⟨#[]⟩ : ByteArray)⟩ : Nd)])) = b)) = true := decide_eq_true (hg4.trans (if_neg (by decide)))
   have c2 := of_decide_eq_true z1
   have y0 := t1.setb (d := 103) (b := false) rfl (by rw [z1]; rfl)
   refine wp_cond_false (y0.ev rfl) ?_
   refine wp_skip ?_
   refine x_then_n (v1 _ _ ?_)
   refine wp_seq_k (fun v1 t1 => ?_)
   refine wsc (fun v1 d2 => ?_)
   refine mv y0 (fun v1 f2 => ?_)
   have v1 := y1.nf
   refine k_call (xs := [.tmp 104]) se f2 rfl rfl rfl (by decide) ok24 (rcheck_calls _ _ v1.il _ _ _ (v1.g 4) (hl := (by omega)) (hsm := (by assumption))) ?_
   rintro f2 y1 ⟨rfl, y0⟩
   have y1 := v1.below y0.below
   refine ⟨_, rfl, fun y0 v1 => ?_⟩
   refine r_neq sv v1 rfl rfl rfl rfl (by decide) (fun y0 f2 => ?_)
   refine mv f2 (fun y0 v1 => ?_)
   refine l_join (fun ga gw => Reg ga 141 [(0, .slice sA s.length sc), (1, .slice aA a.length ac), (3, .slice fA f.length fc), (111, .bool ((!(decide (((chk f)) = 0))) || (decide (50 < ((dpL f : Nat) : Int))))), (1000000, .bool false)] ∧ St w0 Z none_ gw [] [dShapes, dRow 4 sA s.length sc (encNs s), dRow 4 aA a.length ac (encNs a), dRow 4 bA b.length bc (encNs b), dRow 4 fA f.length fc (encNs f), dAll [((sA, sc, s) : Sl), ((aA, ac, a) : Sl), ((bA, bc, b) : Sl)], dRow 1 (some ⟨t0, 0, none⟩) 3 3 (encSs ([((sA, sc, s) : Sl), ((aA, ac, a) : Sl), ((bA, bc, b) : Sl)])), dRow 4 i1 (((lsts ([((sA, sc, s) : Sl), ((aA, ac, a) : Sl), ((bA, bc, b) : Sl)])).flatten ++ [(⟨7, 0, 0, (⟨#[]⟩ : ByteArray)⟩ : Nd)]).length) b0 (encNs ((lsts ([((sA, sc, s) : Sl), ((aA, ac, a) : Sl), ((bA, bc, b) : Sl)])).flatten ++ [(⟨7, 0, 0, (⟨#[]⟩ : ByteArray)⟩ : Nd)])), dAll [((i1, b0, (lsts ([((sA, sc, s) : Sl), ((aA, ac, a) : Sl), ((bA, bc, b) : Sl)])).flatten ++ [(⟨7, 0, 0, (⟨#[]⟩ : ByteArray)⟩ : Nd)]) : Sl)], dRow 1 (some ⟨c0, 0, none⟩) 1 1 (encSs ([((i1, b0, (lsts ([((sA, sc, s) : Sl), ((aA, ac, a) : Sl), ((bA, bc, b) : Sl)])).flatten ++ [(⟨7, 0, 0, (⟨#[]⟩ : ByteArray)⟩ : Nd)]) : Sl)])), dRow 4 o1 (((lsts ([((i1, b0, (lsts ([((sA, sc, s) : Sl), ((aA, ac, a) : Sl), ((bA, bc, b) : Sl)])).flatten ++ [(⟨7, 0, 0, (⟨#[]⟩ : ByteArray)⟩ : Nd)]) : Sl)])).flatten ++ [(⟨8, 0, 0, (⟨#[]⟩ : ByteArray)⟩ : Nd)]).length) p1 (encNs ((lsts ([((i1, b0, (lsts ([((sA, sc, s) : Sl), ((aA, ac, a) : Sl), ((bA, bc, b) : Sl)])).flatten ++ [(⟨7, 0, 0, (⟨#[]⟩ : ByteArray)⟩ : Nd)]) : Sl)])).flatten ++ [(⟨8, 0, 0, (⟨#[]⟩ : ByteArray)⟩ : Nd)])), dRow 4 k1 ((urA ((lsts ([((i1, b0, (lsts ([((sA, sc, s) : Sl), ((aA, ac, a) : Sl), ((bA, bc, b) : Sl)])).flatten ++ [(⟨7, 0, 0, (⟨#[]⟩ : ByteArray)⟩ : Nd)]) : Sl)])).flatten ++ [(⟨8, 0, 0, (⟨#[]⟩ : ByteArray)⟩ : Nd)])).length) m1 (encNs (urA ((lsts ([((i1, b0, (lsts ([((sA, sc, s) : Sl), ((aA, ac, a) : Sl), ((bA, bc, b) : Sl)])).flatten ++ [(⟨7, 0, 0, (⟨#[]⟩ : ByteArray)⟩ : Nd)]) : Sl)])).flatten ++ [(⟨8, 0, 0, (⟨#[]⟩ : ByteArray)⟩ : Nd)]))), dRow 4 u1 (((lsts ([((i1, b0, (lsts ([((sA, sc, s) : Sl), ((aA, ac, a) : Sl), ((bA, bc, b) : Sl)])).flatten ++ [(⟨7, 0, 0, (⟨#[]⟩ : ByteArray)⟩ : Nd)]) : Sl)])).flatten ++ [(⟨9, 0, 0, (⟨#[]⟩ : ByteArray)⟩ : Nd)]).length) s1 (encNs ((lsts ([((i1, b0, (lsts ([((sA, sc, s) : Sl), ((aA, ac, a) : Sl), ((bA, bc, b) : Sl)])).flatten ++ [(⟨7, 0, 0, (⟨#[]⟩ : ByteArray)⟩ : Nd)]) : Sl)])).flatten ++ [(⟨9, 0, 0, (⟨#[]⟩ : ByteArray)⟩ : Nd)])), dRow 4 j0 ((urA ((lsts ([((i1, b0, (lsts ([((sA, sc, s) : Sl), ((aA, ac, a) : Sl), ((bA, bc, b) : Sl)])).flatten ++ [(⟨7, 0, 0, (⟨#[]⟩ : ByteArray)⟩ : Nd)]) : Sl)])).flatten ++ [(⟨9, 0, 0, (⟨#[]⟩ : ByteArray)⟩ : Nd)])).length) f0 (encNs (urA ((lsts ([((i1, b0, (lsts ([((sA, sc, s) : Sl), ((aA, ac, a) : Sl), ((bA, bc, b) : Sl)])).flatten ++ [(⟨7, 0, 0, (⟨#[]⟩ : ByteArray)⟩ : Nd)]) : Sl)])).flatten ++ [(⟨9, 0, 0, (⟨#[]⟩ : ByteArray)⟩ : Nd)])))]) 4 ?_ ?_
   ·
    rcases Decidable.em (((chk f)) = 0) with f0 | f0
    ·
     have hcf := f0
     have hmf := meas_chk hcf
     have j0 := v1.setb (d := 107) (b := false) rfl (by rw [(decide_eq_true f0)]; rfl)
     refine r_move (st_listV_w (wt j0)) j0 rfl rfl rfl (by decide) (fun s1 u1 => ?_)
     have s1 := y1.nf
     refine k_call (xs := [.tmp 108]) (st_list_w (wt u1)) u1 rfl rfl rfl (by decide) ok25 (rdeep_calls _ _ s1.il _ _ _ (s1.g 4) (hl := (by omega)) (hsm := (by assumption)) (hb := (by assumption))) ?_
     rintro u1 j0 ⟨rfl, m1⟩
     have j0 := s1.below m1.below
     refine ⟨_, rfl, fun m1 s1 => ?_⟩
     refine r_gtr (st_listV_w (wt s1)) s1 rfl rfl rfl rfl (by decide) (fun m1 u1 => ?_)
     refine r_pick_f sv u1 rfl rfl rfl rfl (by decide) (fun m1 s1 => ?_)
     refine wpList_nil ?_
     exact x_then_n ⟨(s1.sub (rc rfl (rc rfl (rc rfl (rc (rb rfl (by first | rfl | (simp only [decide_eq_true f0, if_pos f0, bl]; done) | (simp [f0]; done) | (simp [f0]; omega))) (rc rfl rnl)))))), j0⟩
    ·
     have s1 := v1.setb (d := 107) (b := true) rfl (by rw [(decide_eq_false f0)]; rfl)
     refine sps s1 (wff s1) (fun v1 j0 => ?_)
     refine sps j0 (wff j0) (fun v1 s1 => ?_)
     refine sps s1 (wff s1) (fun v1 j0 => ?_)
     refine r_pick_t sv j0 rfl rfl rfl rfl (by decide) (fun v1 s1 => ?_)
     refine wpList_nil ?_
     exact x_then_n ⟨(s1.sub (rc rfl (rc rfl (rc rfl (rc (rb rfl (by first | rfl | (simp only [decide_eq_false f0, if_neg f0, bl]; done) | (simp [f0]; done) | (simp [f0]; omega))) (rc rfl rnl)))))), y1⟩
   rintro s1 f0 ⟨y1, v1⟩
   refine wpList_nil (x_then_n (d2 _ _ ?_))
   rcases Bool.eq_false_or_eq_true (((!(decide (((chk f)) = 0))) || (decide (50 < ((dpL f : Nat) : Int))))) with d2 | d2
   ·
    have f0 := d2
    try simp only [Bool.or_eq_true, Bool.and_eq_true, Bool.not_eq_true', Bool.not_eq_false', decide_eq_true_eq, decide_eq_false_iff_not, Bool.or_eq_false_iff, Bool.and_eq_false_iff] at f0
    have f0 := y1.setb (d := 111) (b := true) rfl d2
    refine wp_cond_true (f0.ev rfl) ?_
    refine wsc (fun s1 j0 => ?_)
    refine asg f0 (fun s1 m1 => ?_)
    refine wpList_nil (x_then_n (j0 _ _ ?_))
    refine wp_ret ?_
    refine x_then_r ?_
    refine e_ret1 m1 rfl rfl rfl ?_
    refine ⟨?_, v1.fr⟩
    exact congrArg Ending.returned (ret_b (by first | rfl | omega | assumption | exact decide_eq_true (by assumption) | (have i0 := d0; (try simp at i0); have d1 := h0; (try simp at d1); have z0 := n0; (try simp at z0); have c1 := m0; (try simp at c1); have p0 := k0; (try simp at p0); have b1 := o0; (try simp at b1); have f1 := v0; (try simp at f1); have h1 := n1; (try simp at h1); have m1 := x1; (try simp at m1); have j0 := b2; (try simp at j0); have s1 := j1; (try simp at s1); have f0 := z1; (try simp at f0); have u1 := c2; (try simp at u1); have k1 := d2; (try simp at k1);  omega) | (simp [d0, h0, n0, m0, k0, o0, v0, n1, x1, b2, j1, z1, c2, d2]; done) | (simp [] at *; done) | (simp [d0, h0, n0, m0, k0, o0, v0, n1, x1, b2, j1, z1, c2, d2] <;> omega) | (rw [Bool.eq_iff_iff]; simp [d0, h0, n0, m0, k0, o0, v0, n1, x1, b2, j1, z1, c2, d2] <;> omega) | (rw [Bool.eq_iff_iff]; simp [d0, h0, n0, m0, k0, o0, v0, n1, x1, b2, j1, z1, c2, d2] at * <;> omega)))
   ·
    have p1 := or_fl d2
    have o1 := not_f p1
    have p1 := of_decide_eq_true o1
    have hcf := p1
    have hmf := meas_chk hcf
    have o1 := or_fr d2
    have c0 := of_decide_eq_false o1
    obtain ⟨ha1, ha2, ha3, ha4, ha27⟩ := app_ok hus hua ⟨hcf, by omega⟩ hls hla hlf
    have hal : (urA (ofL 5 [ofL 4 [s, f], a])).length ≤ 1000000 := by rw [ha4]; exact Nat.le_trans (suA_len _ _ _) (by decide)
    have o1 := y1.setb (d := 111) (b := false) rfl d2
    refine wp_cond_false (o1.ev rfl) ?_
    refine wp_skip ?_
    refine x_then_n (t1 _ _ ?_)
    refine wsc (fun t1 y1 => ?_)
    refine mv o1 (fun t1 b0 => ?_)
    refine mv b0 (fun t1 o1 => ?_)
    have t1 := v1.data (dAll [((sA, sc, s) : Sl), ((fA, fc, f) : Sl)]) (all_cons (v1.get (i := 1) rfl) (all_cons (v1.get (i := 4) rfl) all_nil))
    refine mbs [(0, .tmp 112), (1, .tmp 113)] [.slice sA s.length sc, .slice fA f.length fc] sv o1 t1 Tryd.underlying42 zi22 (fun v1 b0 i1 t0 y0 => ?_)
    refine asg t0 (fun b0 v1 => ?_)
    refine wpList_nil (x_then_n (y1 _ _ ?_))
    refine wsc (fun y1 b0 => ?_)
    refine m_build (ps := [(0, .const (.int .i64 4))]) (v := .agg #[.int .i64 4, .int .i64 0, .int .i64 0, .string (⟨#[]⟩ : ByteArray)]) sv v1 rfl rfl rfl (fun _ => by kernel_rfl) (by decide) (fun y1 t0 => ?_)
    refine mv t0 (fun y1 v1 => ?_)
    have y1 := y0.nf
    have y0 := own_cap (y1.res (i := 0) rfl)
    obtain ⟨t0, t1⟩ := y1.row_data (i := 0) rfl (fun _ h => h)
    have y1 := t0.data (dRow 1 (some ⟨i1, 0, none⟩) 2 2 (encSs ([((sA, sc, s) : Sl), ((fA, fc, f) : Sl)]))) ⟨y0, t1⟩
    refine k_call (xs := [.tmp 115, .tmp 116]) se v1 rfl rfl rfl (by decide) ok26 (rof_calls _ _ y1.il (⟨4, 0, 0, (⟨#[]⟩ : ByteArray)⟩ : Nd) _ _ ([((sA, sc, s) : Sl), ((fA, fc, f) : Sl)]) (y1.g 15) (y1.g 14) (hl := (by simp)) (hb := (by simp [lsts]; omega))) ?_
    rintro v1 t1 ⟨t0, y0, rfl, i1, o1⟩
    have t1 := y1.below i1.below
    have i1 := y1.dN t1 o1
    refine ⟨_, rfl, fun t1 o1 => ?_⟩
    refine mv o1 (fun t1 y1 => ?_)
    have t1 := i1.data (dAll [((t0, y0, (lsts ([((sA, sc, s) : Sl), ((fA, fc, f) : Sl)])).flatten ++ [(⟨4, 0, 0, (⟨#[]⟩ : ByteArray)⟩ : Nd)]) : Sl), ((aA, ac, a) : Sl)]) (all_cons (i1.get (i := 16) rfl) (all_cons (i1.get (i := 2) rfl) all_nil))
    refine mbs [(0, .tmp 117), (1, .tmp 118)] [.slice t0 (((lsts ([((sA, sc, s) : Sl), ((fA, fc, f) : Sl)])).flatten ++ [(⟨4, 0, 0, (⟨#[]⟩ : ByteArray)⟩ : Nd)]).length) y0, .slice aA a.length ac] sv y1 t1 Tryd.underlying42 zi22 (fun i1 o1 v1 f2 h2 => ?_)
    refine asg f2 (fun o1 i1 => ?_)
    refine wpList_nil (x_then_n (b0 _ _ ?_))
    refine wsc (fun b0 o1 => ?_)
    refine m_build (ps := [(0, .const (.int .i64 5))]) (v := .agg #[.int .i64 5, .int .i64 0, .int .i64 0, .string (⟨#[]⟩ : ByteArray)]) sv i1 rfl rfl rfl (fun _ => by kernel_rfl) (by decide) (fun b0 f2 => ?_)
    refine mv f2 (fun b0 i1 => ?_)
    have b0 := h2.nf
    have h2 := own_cap (b0.res (i := 0) rfl)
    obtain ⟨f2, t1⟩ := b0.row_data (i := 0) rfl (fun _ h => h)
    have b0 := f2.data (dRow 1 (some ⟨v1, 0, none⟩) 2 2 (encSs ([((t0, y0, (lsts ([((sA, sc, s) : Sl), ((fA, fc, f) : Sl)])).flatten ++ [(⟨4, 0, 0, (⟨#[]⟩ : ByteArray)⟩ : Nd)]) : Sl), ((aA, ac, a) : Sl)]))) ⟨h2, t1⟩
    refine k_call (xs := [.tmp 121, .tmp 122]) se i1 rfl rfl rfl (by decide) ok26 (rof_calls _ _ b0.il (⟨5, 0, 0, (⟨#[]⟩ : ByteArray)⟩ : Nd) _ _ ([((t0, y0, (lsts ([((sA, sc, s) : Sl), ((fA, fc, f) : Sl)])).flatten ++ [(⟨4, 0, 0, (⟨#[]⟩ : ByteArray)⟩ : Nd)]) : Sl), ((aA, ac, a) : Sl)]) (b0.g 18) (b0.g 17) (hl := (by simp)) (hb := (by simp [lsts]; omega))) ?_
    rintro i1 t1 ⟨f2, h2, rfl, v1, y1⟩
    have h2 := b0.below v1.below
    have v1 := b0.dN h2 y1
    refine ⟨_, rfl, fun h2 y1 => ?_⟩
    have h2 := v1.nf
    refine k_call (xs := [.tmp 123, .const (.slice none 0 0)]) se y1 rfl rfl rfl (by decide) ok13 (urule0_calls _ _ h2.il _ _ ((lsts ([((t0, y0, (lsts ([((sA, sc, s) : Sl), ((fA, fc, f) : Sl)])).flatten ++ [(⟨4, 0, 0, (⟨#[]⟩ : ByteArray)⟩ : Nd)]) : Sl), ((aA, ac, a) : Sl)])).flatten ++ [(⟨5, 0, 0, (⟨#[]⟩ : ByteArray)⟩ : Nd)]) (h2.g 0) (h2.g 19) (hsm := (by first | exact pr_sml hss hsa hsb _ | exact ap_sml hss hsa hsf)) (hl := (by first | exact Nat.le_trans x0 (by decide) | exact Nat.le_trans hg2 (by decide) | exact Nat.le_trans ha2 (by decide))) (h27 := (by first | exact u0 | exact hg27 | exact ha27))) ?_
    rintro y1 u0 ⟨x0, v1, rfl, b0, f2⟩
    have v1 := h2.below b0.below
    have b0 := h2.dN v1 f2
    refine ⟨_, rfl, fun v1 f2 => ?_⟩
    refine mv f2 (fun v1 h2 => ?_)
    refine r_extract sv h2 rfl rfl rfl rfl (by decide) (fun v1 f2 => ?_)
    refine r_extract sv f2 rfl rfl rfl rfl (by decide) (fun v1 h2 => ?_)
    refine asg h2 (fun v1 f2 => ?_)
    refine asg f2 (fun v1 h2 => ?_)
    refine wpList_nil (x_then_n (o1 _ _ ?_))
    refine wsc (fun o1 v1 => ?_)
    refine mv h2 (fun o1 f2 => ?_)
    refine mv f2 (fun o1 h2 => ?_)
    have o1 := b0.nf
    refine k_call (xs := [.tmp 128, .const (.int .i64 0), .tmp 129]) se h2 rfl rfl rfl (by decide) ok27 (rSubst_calls _ _ o1.il _ _ _ 0 _ _ _ (o1.g 4) (o1.g 2) (hl := (by omega)) (hsm := hsf) (hlu := (by omega)) (hsu := hsa)) ?_
    rintro h2 b0 ⟨f2, x0, rfl, u0, y1⟩
    have x0 := o1.below u0.below
    have u0 := o1.dN x0 y1
    refine ⟨_, rfl, fun x0 y1 => ?_⟩
    refine mv y1 (fun x0 o1 => ?_)
    refine r_extract sv o1 rfl rfl rfl rfl (by decide) (fun x0 y1 => ?_)
    refine r_extract sv y1 rfl rfl rfl rfl (by decide) (fun x0 o1 => ?_)
    refine asg o1 (fun x0 y1 => ?_)
    refine asg y1 (fun x0 o1 => ?_)
    refine wpList_nil (x_then_n (v1 _ _ ?_))
    refine wsc (fun v1 x0 => ?_)
    refine mv o1 (fun v1 y1 => ?_)
    refine mv y1 (fun v1 o1 => ?_)
    have v1 := u0.nf
    refine k_call (xs := [.tmp 133, .tmp 134]) se o1 rfl rfl rfl (by decide) ok15 (kin14_calls _ _ v1.il ((urE ((lsts ([((t0, y0, (lsts ([((sA, sc, s) : Sl), ((fA, fc, f) : Sl)])).flatten ++ [(⟨4, 0, 0, (⟨#[]⟩ : ByteArray)⟩ : Nd)]) : Sl), ((aA, ac, a) : Sl)])).flatten ++ [(⟨5, 0, 0, (⟨#[]⟩ : ByteArray)⟩ : Nd)]))) ((suE f 0 a))) ?_
    rintro o1 u0 ⟨rfl, y1⟩
    have u0 := v1.below y1.below
    refine ⟨_, rfl, fun y1 v1 => ?_⟩
    refine mv v1 (fun y1 o1 => ?_)
    have y1 : (kinB ((urE ((lsts ([((t0, y0, (lsts ([((sA, sc, s) : Sl), ((fA, fc, f) : Sl)])).flatten ++ [(⟨4, 0, 0, (⟨#[]⟩ : ByteArray)⟩ : Nd)]) : Sl), ((aA, ac, a) : Sl)])).flatten ++ [(⟨5, 0, 0, (⟨#[]⟩ : ByteArray)⟩ : Nd)]))) ((suE f 0 a))) = true := kin_of ha3
    have v1 := o1.setb (d := 136) (b := true) rfl y1
    refine r_move (st_listV_w (wt v1)) v1 rfl rfl rfl (by decide) (fun o1 f2 => ?_)
    refine r_move (st_listV_w (wt f2)) f2 rfl rfl rfl (by decide) (fun o1 v1 => ?_)
    have o1 := u0.nf
    refine k_call (xs := [.tmp 137, .tmp 138]) (st_list_w (wt v1)) v1 rfl rfl rfl (by decide) ok16 (rsame_calls _ _ o1.il _ _ (urA ((lsts ([((t0, y0, (lsts ([((sA, sc, s) : Sl), ((fA, fc, f) : Sl)])).flatten ++ [(⟨4, 0, 0, (⟨#[]⟩ : ByteArray)⟩ : Nd)]) : Sl), ((aA, ac, a) : Sl)])).flatten ++ [(⟨5, 0, 0, (⟨#[]⟩ : ByteArray)⟩ : Nd)])) _ _ (suA f 0 a) (o1.g 20) (o1.g 21) (hl := (by first | exact hfl | exact hgl | exact hal))) ?_
    rintro v1 u0 ⟨rfl, f2⟩
    have u0 := o1.below f2.below
    refine ⟨_, rfl, fun f2 o1 => ?_⟩
    refine r_pick_t sv o1 rfl rfl rfl rfl (by decide) (fun f2 v1 => ?_)
    refine asg v1 (fun f2 o1 => ?_)
    refine wpList_nil (x_then_n (x0 _ _ ?_))
    refine wp_ret ?_
    refine e_ret1 o1 rfl rfl rfl ?_
    have o1 : (decide ((urA ((lsts ([((t0, y0, (lsts ([((sA, sc, s) : Sl), ((fA, fc, f) : Sl)])).flatten ++ [(⟨4, 0, 0, (⟨#[]⟩ : ByteArray)⟩ : Nd)]) : Sl), ((aA, ac, a) : Sl)])).flatten ++ [(⟨5, 0, 0, (⟨#[]⟩ : ByteArray)⟩ : Nd)])) = (suA f 0 a))) = true := decide_eq_true ha4
    refine ⟨?_, u0.fr⟩
    exact congrArg Ending.returned (ret_b (by first | rfl | omega | assumption | exact decide_eq_true (by assumption) | (have i0 := d0; (try simp at i0); have d1 := h0; (try simp at d1); have z0 := n0; (try simp at z0); have c1 := m0; (try simp at c1); have p0 := k0; (try simp at p0); have b1 := o0; (try simp at b1); have f1 := v0; (try simp at f1); have h1 := n1; (try simp at h1); have m1 := x1; (try simp at m1); have j0 := b2; (try simp at j0); have s1 := j1; (try simp at s1); have f0 := z1; (try simp at f0); have u1 := c2; (try simp at u1); have k1 := d2; (try simp at k1); have u0 := p1; (try simp at u0); have y0 := c0; (try simp at y0); have t0 := y1; (try simp at t0); have x0 := o1; (try simp at x0);  omega) | (simp [d0, h0, n0, m0, k0, o0, v0, n1, x1, b2, j1, z1, c2, d2, p1, c0, y1, o1]; done) | (simp [] at *; done) | (simp [d0, h0, n0, m0, k0, o0, v0, n1, x1, b2, j1, z1, c2, d2, p1, c0, y1, o1] <;> omega) | (rw [Bool.eq_iff_iff]; simp [d0, h0, n0, m0, k0, o0, v0, n1, x1, b2, j1, z1, c2, d2, p1, c0, y1, o1] <;> omega) | (rw [Bool.eq_iff_iff]; simp [d0, h0, n0, m0, k0, o0, v0, n1, x1, b2, j1, z1, c2, d2, p1, c0, y1, o1] at * <;> omega)))
end Go.Proofs.YtcfponnkfhkbdaaDoor
/- From a row's reading to cells, and back: slices of nodes, the table of shapes, arguments that nobody changed. -/
namespace Go.Proofs.YtcfponnkfhkbdaaDoor
set_option linter.unusedSimpArgs false
set_option linter.unusedVariables false
open Go Go.RowKit Go.WideShapes Go.ChangeShapes
theorem kids : Kids Tryd.prog (· < Tryd.prog.types.size) := kids_rows (by kernel_rfl) (by kernel_rfl)
theorem slicesFull : ∀ t e, t < Tryd.prog.types.size → Tryd.prog.underlying t = some (.slice e) → 0 < Tryd.prog.cellsOf e := slices_full_of Tryd.prog (by kernel_rfl)
theorem ownKnobNone : ownKnob Tryd.prog.godebug = none := by kernel_rfl
section
variable {H : Type} {enc : TypeId × Value → H} {P : Program} {w W W' : World}
theorem trodAll_carry {base : Nat} {sp : Nat → Bool} {held : Bool} : ∀ {ts : List TypeId} {vs : List Value} {ds : List (DataW H)} {ps : List MemPlace},
  DataW.TrodAll enc P W base sp held ts vs ds ps → (∀ p ∈ ps, W.sameAt W' p) → DataW.TrodAll enc P W' base sp held ts vs ds ps
 | [], [], [], _, h, _ => h
 | _ :: _, _ :: _, _ :: _, _, ⟨p, q, ⟨n, h1⟩, h2, e⟩, hs =>
  ⟨p, q, ⟨n, DataW.trod_carry n _ _ _ h1 (fun x hx => hs x (by rw [e]; exact List.mem_append_left _ hx))⟩,
   trodAll_carry h2 (fun x hx => hs x (by rw [e]; exact List.mem_append_right _ hx)), e⟩
 | [], [], _ :: _, _, h, _ => h.elim
 | [], _ :: _, _, _, h, _ => h.elim
 | _ :: _, [], _, _, h, _ => h.elim
 | _ :: _, _ :: _, [], _, h, _ => h.elim
theorem sameAt_below (hb : Below W.heap.size W W') {p : MemPlace} (hp : p.block < W.heap.size) : W.sameAt W' p := by
 cases p with
 | cell b off => exact hb.cell (p := ⟨b, off, none⟩) hp
 | map b => exact hb.block b hp
theorem post_true {f : Func} {s : ChangeSpec} {apart fresh handsOn again : Bool} {args : Array Value} {ds : List (DataW H)} {before : List MemPlace}
  (K : Kids P (· < P.types.size)) (hz : ∀ t e, t < P.types.size → P.underlying t = some (.slice e) → 0 < P.cellsOf e) (hts : ∀ t ∈ f.params.toList, t < P.types.size)
  (hvars : s.vars = []) (hW : DataW.Whole enc P f.params.toList s.vars apart W args.toList ds [] before)
  {tb : TypeId} (hrt : f.resultTypes = #[tb]) (htb : P.underlying tb = some .bool)
  (hfn : (s.fn H ds).results = [.lit (.bool true)] ∧ (s.fn H ds).args = ds ∧ (s.fn H ds).vars = []) (hb : Below W.heap.size W W') :
  s.post enc P f apart fresh handsOn again W args (.bool true) W' := by
 have hlt : ∀ p ∈ before, p.block < W.heap.size := fun p hp => hW.lt p hp
 have hold : ∀ p ∈ before, (fun b => decide (b < W.heap.size)) p.block = true := fun p hp => by simpa using hlt p hp
 have hW0 := hW
 obtain ⟨p, q, hA, hV, he, hzf, hn⟩ := hW0
 rw [hvars] at hV
 have hq : q = [] := hV
 subst hq
 rw [List.append_nil] at he
 subst he
 have hA' := trodAll_carry (W' := W') hA (fun x hx => sameAt_below hb (hlt x hx))
 have hres : ∀ (b : Nat) (sp : Nat → Bool) (hd : Bool), DataW.TrodAll enc P W' b sp hd f.resultTypes.toList ((Value.bool true).resultList f.resultTypes.size) (s.fn H ds).results [] := fun b sp hd => by
  rw [hfn.1, hrt]
  exact trodAll_mk1 (shut_bool htb true)
 refine ⟨ds, [], before, [], before, [], hW, ?_, ?_, ?_, World.keptBut_mono (fun p hp => ⟨hp, .inr (.inl hp)⟩) (hb.frame (· ∈ before)), fun _ => ⟨?_, ?_⟩⟩
 · rw [List.append_nil]; exact hres _ _ _
 ·
  rw [List.append_nil, hfn.2.1]
  exact DataW.TrodAll.respare K hz hts hA' hold
 ·
  rw [List.append_nil, hfn.2.2, hvars]
  exact rfl
 · exact ok_one hrt rfl (okWide_bool_mk htb true)
 ·
  refine ⟨[.lit (.bool true)] ++ ds, [], [] ++ before, ⟨[] ++ before, [], ?_, ?_, by simp, ?_, ?_⟩, ?_⟩
  ·
   rw [hrt]
   exact trodAll_append hA' (trodAll_mk1 (shut_bool htb true))
  ·
   rw [hvars]
   exact rfl
  ·
   intro b off hp
   have hin : MemPlace.cell b off ∈ before := by simpa using hp
   rw [hb.frozen (hlt _ hin)]
   exact hzf b off hin
  ·
   intro ha
   simpa using hn ha
  ·
   intro x hx _
   simpa using hx
end
section
variable {H : Type} {enc : TypeId × Value → H} {w : World}
theorem lt_of_cell {p : Addr} {v : Value} (h : w.cell? p = some v) : p.block < w.heap.size := by
 unfold World.cell? at h
 cases ho : w.heap[p.block]? with
 | none => simp [ho] at h
 | some o => exact (Array.getElem?_eq_some_iff.1 ho).1
set_option maxRecDepth 100000 in
theorem node_cells {base : Nat} {sp : Nat → Bool} {held : Bool} {n : Nat} {cs : List Value} {x : DataW H × List MemPlace} (h : DataW.trod enc Tryd.prog w base sp held n 39 cs = some x) : ∃ nd : Nd, cs = encN nd := by
 have hu : Tryd.prog.underlying 39 = some (.struct (Tryd.prog.fieldsOf 39)) := by kernel_rfl
 have hf : (Tryd.prog.fieldsOf 39).toList.map (fun f => (f.type, f.offset)) = [(3, 0), (3, 1), (3, 2), (9, 3)] := by kernel_rfl
 have hci : Tryd.prog.cellsOf 3 = 1 := by kernel_rfl
 have hcs : Tryd.prog.cellsOf 9 = 1 := by kernel_rfl
 have hcn : Tryd.prog.cellsOf 39 = 4 := by kernel_rfl
 obtain ⟨xs, m, _, _, hl, _, hg⟩ := DataW.trod_struct hu h
 rw [hcn] at hl
 have fld : ∀ (j : Nat) (t : TypeId) (off : Nat), ((Tryd.prog.fieldsOf 39).toList.map (fun f => (f.type, f.offset)))[j]? = some (t, off) → ∃ y, DataW.trod enc Tryd.prog w base sp held m t ((cs.drop off).take (Tryd.prog.cellsOf t)) = some y := by
  intro j t off hj
  rw [List.getElem?_map] at hj
  cases hfj : (Tryd.prog.fieldsOf 39).toList[j]? with
  | none => rw [hfj] at hj; cases hj
  | some f =>
   rw [hfj] at hj
   simp only [Option.map_some, Option.some.injEq, Prod.mk.injEq] at hj
   obtain ⟨rfl, rfl⟩ := hj
   have h1 := hg j f (by rw [← Array.getElem?_toList]; exact hfj)
   have hjl : j < (Tryd.prog.fieldsOf 39).size := by
    have := (List.getElem?_eq_some_iff.1 hfj).1
    simpa using this
   have hxl : j < xs.length := by omega
   exact ⟨xs[j], by rw [h1]; exact List.getElem?_eq_getElem hxl⟩
 rw [hf] at fld
 match cs, hl with
 | [c0, c1, c2, c3], _ =>
  obtain ⟨y0, h0⟩ := fld 0 _ _ rfl
  obtain ⟨y1, h1⟩ := fld 1 _ _ rfl
  obtain ⟨y2, h2⟩ := fld 2 _ _ rfl
  obtain ⟨y3, h3⟩ := fld 3 _ _ rfl
  rw [hci] at h0 h1 h2
  rw [hcs] at h3
  obtain ⟨a, ha, _⟩ := DataW.trod_int Tryd.underlying3 h0
  obtain ⟨b, hb, _⟩ := DataW.trod_int Tryd.underlying3 h1
  obtain ⟨c, hc, _⟩ := DataW.trod_int Tryd.underlying3 h2
  obtain ⟨s, hs, _⟩ := DataW.trod_string Tryd.underlying9 h3
  simp at ha hb hc hs
  exact ⟨⟨a, b, c, s⟩, by simp [encN, ha, hb, hc, hs]⟩
set_option maxRecDepth 100000 in
theorem open_nodes {r : Reach} {base b0 : Nat} {sp : Nat → Bool} {held : Bool} {v : Value} {d : DataW H} {ps : List MemPlace} (hval : Value.okWide Tryd.prog w r b0 22 v) (hd : DataW.Trod enc Tryd.prog w base sp held 22 v d ps) :
  ∃ (A : Option Addr) (c : Nat) (t : List Nd), v = .slice A t.length c ∧ (dRow 4 A t.length c (encNs t)).φ w (fun k => k < w.heap.size) := by
 obtain ⟨A, len, cap, rfl⟩ := okWide_slice Tryd.underlying22 hval
 obtain ⟨fuel, hf⟩ := hd
 have hcn : Tryd.prog.cellsOf 39 = 4 := by kernel_rfl
 rcases Deep.open_slice Tryd.underlying22 hf with ⟨hcs, _⟩ | ⟨a, len', cap', m, n, D, Pl, hcs, _, hl, _, hm, _, hi⟩
 ·
  simp [Value.cells] at hcs
  obtain ⟨rfl, rfl, rfl⟩ := hcs
  exact ⟨none, 0, [], rfl, Nat.le_refl _, rfl, fun h => absurd h (by simp)⟩
 ·
  simp [Value.cells] at hcs
  obtain ⟨rfl, rfl, rfl⟩ := hcs
  have hmm : len ≤ m := by rw [hm]; split <;> omega
  have hnd : ∀ i, ∃ nd : Nd, i < len → w.cells? base (a.add (i * 4)) 4 = some (encN nd) := by
   intro i
   by_cases hil : i < len
   ·
    obtain ⟨cs', hc, ht⟩ := hi i (by omega)
    obtain ⟨nd, rfl⟩ := node_cells ht
    rw [hcn] at hc
    exact ⟨nd, fun _ => hc⟩
   · exact ⟨ndz, fun h => absurd h hil⟩
  obtain ⟨f, hf'⟩ := Classical.axiomOfChoice hnd
  refine ⟨some a, cap, (List.range len).map f, by simp, ?_, ?_, fun hpos => ⟨a, rfl, ?_, ?_⟩⟩
  · simpa using hl
  · exact encNs_length _
  ·
   have hp0 : 0 < len := by simpa using hpos
   obtain ⟨_, _, hat⟩ := World.cells?_some (hf' 0 hp0)
   have h0 := hat 0 (by omega)
   rw [add_of_add] at h0
   have := lt_of_cell (w := w) (p := a.add (0 * 4 + 0)) (by rw [h0]; rfl)
   rwa [block_of_add] at this
  ·
   intro j u hu
   have hjl : j < len * 4 := by
    have h1 := (List.getElem?_eq_some_iff.1 hu).1
    rw [encNs_length] at h1
    simpa using h1
   have hi4 : j / 4 < len := by omega
   obtain ⟨_, hcl, hat⟩ := World.cells?_some (hf' (j / 4) hi4)
   have h1 := hat (j % 4) (by omega)
   rw [add_of_add, show j / 4 * 4 + j % 4 = j by omega] at h1
   rw [h1, ← hu]
   have h2 := enc_at encN_len ((List.range len).map f) (j / 4) (by simpa using hi4) ndz
   have h3 : (((List.range len).map f).getD (j / 4) ndz) = f (j / 4) := by simp [hi4]
   rw [h3] at h2
   have h4 : (encNs ((List.range len).map f))[j]? = (((((List.range len).map f).flatMap encN).drop (j / 4 * 4)).take 4)[j % 4]? := by
    rw [List.getElem?_take_of_lt (by omega), List.getElem?_drop, show j / 4 * 4 + j % 4 = j by omega]
    rfl
   rw [h4, h2]
end
end Go.Proofs.YtcfponnkfhkbdaaDoor
/- The table of shapes: from the row's list to cells; a world that holds it. -/
namespace Go.Proofs.YtcfponnkfhkbdaaDoor
set_option linter.unusedSimpArgs false
set_option linter.unusedVariables false
open Go Go.RowKit Go.WideShapes Go.ChangeShapes
set_option maxRecDepth 100000
def shapeD (k : Nat) : DataW Unit := .agg [(match (shp k).b with | [] => .nil | b => .slice (lits .i64 b) []), .lit (.bool (shp k).n), .lit (.bool (shp k).m), .lit (.bool (shp k).s)]
theorem laid_eq : (Rows.laid_cornice_term_shapes : DataW Unit) = .agg ((List.range 30).map shapeD) := by kernel_rfl
theorem encIs_map (l : List Int) : encIs l = l.map (fun n => Value.int .i64 n) := by
 induction l with
 | nil => rfl
 | cons x t ih => rw [List.map_cons, ← ih]; rfl
theorem shape_cells {w : World} {base : Nat} {sp : Nat → Bool} {held : Bool} {n : Nat} {cs : List Value} {k : Nat} {p : List MemPlace}
  (h : DataW.trod (fun _ => ()) Tryd.prog w base sp held n 113 cs = some (shapeD k, p)) :
  ∃ (A : Option Addr) (cap : Nat), cs = [.slice A (shp k).b.length cap, .bool (shp k).n, .bool (shp k).m, .bool (shp k).s] ∧ (shp k).b.length ≤ cap ∧ RowI w (fun k => k < w.heap.size) 1 A (shp k).b.length (encIs (shp k).b) := by
 have hu : Tryd.prog.underlying 113 = some (.struct (Tryd.prog.fieldsOf 113)) := by kernel_rfl
 have hf : (Tryd.prog.fieldsOf 113).toList.map (fun f => (f.type, f.offset)) = [(79, 0), (4, 1), (4, 2), (4, 3)] := by kernel_rfl
 have hci : Tryd.prog.cellsOf 79 = 1 := by kernel_rfl
 have hci1 : Tryd.prog.cellsOf 3 = 1 := by kernel_rfl
 have hcs : Tryd.prog.cellsOf 4 = 1 := by kernel_rfl
 have hcn : Tryd.prog.cellsOf 113 = 4 := by kernel_rfl
 obtain ⟨xs, m, _, hx, hl, hxl, hg⟩ := DataW.trod_struct hu h
 rw [hcn] at hl
 have hd : xs.map (·.1) = [(match (shp k).b with | [] => .nil | b => .slice (lits .i64 b) []), .lit (.bool (shp k).n), .lit (.bool (shp k).m), .lit (.bool (shp k).s)] := by
  have := congrArg Prod.fst hx
  simp only [shapeD] at this
  injection this with h1
  exact h1.symm
 have fld : ∀ (j : Nat) (t : TypeId) (off : Nat), ((Tryd.prog.fieldsOf 113).toList.map (fun f => (f.type, f.offset)))[j]? = some (t, off) → DataW.trod (fun _ => ()) Tryd.prog w base sp held m t ((cs.drop off).take (Tryd.prog.cellsOf t)) = xs[j]? := by
  intro j t off hj
  rw [List.getElem?_map] at hj
  cases hfj : (Tryd.prog.fieldsOf 113).toList[j]? with
  | none => rw [hfj] at hj; cases hj
  | some f =>
   rw [hfj] at hj
   simp only [Option.map_some, Option.some.injEq, Prod.mk.injEq] at hj
   obtain ⟨rfl, rfl⟩ := hj
   exact hg j f (by rw [← Array.getElem?_toList]; exact hfj)
 rw [hf] at fld
 match cs, hl, xs, hd with
 | [c0, c1, c2, c3], _, [y0, y1, y2, y3], hd =>
  simp only [List.map_cons, List.map_nil, List.cons.injEq, and_true] at hd
  obtain ⟨d0, d1, d2, d3⟩ := hd
  have h0 := fld 0 _ _ rfl
  have h1 := fld 1 _ _ rfl
  have h2 := fld 2 _ _ rfl
  have h3 := fld 3 _ _ rfl
  rw [hci] at h0
  rw [hcs] at h1 h2 h3
  obtain ⟨b1, e1, f1⟩ := DataW.trod_bool Tryd.underlying4 h1
  obtain ⟨b2, e2, f2⟩ := DataW.trod_bool Tryd.underlying4 h2
  obtain ⟨b3, e3, f3⟩ := DataW.trod_bool Tryd.underlying4 h3
  simp at e1 e2 e3
  simp [f1] at d1
  simp [f2] at d2
  simp [f3] at d3
  subst e1 e2 e3 d1 d2 d3
  rcases open_ints Tryd.underlying79 Tryd.underlying3 hci1 h0 with ⟨hcs0, hy⟩ | ⟨a, len, cap, zs, hcs0, _, hle, _, hzl, hy, hcell, _⟩
  ·
   simp at hcs0
   subst hcs0
   rw [hy] at d0
   cases hb : (shp k).b with
   | nil => exact ⟨none, 0, by simp, by simp, by simp [encIs], fun h => absurd h (by simp)⟩
   | cons z zs => rw [hb] at d0; simp at d0
  ·
   simp at hcs0
   subst hcs0
   rw [hy] at d0
   cases hb : (shp k).b with
   | nil => rw [hb] at d0; simp at d0
   | cons z l =>
    rw [hb] at d0
    simp only [DataW.slice.injEq] at d0
    obtain ⟨d4, d5⟩ := d0
    have hinj : ∀ a b : List Int, (lits .i64 a : List (DataW Unit)) = lits .i64 b → a = b := by
     intro a
     induction a with
     | nil => intro b hb; cases b with
      | nil => rfl
      | cons _ _ => simp [lits] at hb
     | cons x a ih => intro b hb; cases b with
      | nil => simp [lits] at hb
      | cons y b =>
       simp only [lits, List.map_cons, List.cons.injEq, DataW.lit.injEq, Lit.int.injEq, true_and] at hb
       rw [hb.1, ih b hb.2]
    have d6 := hinj _ _ d4
    have hll : len = (z :: l).length := by
     have := congrArg List.length d6
     rw [List.length_take] at this
     have hz : len ≤ zs.length := by rw [hzl]; split <;> omega
     omega
    subst hll
    refine ⟨some a, cap, rfl, hle, by simp [encIs_length], fun _ => ⟨a, rfl, ?_, ?_⟩⟩
    ·
     have h9 := hcell 0 (by have hz2 : (z :: l).length ≤ zs.length := (by rw [hzl]; split <;> omega); rw [List.length_cons] at hz2; omega)
     have := lt_of_cell h9
     rwa [block_of_add] at this
    ·
     intro j u hu
     have hjl : j < (z :: l).length := by
      have := (List.getElem?_eq_some_iff.1 hu).1
      rw [encIs_length] at this
      simpa using this
     have hzz : (z :: l).length ≤ zs.length := by rw [hzl]; split <;> omega
     rw [hcell j (by omega)]
     have h8 : (z :: l)[j]? = zs[j]? := by rw [← d6, List.getElem?_take_of_lt hjl]
     have h7 := encIs_map (z :: l)
     rw [h7, List.getElem?_map, h8] at hu
     cases hq : zs[j]? with
     | none => rw [hq] at hu; simp at hu
     | some q =>
      rw [hq] at hu
      simp only [Option.map_some, Option.some.injEq] at hu
      rw [← hu, List.getD_eq_getElem?_getD, hq]
      rfl
theorem shapes_of_laid {W : World} (h : laidMetH Tryd.prog [("cornice/term.shapes", Rows.laid_cornice_term_shapes)] W) : Shapes W (fun k => k < W.heap.size) := by
 have h' : laidMet Tryd.prog [("cornice/term.shapes", Rows.laid_cornice_term_shapes)] W := h
 obtain ⟨ps, ⟨g, t, cs, fuel, p, q, hg, ht, hvar, hd, _, _⟩, _⟩ := h'
 have hg0 : Tryd.prog.globalNamed "cornice/term.shapes" = some 0 := by kernel_rfl
 have ht0 : (Tryd.prog.globals[0]?).map (·.type) = some 114 := by kernel_rfl
 obtain rfl : 0 = g := Option.some.inj (hg0.symm.trans hg)
 obtain rfl : 114 = t := Option.some.inj (ht0.symm.trans ht)
 have hcn : Tryd.prog.cellsOf 113 = 4 := by kernel_rfl
 have hct : Tryd.prog.cellsOf 114 = 120 := by kernel_rfl
 obtain ⟨xs, m, _, hx, hl, hxl, hi⟩ := DataW.trod_array Tryd.underlying114 hd
 rw [hct] at hl
 have hxd : xs.map (·.1) = (List.range 30).map shapeD := by
  have := congrArg Prod.fst hx
  simp only [laid_eq] at this
  injection this with h1
  exact h1.symm
 intro k hk
 have h1 := hi k hk
 rw [hcn] at h1
 have hkx : k < xs.length := by omega
 have h2 : xs[k]? = some (shapeD k, (xs[k]).2) := by
  rw [List.getElem?_eq_getElem hkx]
  have h3 : (xs.map (·.1))[k]? = some (shapeD k) := by rw [hxd]; simp [hk]
  rw [List.getElem?_map, List.getElem?_eq_getElem hkx] at h3
  simp only [Option.map_some, Option.some.injEq] at h3
  rw [← h3]
 rw [h2] at h1
 obtain ⟨A, cap, hcs, hle, hrow⟩ := shape_cells h1
 refine ⟨A, cap, ⟨hle, hrow⟩, ?_, ?_⟩
 ·
  have h4 := World.var?_cell hg hvar 0
  have h5 : cs[0]? ≠ none := by
   intro e
   rw [← Array.getElem?_toList, List.getElem?_eq_none_iff] at e
   omega
  cases h6 : cs[0]? with
  | none => exact absurd h6 h5
  | some v => rw [h6] at h4; exact lt_of_cell h4
 ·
  intro j u hu
  have hj : j < 4 := by
   have := (List.getElem?_eq_some_iff.1 hu).1
   simpa using this
  have h4 := World.var?_cell hg hvar (k * 4 + j)
  rw [← hcs, List.getElem?_take_of_lt hj, List.getElem?_drop, Array.getElem?_toList] at hu
  rw [hu] at h4
  rw [add_of_add]
  have : (⟨0, 0, none⟩ : Addr).add (k * 4 + j) = ⟨0, k * 4 + j, none⟩ := by unfold Addr.add; split <;> simp_all
  rw [this]
  exact h4
noncomputable def laidWorld (os : Os) : World :=
 { World.holding Tryd.prog os ⟨#[.cells #[.int .i64 0, .int .i64 1, .int .i64 0, .int .i64 1, .int .i64 0, .int .i64 0, .int .i64 0, .int .i64 1, .int .i64 0, .int .i64 0, .int .i64 0, .int .i64 0, .int .i64 0, .int .i64 0, .int .i64 1, .int .i64 0, .int .i64 2, .int .i64 0, .int .i64 0, .int .i64 0, .int .i64 0, .int .i64 0, .int .i64 0, .int .i64 0, .int .i64 0, .int .i64 0, .int .i64 0, .int .i64 0, .int .i64 0, .int .i64 0, .int .i64 0, .int .i64 1, .int .i64 0, .int .i64 0, .int .i64 0, .int .i64 0, .int .i64 2, .int .i64 0, .int .i64 0, .int .i64 0, .int .i64 0, .int .i64 0, .int .i64 0, .int .i64 1, .int .i64 0, .int .i64 0, .int .i64 0] 3], #[], []⟩ with heap := (World.holding Tryd.prog os ⟨#[.cells #[.int .i64 0, .int .i64 1, .int .i64 0, .int .i64 1, .int .i64 0, .int .i64 0, .int .i64 0, .int .i64 1, .int .i64 0, .int .i64 0, .int .i64 0, .int .i64 0, .int .i64 0, .int .i64 0, .int .i64 1, .int .i64 0, .int .i64 2, .int .i64 0, .int .i64 0, .int .i64 0, .int .i64 0, .int .i64 0, .int .i64 0, .int .i64 0, .int .i64 0, .int .i64 0, .int .i64 0, .int .i64 0, .int .i64 0, .int .i64 0, .int .i64 0, .int .i64 1, .int .i64 0, .int .i64 0, .int .i64 0, .int .i64 0, .int .i64 2, .int .i64 0, .int .i64 0, .int .i64 0, .int .i64 0, .int .i64 0, .int .i64 0, .int .i64 1, .int .i64 0, .int .i64 0, .int .i64 0] 3], #[], []⟩).heap.modify 0 fun
   | .cells _ t frozen => .cells #[.slice none 0 0, .bool true, .bool false, .bool false, .slice none 0 0, .bool false, .bool false, .bool true, .slice none 0 0, .bool true, .bool false, .bool false, .slice (some ⟨6, 0, none⟩) 2 2, .bool true, .bool false, .bool false, .slice (some ⟨6, 2, none⟩) 2 2, .bool false, .bool false, .bool false, .slice (some ⟨6, 4, none⟩) 2 2, .bool false, .bool false, .bool false, .slice (some ⟨6, 6, none⟩) 2 2, .bool true, .bool false, .bool false, .slice (some ⟨6, 8, none⟩) 3 3, .bool false, .bool false, .bool false, .slice (some ⟨6, 11, none⟩) 1 1, .bool false, .bool false, .bool false, .slice (some ⟨6, 12, none⟩) 1 1, .bool false, .bool false, .bool false, .slice none 0 0, .bool false, .bool false, .bool false, .slice none 0 0, .bool false, .bool false, .bool false, .slice (some ⟨6, 13, none⟩) 1 1, .bool false, .bool false, .bool false, .slice (some ⟨6, 14, none⟩) 4 4, .bool false, .bool false, .bool false, .slice none 0 0, .bool false, .bool false, .bool false, .slice (some ⟨6, 18, none⟩) 2 2, .bool false, .bool false, .bool false, .slice none 0 0, .bool false, .bool false, .bool false, .slice none 0 0, .bool false, .bool false, .bool false, .slice (some ⟨6, 20, none⟩) 3 3, .bool false, .bool false, .bool false, .slice (some ⟨6, 23, none⟩) 2 2, .bool false, .bool false, .bool false, .slice (some ⟨6, 25, none⟩) 4 4, .bool false, .bool false, .bool false, .slice (some ⟨6, 29, none⟩) 6 6, .bool false, .bool false, .bool false, .slice (some ⟨6, 35, none⟩) 5 5, .bool false, .bool false, .bool false, .slice (some ⟨6, 40, none⟩) 2 2, .bool false, .bool false, .bool false, .slice (some ⟨6, 42, none⟩) 4 4, .bool false, .bool false, .bool false, .slice none 0 0, .bool false, .bool false, .bool true, .slice none 0 0, .bool true, .bool true, .bool true, .slice none 0 0, .bool false, .bool true, .bool true, .slice (some ⟨6, 46, none⟩) 1 1, .bool false, .bool false, .bool false, .slice none 0 0, .bool false, .bool false, .bool false] t frozen
   | o => o }
end Go.Proofs.YtcfponnkfhkbdaaDoor
/- The law UnfoldPairs: it returns true, whatever its arguments are, and they read as they did; the table of shapes holds what the program's text lays. -/
namespace Go.Proofs.YtcfponnkfhkbdaaDoor.lawUnfoldPairs
open Go Go.RowKit Go.WideShapes Go.ChangeShapes Go.Proofs.YtcfponnkfhkbdaaDoor
set_option maxRecDepth 100000
set_option linter.unusedSimpArgs false
set_option linter.unusedVariables false
theorem contract (H : Type) (enc : TypeId × Value → H) (W : World) (base : Nat) (args : Array Value) (ds gs : List (DataW H)) (before : List MemPlace)
  (hval : ∀ (j : Nat) t v, Tryd.f6.params[j]? = some t → args[j]? = some v → Value.okWide Tryd.prog W .any base t v)
  (hW : DataW.Whole enc Tryd.prog Tryd.f6.params.toList Rows.unfoldPairsSpec.vars false W args.toList ds gs before) (hL : laidMetH Tryd.prog Rows.unfoldPairsRow.laid W) :
  Calls Tryd.prog 6 args W fun e W' => ∃ v, e = .returned v ∧ Rows.unfoldPairsSpec.post enc Tryd.prog Tryd.f6 false true false false W args v W' := by
 have hW' := hW
 obtain ⟨p, q, hA0, hV, rfl, hfz, hnd⟩ := hW
 have hA := hA0
 rw [Tryd.params6] at hA hval
 obtain ⟨v0, vs0, d0, ds0, p0, q0, hargs, rfl, rfl, h0, r0⟩ := trodAll_cons hA
 obtain ⟨v1, vs1, d1, ds1, p1, q1, rfl, rfl, rfl, h1, r1⟩ := trodAll_cons r0
 obtain ⟨v2, vs2, d2, ds2, p2, q2, rfl, rfl, rfl, h2, r2⟩ := trodAll_cons r1
 obtain ⟨v3, vs3, d3, ds3, p3, q3, rfl, rfl, rfl, h3, r3⟩ := trodAll_cons r2
 obtain ⟨rfl, rfl, rfl⟩ := trodAll_nil r3
 obtain rfl : args = #[v0, v1, v2, v3] := by cases args; simp_all
 obtain ⟨rfl, rfl⟩ := trodVars_none hV
 obtain ⟨A0, c0, t0, rfl, g0⟩ := open_nodes (hval 0 _ _ rfl rfl) h0
 obtain ⟨A1, c1, t1, rfl, g1⟩ := open_nodes (hval 1 _ _ rfl rfl) h1
 obtain ⟨A2, c2, t2, rfl, g2⟩ := open_nodes (hval 2 _ _ rfl rfl) h2
 obtain ⟨A3, c3, t3, rfl, g3⟩ := open_nodes (hval 3 _ _ rfl rfl) h3
 refine (unfoldPairs_calls W (fun k => k < W.heap.size) (fun _ h => h) A0 c0 t0 A1 c1 t1 A2 c2 t2 A3 c3 t3 (shapes_of_laid hL) g0 g1 g2 g3).mono fun e W' ⟨he, hf⟩ => ?_
 subst he
 exact ⟨_, rfl, post_true kids slicesFull (by rw [Tryd.params6]; decide) rfl hW' rfl Tryd.underlying4 ⟨rfl, rfl, rfl⟩ hf.below⟩
theorem laid_met (os : Os) : laidMet Tryd.prog Rows.unfoldPairsRow.laid ((laidWorld os).forCall (fun _ _ => 0) ⟨#[], #[Value.slice none 0 0, Value.slice none 0 0, Value.slice none 0 0, Value.slice none 0 0], []⟩).memory :=
 laidMet_of_run' 8 (by kernel_rfl) (by kernel_rfl)
theorem reads (os : Os) {H : Type} (enc : TypeId × Value → H) : ∃ places, DataW.whole enc Tryd.prog ((laidWorld os).forCall (fun _ _ => 0) ⟨#[], #[Value.slice none 0 0, Value.slice none 0 0, Value.slice none 0 0, Value.slice none 0 0], []⟩).memory Tryd.f6.params.toList Rows.unfoldPairsSpec.vars false #[Value.slice none 0 0, Value.slice none 0 0, Value.slice none 0 0, Value.slice none 0 0].toList 8 = some ([.nil, .nil, .nil, .nil], [], places) :=
 ⟨[], by kernel_rfl⟩
theorem lifted (os : Os) (started : os.Started) (H : Type) (enc : TypeId × Value → H) (F : Stop.Interp) :
  ReturnsInHanded {} Tryd.checked os 6 .any ((OpenSpec.ofChange Rows.unfoldPairsSpec).preRow enc Tryd.prog Tryd.f6 Rows.unfoldPairsRow.domain false Rows.unfoldPairsRow.laid) (((OpenSpec.ofChange Rows.unfoldPairsSpec).at F).post enc Tryd.prog Tryd.f6 false true false false) := by
 obtain ⟨places, hx⟩ := reads os enc
 refine returnsInHanded_of_row (C := Tryd.checked) (s := OpenSpec.ofChange Rows.unfoldPairsSpec) ownKnobNone started (by kernel_rfl) Tryd.func6
  (witness_row_atRef (enc := enc) (C := Tryd.checked) false (laidWorld os) #[Value.slice none 0 0, Value.slice none 0 0, Value.slice none 0 0, Value.slice none 0 0] rfl (by kernel_rfl) (by kernel_rfl) (by kernel_rfl)
   (OpenSpec.preRow_of_cond 8 hx (by kernel_rfl) (fun k hk => by cases hk) (by kernel_rfl) (laid_met os))) ?_
 intro W base args ds gs before hval hW _ _ _ hL _ _
 exact contract H enc W base args ds gs before hval hW hL
theorem said : Rows.UnfoldPairsSaid :=
 OpenClaim.holds_of_cond 6 Tryd.f6 rfl rfl rfl rfl rfl rfl rfl ⟨rfl, rfl, rfl, rfl, rfl⟩ rfl rfl rfl rfl rfl (by kernel_rfl) Tryd.func6 (by kernel_rfl)
  (of_decide_eq_true (by kernel_rfl)) (by unfold Func.isWrapper; first | (rw [if_pos (by decide +kernel)]; kernel_rfl) | (rw [if_neg (by decide +kernel)]; exact ⟨rfl, rfl⟩))
  (fun os started H enc _ F => by rw [OpenClaim.pre_eq_preRow]; exact lifted os started H enc F)
theorem plain (f : FuncId) (fn : Func) (hf : Tryd.pinned.checked.prog.funcNamed "cornice/cornicelaw14.UnfoldPairs" = some f) (hfn : Tryd.pinned.checked.prog.funcs[f]? = some fn) :
  false = Tryd.pinned.checked.prog.looks [] ∧ ∀ (j : Nat) t, fn.params[j]? = some t → Tryd.pinned.checked.prog.wantsStandIn t = false := by
 obtain rfl : f = 6 := Option.some.inj ((show Tryd.prog.funcNamed "cornice/cornicelaw14.UnfoldPairs" = some 6 by kernel_rfl).symm.trans hf) |>.symm
 obtain rfl : fn = Tryd.f6 := (Option.some.inj (Tryd.func6.symm.trans hfn)).symm
 refine ⟨by kernel_rfl, fun j t ht => ?_⟩
 rw [Tryd.params6] at ht
 have hm := Array.mem_of_getElem? ht
 simp only [List.mem_toArray, List.mem_cons, List.not_mem_nil, or_false] at hm
 rcases hm with rfl | rfl | rfl | rfl
 · exact (show Tryd.prog.wantsStandIn 22 = false by kernel_rfl)
 · exact (show Tryd.prog.wantsStandIn 22 = false by kernel_rfl)
 · exact (show Tryd.prog.wantsStandIn 22 = false by kernel_rfl)
 · exact (show Tryd.prog.wantsStandIn 22 = false by kernel_rfl)
theorem proved : Rows.UnfoldPairsCardSaid :=
 Claim7.holds_tied_plain_at .later [] _ _ _ _ said (fun _ h => by cases h) (by kernel_rfl) (fun _ h => by cases h) unfoldPairs_row_tie rfl ⟨rfl, rfl⟩ (by kernel_rfl) rfl plain (by kernel_rfl)
end Go.Proofs.YtcfponnkfhkbdaaDoor.lawUnfoldPairs
