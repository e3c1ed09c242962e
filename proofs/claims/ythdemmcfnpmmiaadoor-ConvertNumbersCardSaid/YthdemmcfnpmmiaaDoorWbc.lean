import Derived.Test.YthdemmcfnpmmiaaDoorWbb
import Derived.MapKept
/- Contracts of functions, one theorem each: what the call returns, and that nothing old is changed. Printed by gen.py. -/
namespace Go.Proofs.YthdemmcfnpmmiaaDoor
open Go Go.RowKit
set_option linter.unusedSimpArgs false
set_option linter.unusedVariables false
set_option maxRecDepth 100000 in
set_option maxHeartbeats 1000000 in
theorem measured_calls (w0 : World) (Z : Nat → Prop) (hZ : ∀ k, Z k → k < w0.heap.size) (tA : Option Addr) (tc : Nat) (t : List Nd) (hShp : Shapes w0 Z) (ht : (dRow 4 tA t.length tc (encNs t)).φ w0 Z) (hl : t.length ≤ 4000 := by first | assumption | omega | (simp; done) | (simp; omega)) (hsm : sml t := by first | assumption | omega | (simp; done) | (simp; omega)) :
    Calls Tryd.prog 30 [.slice tA t.length tc].toArray w0 (fun e w' => ∃ (rA0 : Option Addr) (rc0 : Nat), e = .returned (.tuple #[.slice rA0 (measL t).length rc0, .bool (measB t)]) ∧ Fr none_ w0 w' ∧ (dRow 2 rA0 ((measL t).length) rc0 (encMs (measL t))).φ w' (nxt Z w0 w')) := by
 have b0 := s0 (M := none_) hZ (zc (d := dShapes) hShp (zc ht zn))
 refine c_enter Tryd.func30 rfl Tryd.ntmps30 rfl (fun c0 d0 => ?_)
 refine wsc (fun c0 f0 => ?_)
 refine asg d0 (fun c0 h0 => ?_)
 refine asg h0 (fun c0 d0 => ?_)
 refine wpList_nil (x_then_n (f0 _ _ ?_))
 refine wsc (fun f0 c0 => ?_)
 refine asg d0 (fun f0 h0 => ?_)
 refine asg h0 (fun f0 d0 => ?_)
 refine wpList_nil (x_then_n (c0 _ _ ?_))
 refine wp_seq_k (fun c0 f0 => ?_)
 refine wsc (fun c0 h0 => ?_)
 refine mv d0 (fun c0 i0 => ?_)
 refine r_len sv i0 rfl rfl rfl rfl Tryd.underlying22 (by decide) (fun c0 d0 => ?_)
 refine mv d0 (fun c0 i0 => ?_)
 refine wpList_nil (x_then_n (h0 _ _ ?_))
 refine wp_block ?_
 have h0 := b0.nilrow 63 2
 have b0 := h0.nilrow 63 2
 refine wp_loop_ghost (fun gn ga gw => ∃ k : Nat, ∃ st : List T, ∃ Aa : Option Addr, ∃ ca : Nat, ∃ Ao : Option Addr, ∃ co : Nat, (Reg ga 73 [(1000000, .bool false), (12, .slice tA t.length tc), (13, .int .i64 ((t.length : Nat) : Int)), (14, .int .i64 ((k : Nat) : Int)), (4, .slice Aa ((allTs 0 st).length) ca), (5, .slice Ao ((meas 0 st).length) co)]) ∧ (St w0 Z none_ gw [.row Aa ((allTs 0 st).length) ca 63 2 (encMs (allTs 0 st)), .row Ao ((meas 0 st).length) co 63 2 (encMs (meas 0 st))] [dShapes, dRow 4 tA t.length tc (encNs t)]) ∧ (k ≤ t.length) ∧ (scanT [] (t.take k) = some st) ∧ (t.length - k) = gn) _ ⟨0, [], none, 0, none, 0, (i0.sub (rc rfl (rc rfl (rc rfl (rc rfl (rc rfl (rc rfl rnl))))))), b0, by omega, rfl, rfl⟩ ?_
 rintro b0 i0 h0 ⟨k, st, Aa, ca, Ao, co, c0, d0, hk, hsc, j0⟩
 have hfl := scan_flats hsc hk
 have hml := meas_length 0 st
 have hal := allTs_length 0 st
 have hsl := flats_len_ge st
 refine wsc (fun j0 h0 => ?_)
 refine r_lss sv c0 rfl rfl rfl rfl (by decide) (fun j0 i0 => ?_)
 refine wpList_nil (x_then_n (h0 _ _ ?_))
 refine wp_seq_k (fun h0 j0 => ?_)
 rcases Decidable.em (((k : Nat) : Int) < ((t.length : Nat) : Int)) with h0 | h0
 ·
  have c0 := i0.setb (d := 15) (b := true) rfl (decide_eq_true h0)
  refine wp_cond_true (c0.ev rfl) ?_
  refine wp_skip ?_
  refine x_then_n (j0 _ _ ?_)
  refine wp_seq_k (fun j0 b0 => ?_)
  refine wp_block ?_
  refine wsc (fun j0 k0 => ?_)
  refine mv c0 (fun j0 m0 => ?_)
  refine m_index (i := k) (j := k * 4) sv m0 rfl rfl rfl rfl Tryd.underlying22 sz32 (by omega) (by omega) (nds_elem (t := t) (k := k) (d0.row (i := 1) rfl).2 (by omega)).some_ rfl (by decide) (fun j0 c0 => ?_)
  refine m_loadEN sv c0 rfl rfl rfl (nds_elem (t := t) (k := k) (d0.row (i := 1) rfl).2 (by omega)) Tryd.underlying32 rfl sz32 (by decide) (fun j0 m0 => ?_)
  refine m_alloc (cs := [.int .i64 0, .int .i64 0, .int .i64 0, .string (⟨#[]⟩ : ByteArray)]) sv m0 d0 rfl rfl ze32 rfl (by decide) (fun j0 c0 n0 o0 p0 => ?_)
  refine asg o0 (fun c0 j0 => ?_)
  refine m_store (i := 2) (cs' := [.int .i64 (((nth t k).K)), .int .i64 (((nth t k).N)), .int .i64 (((nth t k).M)), .string ((nth t k).S)]) se j0 p0 rfl rfl rfl rfl rfl sz32 rfl rfl rfl (fun c0 o0 m0 q0 => ?_)
  refine wpList_nil (x_then_n (k0 _ _ ?_))
  refine wp_seq_k (fun k0 o0 => ?_)
  refine wsc (fun k0 c0 => ?_)
  refine m_loadN (i := 2) (vs := [.int .i64 (((nth t k).K)), .int .i64 (((nth t k).N)), .int .i64 (((nth t k).M)), .string ((nth t k).S)]) sv m0 q0 rfl rfl rfl rfl rfl Tryd.underlying32 rfl sz32 (by decide) (fun k0 j0 => ?_)
  have k0 := q0.nf
  refine k_call (xs := [.tmp 19]) se j0 rfl rfl rfl (by decide) ok39 (right_calls _ _ k0.il (nth t k) (k0.g 0) (hs := (hsm _ (by omega)))) ?_
  rintro j0 q0 ⟨rfl, m0⟩
  have q0 := k0.below m0.below
  refine ⟨_, rfl, fun m0 k0 => ?_⟩
  refine r_not sv k0 rfl rfl rfl (by decide) (fun m0 j0 => ?_)
  refine mv j0 (fun m0 k0 => ?_)
  refine l_join (fun ga gw => Reg ga 73 [(4, .slice Aa ((allTs 0 st).length) ca), (5, .slice Ao ((meas 0 st).length) co), (6, .int .i64 ((k : Nat) : Int)), (7, .pointer (some ⟨n0, 0, none⟩)), (12, .slice tA t.length tc), (13, .int .i64 ((t.length : Nat) : Int)), (14, .int .i64 ((k : Nat) : Int)), (28, .bool ((!(right (nth t k))) || (decide ((((meas 0 st).length : Nat) : Int) < ((many (nth t k) : Nat) : Int))))), (1000000, .bool false)] ∧ St w0 Z none_ gw [.row Aa ((allTs 0 st).length) ca 63 2 (encMs (allTs 0 st)), .row Ao ((meas 0 st).length) co 63 2 (encMs (meas 0 st)), .box n0 32 [.int .i64 (((nth t k).K)), .int .i64 (((nth t k).N)), .int .i64 (((nth t k).M)), .string ((nth t k).S)]] [dShapes, dRow 4 tA t.length tc (encNs t)]) 6 ?_ ?_
  ·
   rcases Bool.eq_false_or_eq_true (right (nth t k)) with m0 | m0
   ·
    have j0 := k0.setb (d := 22) (b := false) rfl (by rw [m0]; rfl)
    refine m_loadN (i := 2) (vs := [.int .i64 (((nth t k).K)), .int .i64 (((nth t k).N)), .int .i64 (((nth t k).M)), .string ((nth t k).S)]) (st_listV_w (wt j0)) j0 q0 rfl rfl rfl rfl rfl Tryd.underlying32 rfl sz32 (by decide) (fun p0 t0 => ?_)
    have p0 := q0.nf
    refine k_call (xs := [.tmp 23]) (st_list_w (wt t0)) t0 rfl rfl rfl (by decide) ok40 (many_calls _ _ p0.il (nth t k) (p0.g 0)) ?_
    rintro t0 j0 ⟨rfl, u0⟩
    have j0 := p0.below u0.below
    refine ⟨_, rfl, fun u0 p0 => ?_⟩
    refine r_move (st_listV_w (wt p0)) p0 rfl rfl rfl (by decide) (fun u0 t0 => ?_)
    refine r_len (st_listV_w (wt t0)) t0 rfl rfl rfl rfl Tryd.underlying48 (by decide) (fun u0 p0 => ?_)
    refine r_gtr (st_listV_w (wt p0)) p0 rfl rfl rfl rfl (by decide) (fun u0 t0 => ?_)
    refine r_pick_f sv t0 rfl rfl rfl rfl (by decide) (fun u0 p0 => ?_)
    refine wpList_nil ?_
    exact x_then_n ⟨(p0.sub (rc rfl (rc rfl (rc rfl (rc rfl (rc rfl (rc rfl (rc rfl (rc (rb rfl (by (simp only [m0, bl]; done))) (rc rfl rnl)))))))))), j0⟩
   ·
    have p0 := k0.setb (d := 22) (b := true) rfl (by rw [m0]; rfl)
    refine sps p0 (wff p0) (fun k0 j0 => ?_)
    refine sps j0 (wff j0) (fun k0 p0 => ?_)
    refine sps p0 (wff p0) (fun k0 j0 => ?_)
    refine sps j0 (wff j0) (fun k0 p0 => ?_)
    refine sps p0 (wff p0) (fun k0 j0 => ?_)
    refine r_pick_t sv j0 rfl rfl rfl rfl (by decide) (fun k0 p0 => ?_)
    refine wpList_nil ?_
    exact x_then_n ⟨(p0.sub (rc rfl (rc rfl (rc rfl (rc rfl (rc rfl (rc rfl (rc rfl (rc (rb rfl (by (simp only [m0, bl]; done))) (rc rfl rnl)))))))))), q0⟩
  rintro p0 m0 ⟨q0, k0⟩
  refine wpList_nil (x_then_n (c0 _ _ ?_))
  rcases Bool.eq_false_or_eq_true (((!(right (nth t k))) || (decide ((((meas 0 st).length : Nat) : Int) < ((many (nth t k) : Nat) : Int))))) with c0 | c0
  ·
   have m0 := c0
   try simp only [Bool.or_eq_true, Bool.and_eq_true, Bool.not_eq_true', Bool.not_eq_false', decide_eq_true_eq, decide_eq_false_iff_not, Bool.or_eq_false_iff, Bool.and_eq_false_iff] at m0
   have p0 := q0.setb (d := 28) (b := true) rfl c0
   refine wp_cond_true (p0.ev rfl) ?_
   refine wsc (fun j0 u0 => ?_)
   refine asg p0 (fun j0 t0 => ?_)
   refine asg t0 (fun j0 p0 => ?_)
   refine wpList_nil (x_then_n (u0 _ _ ?_))
   refine wp_ret ?_
   refine x_then_r ?_
   refine x_block_r ?_
   refine x_then_r ?_
   refine x_then_r ?_
   refine x_block_r ?_
   refine x_then_r ?_
   refine e_ret2 p0 rfl rfl rfl rfl ?_
   have p0 : measL t = [] := (meas_bad (scan_none hsc (by omega) (push_none (by rcases m0 with h | h; exact .inl h; exact .inr (by omega))))).1
   rw [p0]
   refine ⟨none, 0, ?_, k0.fr, ⟨Nat.le_refl _, RowI.nil _ _ _ _⟩⟩
   exact ret_t2 rfl (ret_b (by exact (meas_bad (scan_none hsc (by omega) (push_none (by rcases m0 with h | h; exact .inl h; exact .inr (by omega))))).2.symm))
  ·
   have m0 := or_fl c0
   have p0 := not_f m0
   have p0 := or_fr c0
   have m0 := of_decide_eq_false p0
   have m0 := q0.setb (d := 28) (b := false) rfl c0
   refine wp_cond_false (m0.ev rfl) ?_
   refine wp_skip ?_
   refine x_then_n (o0 _ _ ?_)
   refine wsc (fun o0 c0 => ?_)
   refine mv m0 (fun o0 q0 => ?_)
   refine r_len sv q0 rfl rfl rfl rfl Tryd.underlying48 (by decide) (fun o0 m0 => ?_)
   refine m_loadN (i := 2) (vs := [.int .i64 (((nth t k).K)), .int .i64 (((nth t k).N)), .int .i64 (((nth t k).M)), .string ((nth t k).S)]) sv m0 k0 rfl rfl rfl rfl rfl Tryd.underlying32 rfl sz32 (by decide) (fun o0 q0 => ?_)
   have o0 := k0.nf
   refine k_call (xs := [.tmp 31]) se q0 rfl rfl rfl (by decide) ok40 (many_calls _ _ o0.il (nth t k) (o0.g 0)) ?_
   rintro q0 k0 ⟨rfl, m0⟩
   have k0 := o0.below m0.below
   refine ⟨_, rfl, fun m0 o0 => ?_⟩
   refine r_sub (z := ((((meas 0 st).length : Nat) : Int) - ((many (nth t k) : Nat) : Int))) sv o0 rfl rfl rfl rfl (by decide) (by omega) (by omega) (by omega) (fun m0 q0 => ?_)
   refine asg q0 (fun m0 o0 => ?_)
   refine wpList_nil (x_then_n (c0 _ _ ?_))
   refine wsc (fun c0 m0 => ?_)
   refine mv o0 (fun c0 q0 => ?_)
   refine m_build (ps := [(0, .tmp 34), (1, .const (.int .i64 1))]) (v := .agg #[.int .i64 ((k : Nat) : Int), .int .i64 1]) sv q0 rfl rfl rfl (fun _ => by kernel_rfl) (by decide) (fun c0 o0 => ?_)
   refine m_alloc (cs := [.int .i64 0, .int .i64 0]) sv o0 k0 rfl rfl ze63 rfl (by decide) (fun c0 q0 p0 u0 j0 => ?_)
   refine m_store (i := 3) (cs' := [.int .i64 ((k : Nat) : Int), .int .i64 1]) se u0 j0 rfl rfl rfl rfl rfl sz63 rfl rfl rfl (fun q0 c0 o0 k0 => ?_)
   refine wpList_nil (x_then_n (m0 _ _ ?_))
   refine wp_seq_k (fun m0 c0 => ?_)
   refine wsc (fun m0 q0 => ?_)
   refine mv o0 (fun m0 j0 => ?_)
   refine mv j0 (fun m0 o0 => ?_)
   have m0 := own_cap (k0.res (i := 1) rfl)
   refine m_sliceV (lo := some (.tmp 37)) (hi := none) (vlo := (some (.int .i64 ((((meas 0 st).length : Nat) : Int) - ((many (nth t k) : Nat) : Int))))) (vhi := none) (kd := .i64) (kd' := .i64) sv o0 rfl rfl rfl rfl rfl (((meas 0 st).length) - (many (nth t k))) (many (nth t k)) (.inl (by (congr 2; omega))) (.inr ⟨rfl, by omega⟩) Tryd.underlying48 sz63 (by omega) (by decide) (fun m0 j0 u0 t0 v0 x0 => ?_)
   refine r_len sv x0 rfl rfl rfl rfl Tryd.underlying48 (by decide) (fun t0 m0 => ?_)
   refine mv m0 (fun t0 x0 => ?_)
   refine wpList_nil (x_then_n (q0 _ _ ?_))
   refine wp_block ?_
   refine wp_loop_ghost (fun gn ga gw => ∃ j : Nat, (Reg ga 73 [(4, .slice Aa ((allTs 0 st).length) ca), (5, .slice Ao ((meas 0 st).length) co), (12, .slice tA t.length tc), (13, .int .i64 ((t.length : Nat) : Int)), (14, .int .i64 ((k : Nat) : Int)), (1000000, .bool false), (8, .int .i64 ((((meas 0 st).length : Nat) : Int) - ((many (nth t k) : Nat) : Int))), (9, .pointer (some ⟨p0, 0, none⟩)), (38, .slice j0 (many (nth t k)) u0), (39, .int .i64 ((many (nth t k) : Nat) : Int)), (40, .int .i64 ((j : Nat) : Int))]) ∧ (St w0 Z none_ gw [.row Aa ((allTs 0 st).length) ca 63 2 (encMs (allTs 0 st)), .row Ao ((meas 0 st).length) co 63 2 (encMs (meas 0 st)), .box n0 32 [.int .i64 (((nth t k).K)), .int .i64 (((nth t k).N)), .int .i64 (((nth t k).M)), .string ((nth t k).S)], .box p0 63 [.int .i64 ((fromQ k (meas 0 st) (((meas 0 st).length) - (many (nth t k))) j)), .int .i64 ((deepQ (meas 0 st) (((meas 0 st).length) - (many (nth t k))) j))]] [dShapes, dRow 4 tA t.length tc (encNs t)]) ∧ (j ≤ many (nth t k)) ∧ (many (nth t k) - j) = gn) _ ⟨0, (x0.sub (rc rfl (rc rfl (rc rfl (rc rfl (rc rfl (rc rfl (rc rfl (rc rfl (rc rfl (rc rfl (rc rfl rnl)))))))))))), k0, by omega, rfl⟩ ?_
   rintro x0 k0 q0 ⟨j, t0, m0, hj, o0⟩
   obtain ⟨o0, q0⟩ := deepQ_le (st := st) (b := ((meas 0 st).length) - (many (nth t k))) (q := j)
   obtain ⟨q0, o0⟩ := meas_deep_le (st := st) (i := (((meas 0 st).length) - (many (nth t k))) + j)
   refine wsc (fun o0 q0 => ?_)
   refine r_lss sv t0 rfl rfl rfl rfl (by decide) (fun o0 k0 => ?_)
   refine wpList_nil (x_then_n (q0 _ _ ?_))
   refine wp_seq_k (fun q0 o0 => ?_)
   rcases Decidable.em (((j : Nat) : Int) < ((many (nth t k) : Nat) : Int)) with q0 | q0
   ·
    have t0 := k0.setb (d := 41) (b := true) rfl (decide_eq_true q0)
    refine wp_cond_true (t0.ev rfl) ?_
    refine wp_skip ?_
    refine x_then_n (o0 _ _ ?_)
    refine wp_seq_k (fun o0 x0 => ?_)
    refine wp_block ?_
    refine wsc (fun o0 y0 => ?_)
    refine mv t0 (fun o0 z0 => ?_)
    refine m_index (i := j) (j := j * 2) sv z0 rfl rfl rfl rfl Tryd.underlying48 sz63 (by omega) (by omega) (Cut.elem v0 (by omega) (own_ms (t := meas 0 st) (k := (((meas 0 st).length) - (many (nth t k))) + j) (m0.res (i := 1) rfl) (by omega))).some_ rfl (by decide) (fun o0 t0 => ?_)
    refine m_loadEN sv t0 rfl rfl rfl (Cut.elem v0 (by omega) (own_ms (t := meas 0 st) (k := (((meas 0 st).length) - (many (nth t k))) + j) (m0.res (i := 1) rfl) (by omega))) Tryd.underlying63 rfl sz63 (by decide) (fun o0 z0 => ?_)
    refine m_alloc (cs := [.int .i64 0, .int .i64 0]) sv z0 m0 rfl rfl ze63 rfl (by decide) (fun o0 t0 v0 b1 c1 => ?_)
    refine asg b1 (fun t0 o0 => ?_)
    refine m_store (i := 4) (cs' := [.int .i64 (((nthM (meas 0 st) ((((meas 0 st).length) - (many (nth t k))) + j)).1)), .int .i64 (((nthM (meas 0 st) ((((meas 0 st).length) - (many (nth t k))) + j)).2))]) se o0 c1 rfl rfl rfl rfl rfl sz63 rfl rfl rfl (fun t0 b1 z0 f1 => ?_)
    refine wpList_nil (x_then_n (y0 _ _ ?_))
    refine c_join (fun ga gw => Reg ga 73 [(4, .slice Aa ((allTs 0 st).length) ca), (5, .slice Ao ((meas 0 st).length) co), (8, .int .i64 ((((meas 0 st).length : Nat) : Int) - ((many (nth t k) : Nat) : Int))), (9, .pointer (some ⟨p0, 0, none⟩)), (11, .pointer (some ⟨v0, 0, none⟩)), (12, .slice tA t.length tc), (13, .int .i64 ((t.length : Nat) : Int)), (14, .int .i64 ((k : Nat) : Int)), (38, .slice j0 (many (nth t k)) u0), (39, .int .i64 ((many (nth t k) : Nat) : Int)), (40, .int .i64 ((j : Nat) : Int)), (1000000, .bool false)] ∧ St w0 Z none_ gw [.row Aa ((allTs 0 st).length) ca 63 2 (encMs (allTs 0 st)), .row Ao ((meas 0 st).length) co 63 2 (encMs (meas 0 st)), .box n0 32 [.int .i64 (((nth t k).K)), .int .i64 (((nth t k).N)), .int .i64 (((nth t k).M)), .string ((nth t k).S)], .box p0 63 [.int .i64 ((if (((j : Nat) : Int) = 0) then (((nthM (meas 0 st) ((((meas 0 st).length) - (many (nth t k))) + j)).1)) else ((fromQ k (meas 0 st) (((meas 0 st).length) - (many (nth t k))) j)))), .int .i64 ((deepQ (meas 0 st) (((meas 0 st).length) - (many (nth t k))) j))], .box v0 63 [.int .i64 (((nthM (meas 0 st) ((((meas 0 st).length) - (many (nth t k))) + j)).1)), .int .i64 (((nthM (meas 0 st) ((((meas 0 st).length) - (many (nth t k))) + j)).2))]] [dShapes, dRow 4 tA t.length tc (encNs t)]) ?_ ?_
    ·
     refine wsc (fun v0 u0 => ?_)
     refine mv z0 (fun v0 j0 => ?_)
     refine r_eql sv j0 rfl rfl rfl rfl (by decide) (fun v0 z0 => ?_)
     refine wpList_nil (x_then_n (u0 _ _ ?_))
     rcases Decidable.em (((j : Nat) : Int) = 0) with u0 | u0
     ·
      have v0 := z0.setb (d := 46) (b := true) rfl (decide_eq_true u0)
      refine wp_cond_true (v0.ev rfl) ?_
      refine c_region ?_
      refine m_field (j' := 0) sv v0 rfl rfl rfl Tryd.underlying63 rfl sz3 rfl rfl (by decide) (fun j0 p0 => ?_)
      refine m_load (i := 4) sv p0 f1 rfl rfl rfl rfl rfl Tryd.underlying3 rfl (by decide) (fun j0 v0 => ?_)
      refine m_field (j' := 0) sv v0 rfl rfl rfl Tryd.underlying63 rfl sz3 rfl rfl (by decide) (fun j0 p0 => ?_)
      refine m_store (i := 3) (cs' := [.int .i64 (((nthM (meas 0 st) ((((meas 0 st).length) - (many (nth t k))) + j)).1)), .int .i64 ((deepQ (meas 0 st) (((meas 0 st).length) - (many (nth t k))) j))]) se p0 f1 rfl rfl rfl rfl rfl sz3 rfl rfl rfl (fun j0 v0 n0 y0 => ?_)
      refine wpList_nil ?_
      have hSj := y0
      exact x_then_n ⟨(n0.sub (rc rfl (rc rfl (rc rfl (rc rfl (rc rfl (rc rfl (rc rfl (rc rfl (rc rfl (rc rfl (rc rfl (rc rfl rnl))))))))))))), by rw [(show (((if (((j : Nat) : Int) = 0) then (((nthM (meas 0 st) ((((meas 0 st).length) - (many (nth t k))) + j)).1)) else ((fromQ k (meas 0 st) (((meas 0 st).length) - (many (nth t k))) j)))) : Int) = (((nthM (meas 0 st) ((((meas 0 st).length) - (many (nth t k))) + j)).1)) by (simp only [decide_eq_true u0, if_pos u0, bl]; done))]; exact hSj⟩
     ·
      have n0 := z0.setb (d := 46) (b := false) rfl (decide_eq_false u0)
      refine wp_cond_false (n0.ev rfl) ?_
      refine wp_skip ?_
      have hSj := f1
      exact x_then_n ⟨(n0.sub (rc rfl (rc rfl (rc rfl (rc rfl (rc rfl (rc rfl (rc rfl (rc rfl (rc rfl (rc rfl (rc rfl (rc rfl rnl))))))))))))), by rw [(show (((if (((j : Nat) : Int) = 0) then (((nthM (meas 0 st) ((((meas 0 st).length) - (many (nth t k))) + j)).1)) else ((fromQ k (meas 0 st) (((meas 0 st).length) - (many (nth t k))) j)))) : Int) = ((fromQ k (meas 0 st) (((meas 0 st).length) - (many (nth t k))) j)) by (simp only [decide_eq_false u0, if_neg u0, bl]; done))]; exact hSj⟩
    rintro n0 u0 ⟨f1, z0⟩
    refine c_region ?_
    refine m_field (j' := 1) sv f1 rfl rfl rfl Tryd.underlying63 rfl sz3 rfl rfl (by decide) (fun u0 n0 => ?_)
    refine m_load (i := 3) sv n0 z0 rfl rfl rfl rfl rfl Tryd.underlying3 rfl (by decide) (fun u0 f1 => ?_)
    refine m_field (j' := 1) sv f1 rfl rfl rfl Tryd.underlying63 rfl sz3 rfl rfl (by decide) (fun u0 n0 => ?_)
    refine m_load (i := 4) sv n0 z0 rfl rfl rfl rfl rfl Tryd.underlying3 rfl (by decide) (fun u0 f1 => ?_)
    refine r_add (z := (((nthM (meas 0 st) ((((meas 0 st).length) - (many (nth t k))) + j)).2) + 1)) sv f1 rfl rfl rfl rfl (by decide) (by omega) (by omega) (by omega) (fun u0 n0 => ?_)
    refine r_max sv n0 rfl rfl rfl rfl rfl (by decide) (fun u0 f1 => ?_)
    refine m_field (j' := 1) sv f1 rfl rfl rfl Tryd.underlying63 rfl sz3 rfl rfl (by decide) (fun u0 n0 => ?_)
    refine m_store (i := 3) (cs' := [.int .i64 ((if (((j : Nat) : Int) = 0) then (((nthM (meas 0 st) ((((meas 0 st).length) - (many (nth t k))) + j)).1)) else ((fromQ k (meas 0 st) (((meas 0 st).length) - (many (nth t k))) j)))), .int .i64 ((max ((deepQ (meas 0 st) (((meas 0 st).length) - (many (nth t k))) j)) (((nthM (meas 0 st) ((((meas 0 st).length) - (many (nth t k))) + j)).2) + 1)))]) se n0 z0 rfl rfl rfl rfl rfl sz3 rfl rfl rfl (fun u0 f1 y0 v0 => ?_)
    refine wpList_nil ?_
    refine x_block_n ?_
    refine x_then_n (x0 _ _ ?_)
    refine c_region ?_
    refine r_add (z := ((j + 1 : Nat) : Int)) sv y0 rfl rfl rfl rfl (by decide) (by omega) (by omega) (by omega) (fun x0 f1 => ?_)
    refine mv f1 (fun x0 y0 => ?_)
    refine wpList_nil ?_
    have x0 : ((if (((j : Nat) : Int) = 0) then (((nthM (meas 0 st) ((((meas 0 st).length) - (many (nth t k))) + j)).1)) else ((fromQ k (meas 0 st) (((meas 0 st).length) - (many (nth t k))) j)))) = ((fromQ k (meas 0 st) (((meas 0 st).length) - (many (nth t k))) (j + 1))) := by unfold fromQ; (repeat' split) <;> first | rfl | omega | (congr 2; omega) | (congr 3; omega)
    have f1 := v0
    rw [x0] at f1
    have x0 : ((max ((deepQ (meas 0 st) (((meas 0 st).length) - (many (nth t k))) j)) (((nthM (meas 0 st) ((((meas 0 st).length) - (many (nth t k))) + j)).2) + 1))) = ((deepQ (meas 0 st) (((meas 0 st).length) - (many (nth t k))) (j + 1))) := rfl
    have v0 := f1
    rw [x0] at v0
    have x0 := v0.erase 4
    exact ⟨_, by omega, j + 1, (y0.sub (rc rfl (rc rfl (rc rfl (rc rfl (rc rfl (rc rfl (rc rfl (rc rfl (rc rfl (rc rfl (rc rfl rnl)))))))))))), x0, by omega, rfl⟩
   ·
    have x0 := k0.setb (d := 41) (b := false) rfl (decide_eq_false q0)
    refine wp_cond_false (x0.ev rfl) ?_
    refine wp_exit ?_
    refine x_then_e ?_
    refine x_then_e ?_
    refine x_block_eq ?_
    refine x_then_n (c0 _ _ ?_)
    refine wp_seq_k (fun c0 q0 => ?_)
    obtain ⟨c0, k0, y0⟩ := m0.agree
    refine d_reg3 (n := 7) y0 2 (pB 3 0 pn) (pan_then (pan_block (pan_then (pan_then (pan_block (pan_then pan_body)))))) (fun k0 c0 m0 v0 f1 u0 => ?_)
    refine dtM 0 c0 x0 u0 (fun v0 k0 => ?_)
    refine dtM 1 c0 k0 u0 (fun v0 x0 => ?_)
    refine dt 2 rfl c0 x0 (want_n rfl) (fun x hx => m_sliceP (q := ((meas 0 st).length) - (many (nth t k))) (sy x0) x0 rfl rfl rfl rfl (by omega) Tryd.underlying48 sz63 (by omega) (by decide) gt) u0 (fun v0 k0 => ?_)
    refine dt 3 rfl c0 k0 (want_n rfl) (fun x hx => m_loadCN (sy k0) k0 rfl rfl rfl (CellsAt.cons_ (hx.c 0) (CellsAt.cons_ (hx.c 1) (CellsAt.nil _ _))) Tryd.underlying63 rfl sz63 (by decide) gt) u0 (fun v0 x0 => ?_)
    refine d1 4 ?_
    refine mbs [(0, .tmp 61)] [.int .i64 ((fromQ k (meas 0 st) (((meas 0 st).length) - (many (nth t k))) j)), .int .i64 ((deepQ (meas 0 st) (((meas 0 st).length) - (many (nth t k))) j))] (st_opV rfl (want_n rfl)) x0 f1 Tryd.underlying48 zi63 (fun v0 k0 u0 y0 n0 => ?_)
    have u0 := sWI n0 2 (pB 3 0 pn)
    refine ⟨u0, ?_⟩
    refine d1 5 ?_
    refine m_appendC (f := encM) (i := 1) (meas 0 st) ([(((fromQ k (meas 0 st) (((meas 0 st).length) - (many (nth t k))) j)), ((deepQ (meas 0 st) (((meas 0 st).length) - (many (nth t k))) j)))]) (st_opV rfl (want_n rfl)) y0 n0 rfl rfl rfl rfl rfl (by omega) encM_len (encM_one _) Tryd.underlying48 zi63 rfl rfl (own_lnews (f := encM) (n0.res (i := 4) rfl)) rfl (by first | omega | (simp only [List.length_cons, List.length_nil]; omega)) (by decide) (fun u0 k0 v0 x0 f1 z0 j0 => ?_)
    have f1 : ((meas 0 st).take (((meas 0 st).length) - (many (nth t k))) ++ ([(((fromQ k (meas 0 st) (((meas 0 st).length) - (many (nth t k))) j)), ((deepQ (meas 0 st) (((meas 0 st).length) - (many (nth t k))) j)))]) : List (Int × Int)).length = ((meas 0 st).length + 1) - (many (nth t k)) := by (simp only [List.length_append, List.length_take, List.length_cons, List.length_nil]; omega)
    have f1 := j0.erase 4
    have j0 := sWI f1 2 (pB 3 0 pn)
    refine ⟨j0, ?_⟩
    refine dtA 6 c0 z0 j0 (fun k0 u0 => ?_)
    refine wpAnyH_done (by kernel_rfl) (m0 _ _ ?_) _
    refine x_then_n (q0 _ _ ?_)
    refine c_region ?_
    refine mv u0 (fun q0 m0 => ?_)
    refine m_loadN (i := 3) (vs := [.int .i64 ((fromQ k (meas 0 st) (((meas 0 st).length) - (many (nth t k))) j)), .int .i64 ((deepQ (meas 0 st) (((meas 0 st).length) - (many (nth t k))) j))]) sv m0 f1 rfl rfl rfl rfl rfl Tryd.underlying63 rfl sz63 (by decide) (fun q0 u0 => ?_)
    refine mbs [(0, .tmp 65)] [.int .i64 ((fromQ k (meas 0 st) (((meas 0 st).length) - (many (nth t k))) j)), .int .i64 ((deepQ (meas 0 st) (((meas 0 st).length) - (many (nth t k))) j))] sv u0 f1 Tryd.underlying48 zi63 (fun q0 m0 k0 j0 z0 => ?_)
    refine m_appendF (f := encM) (i := 0) (allTs 0 st) ([(((fromQ k (meas 0 st) (((meas 0 st).length) - (many (nth t k))) j)), ((deepQ (meas 0 st) (((meas 0 st).length) - (many (nth t k))) j)))]) sv j0 z0 rfl rfl rfl rfl rfl encM_len (encM_one _) Tryd.underlying48 zi63 rfl rfl (own_lnews (f := encM) (z0.res (i := 4) rfl)) rfl (by first | omega | (simp only [List.length_cons, List.length_nil]; omega)) (by decide) (fun k0 m0 q0 u0 f1 c0 n0 => ?_)
    have f1 : ((allTs 0 st) ++ ([(((fromQ k (meas 0 st) (((meas 0 st).length) - (many (nth t k))) j)), ((deepQ (meas 0 st) (((meas 0 st).length) - (many (nth t k))) j)))]) : List (Int × Int)).length = (allTs 0 st).length + 1 := by (simp only [List.length_append, List.length_take, List.length_cons, List.length_nil]; done)
    have f1 := n0.erase 4
    refine asg c0 (fun n0 m0 => ?_)
    refine wpList_nil ?_
    refine x_block_n ?_
    refine x_then_n (b0 _ _ ?_)
    refine c_region ?_
    refine r_add (z := ((k + 1 : Nat) : Int)) sv m0 rfl rfl rfl rfl (by decide) (by omega) (by omega) (by omega) (fun b0 n0 => ?_)
    refine mv n0 (fun b0 m0 => ?_)
    refine wpList_nil ?_
    obtain ⟨st', hp, hpl⟩ := push_some (st := st) (n := nth t k) (by assumption) (by omega)
    obtain ⟨hm1, hm2⟩ := push_meas hp hfl
    have hjq : j = many (nth t k) := by omega
    have b0 : (allTs 0 st) ++ ([(((fromQ k (meas 0 st) (((meas 0 st).length) - (many (nth t k))) j)), ((deepQ (meas 0 st) (((meas 0 st).length) - (many (nth t k))) j)))]) = allTs 0 st' := by rw [hm2, hjq]; try simp only [meas_length]
    have n0 := m0
    have m0 := f1
    rw [b0] at n0 m0
    have b0 : (meas 0 st).take (((meas 0 st).length) - (many (nth t k))) ++ ([(((fromQ k (meas 0 st) (((meas 0 st).length) - (many (nth t k))) j)), ((deepQ (meas 0 st) (((meas 0 st).length) - (many (nth t k))) j)))]) = meas 0 st' := by rw [hm1, hjq]; try simp only [meas_length]
    have f1 := n0
    have n0 := m0
    rw [b0] at f1 n0
    have b0 := n0.erase 3
    have n0 := b0.erase 2
    have b0 := n0.forget 2
    exact ⟨_, by omega, k + 1, st', q0, u0, v0, x0, (f1.sub (rc rfl (rc rfl (rc rfl (rc rfl (rc rfl (rc rfl rnl))))))), b0, by omega, (scan_step hsc (by omega)).trans hp, rfl⟩
 ·
  have b0 := i0.setb (d := 15) (b := false) rfl (decide_eq_false h0)
  refine wp_cond_false (b0.ev rfl) ?_
  refine wp_exit ?_
  refine x_then_e ?_
  refine x_then_e ?_
  refine x_block_eq ?_
  refine x_then_n (f0 _ _ ?_)
  refine wsc (fun f0 h0 => ?_)
  refine mv b0 (fun f0 i0 => ?_)
  refine mv i0 (fun f0 b0 => ?_)
  refine r_len sv b0 rfl rfl rfl rfl Tryd.underlying48 (by decide) (fun f0 i0 => ?_)
  refine r_eql sv i0 rfl rfl rfl rfl (by decide) (fun f0 b0 => ?_)
  refine asg b0 (fun f0 i0 => ?_)
  refine asg i0 (fun f0 b0 => ?_)
  refine wpList_nil (x_then_n (h0 _ _ ?_))
  refine wp_ret ?_
  refine e_ret2 b0 rfl rfl rfl rfl ?_
  have b0 : measL t = allTs 0 st := measL_end (by rw [← hsc, List.take_of_length_le (by omega)])
  rw [b0]
  have b0 := own_cap (d0.res (i := 0) rfl)
  obtain ⟨h0, f0⟩ := d0.row_data (i := 0) rfl (fun _ h => h)
  have d0 := h0.data (dRow 2 Aa ((allTs 0 st).length) ca (encMs (allTs 0 st))) ⟨b0, f0⟩
  refine ⟨Aa, ca, ?_, d0.fr, d0.rx 2⟩
  exact ret_t2 rfl (ret_b (by (rw [measB_end (by rw [← hsc, List.take_of_length_le (by omega)]), meas_length]; done)))
set_option maxRecDepth 100000 in
set_option maxHeartbeats 1000000 in
theorem look_calls (w0 : World) (Z : Nat → Prop) (hZ : ∀ k, Z k → k < w0.heap.size) (tA : Option Addr) (tc : Nat) (t : List Nd) (hShp : Shapes w0 Z) (ht : (dRow 4 tA t.length tc (encNs t)).φ w0 Z) (hsm : sml t := by first | assumption | omega | (simp; done) | (simp; omega)) (hl : t.length ≤ 1000000 := by first | assumption | omega | (simp; done) | (simp; omega)) :
    Calls Tryd.prog 25 [.slice tA t.length tc].toArray w0 (fun e w' => ∃ (rA0 : Option Addr) (rc0 : Nat), e = .returned (.tuple #[.slice rA0 (lookL t).length rc0, .int .i64 (chk t)]) ∧ Fr none_ w0 w' ∧ (dRow 2 rA0 ((lookL t).length) rc0 (encMs (lookL t))).φ w' (nxt Z w0 w')) := by
 have b0 := s0 (M := none_) hZ (zc (d := dShapes) hShp (zc ht zn))
 refine c_enter Tryd.func25 rfl Tryd.ntmps25 rfl (fun c0 d0 => ?_)
 refine wsc (fun c0 f0 => ?_)
 refine asg d0 (fun c0 h0 => ?_)
 refine asg h0 (fun c0 d0 => ?_)
 refine wpList_nil (x_then_n (f0 _ _ ?_))
 refine wp_seq_k (fun f0 c0 => ?_)
 refine wsc (fun f0 h0 => ?_)
 refine mv d0 (fun f0 i0 => ?_)
 refine r_len sv i0 rfl rfl rfl rfl Tryd.underlying22 (by decide) (fun f0 d0 => ?_)
 refine r_gtr sv d0 rfl rfl rfl rfl (by decide) (fun f0 i0 => ?_)
 refine wpList_nil (x_then_n (h0 _ _ ?_))
 rcases Decidable.em (4000 < ((t.length : Nat) : Int)) with h0 | h0
 ·
  have f0 := i0.setb (d := 8) (b := true) rfl (decide_eq_true h0)
  refine wp_cond_true (f0.ev rfl) ?_
  refine wsc (fun d0 j0 => ?_)
  refine asg f0 (fun d0 k0 => ?_)
  refine asg k0 (fun d0 f0 => ?_)
  refine wpList_nil (x_then_n (j0 _ _ ?_))
  refine wp_ret ?_
  refine x_then_r ?_
  refine e_ret2 f0 rfl rfl rfl rfl ?_
  have f0 : lookL t = [] := lookL_bad (by rw [chk_size (by omega)]; omega)
  rw [f0]
  refine ⟨none, 0, ?_, b0.fr, ⟨Nat.le_refl _, RowI.nil _ _ _ _⟩⟩
  exact ret_t2 rfl (ret_i (by first | exact (chk_size (by omega)).symm))
 ·
  have f0 := i0.setb (d := 8) (b := false) rfl (decide_eq_false h0)
  refine wp_cond_false (f0.ev rfl) ?_
  refine wp_skip ?_
  refine x_then_n (c0 _ _ ?_)
  refine wsc (fun c0 h0 => ?_)
  refine mv f0 (fun c0 i0 => ?_)
  have c0 := b0.nf
  refine k_call (xs := [.tmp 10]) se i0 rfl rfl rfl (by decide) ok30 (measured_calls _ _ c0.il _ _ _ (c0.g 0) (c0.g 1)) ?_
  rintro i0 b0 ⟨f0, j0, rfl, d0, k0⟩
  have b0 := c0.below d0.below
  have d0 := c0.dN b0 k0
  refine ⟨_, rfl, fun b0 k0 => ?_⟩
  refine mv k0 (fun b0 c0 => ?_)
  refine r_extract sv c0 rfl rfl rfl rfl (by decide) (fun b0 k0 => ?_)
  refine r_extract sv k0 rfl rfl rfl rfl (by decide) (fun b0 c0 => ?_)
  refine asg c0 (fun b0 k0 => ?_)
  refine asg k0 (fun b0 c0 => ?_)
  refine wpList_nil (x_then_n (h0 _ _ ?_))
  refine wp_seq_k (fun h0 b0 => ?_)
  refine wp_block ?_
  refine wsc (fun h0 k0 => ?_)
  refine mv c0 (fun h0 i0 => ?_)
  refine r_not sv i0 rfl rfl rfl (by decide) (fun h0 c0 => ?_)
  refine asg c0 (fun h0 i0 => ?_)
  refine wpList_nil (x_then_n (k0 _ _ ?_))
  rcases Bool.eq_false_or_eq_true (measB t) with k0 | k0
  ·
   have hpos := measL_pos k0
   have hml := measL_length k0
   have h0 := i0.setb (d := 14) (b := false) rfl (by rw [k0]; rfl)
   refine wp_cond_false (h0.ev rfl) ?_
   refine wsc (fun c0 m0 => ?_)
   refine mv h0 (fun c0 n0 => ?_)
   refine mv n0 (fun c0 h0 => ?_)
   refine r_len sv h0 rfl rfl rfl rfl Tryd.underlying48 (by decide) (fun c0 n0 => ?_)
   refine r_sub (z := ((((measL t).length : Nat) : Int) - 1)) sv n0 rfl rfl rfl rfl (by decide) (by omega) (by omega) (by omega) (fun c0 h0 => ?_)
   refine m_index (i := ((measL t).length) - (1)) (j := (((measL t).length) - (1)) * 2) sv h0 rfl rfl rfl rfl Tryd.underlying48 sz63 (by omega) (by omega) (ms_elem (t := measL t) (k := ((measL t).length) - (1)) (d0.row (i := 2) rfl).2 (by omega)).some_ rfl (by decide) (fun c0 n0 => ?_)
   refine m_fieldE (j' := (((measL t).length) - (1)) * 2 + 1) sv n0 rfl rfl rfl (ms_elem (t := measL t) (k := ((measL t).length) - (1)) (d0.row (i := 2) rfl).2 (by omega)).some_ Tryd.underlying63 rfl sz3 rfl rfl (by decide) (fun c0 h0 => ?_)
   refine m_loadE sv h0 rfl rfl rfl 1 ((((measL t).length) - (1)) * 2) (ms_elem (t := measL t) (k := ((measL t).length) - (1)) (d0.row (i := 2) rfl).2 (by omega)) rfl rfl Tryd.underlying3 rfl (by decide) (fun c0 n0 => ?_)
   refine r_gtr sv n0 rfl rfl rfl rfl (by decide) (fun c0 h0 => ?_)
   refine asg h0 (fun c0 n0 => ?_)
   refine wpList_nil (x_then_n (m0 _ _ ?_))
   rcases Decidable.em (60 < (((nthM (measL t) (((measL t).length) - (1))).2))) with m0 | m0
   ·
    have c0 := n0.setb (d := 17) (b := true) rfl (decide_eq_true m0)
    refine wp_cond_true (c0.ev rfl) ?_
    refine wsc (fun h0 o0 => ?_)
    refine asg c0 (fun h0 p0 => ?_)
    refine asg p0 (fun h0 c0 => ?_)
    refine wpList_nil (x_then_n (o0 _ _ ?_))
    refine wp_ret ?_
    refine x_block_r ?_
    refine x_then_r ?_
    refine e_ret2 c0 rfl rfl rfl rfl ?_
    have c0 : lookL t = [] := lookL_bad (by (rw [chk_deep (by omega) (by assumption) (by assumption)]; omega))
    rw [c0]
    refine ⟨none, 0, ?_, d0.fr, ⟨Nat.le_refl _, RowI.nil _ _ _ _⟩⟩
    exact ret_t2 rfl (ret_i (by first | exact (chk_deep (by omega) (by assumption) (by assumption)).symm))
   ·
    have c0 := n0.setb (d := 17) (b := false) rfl (decide_eq_false m0)
    refine wp_cond_false (c0.ev rfl) ?_
    refine wp_skip ?_
    refine x_block_n ?_
    refine x_then_n (b0 _ _ ?_)
    refine wsc (fun b0 m0 => ?_)
    refine mv c0 (fun b0 n0 => ?_)
    refine asg n0 (fun b0 c0 => ?_)
    refine asg c0 (fun b0 n0 => ?_)
    refine wpList_nil (x_then_n (m0 _ _ ?_))
    refine wp_ret ?_
    refine e_ret2 n0 rfl rfl rfl rfl ?_
    have n0 : lookL t = measL t := lookL_good (chk_good (by omega) (by assumption) (by assumption))
    rw [n0]
    refine ⟨f0, j0, ?_, d0.fr, d0.rx 2⟩
    exact ret_t2 rfl (ret_i (by first | exact (chk_good (by omega) (by assumption) (by assumption)).symm))
  ·
   have j0 := i0.setb (d := 14) (b := true) rfl (by rw [k0]; rfl)
   refine wp_cond_true (j0.ev rfl) ?_
   refine wsc (fun k0 i0 => ?_)
   refine asg j0 (fun k0 f0 => ?_)
   refine asg f0 (fun k0 j0 => ?_)
   refine wpList_nil (x_then_n (i0 _ _ ?_))
   refine wp_ret ?_
   refine x_block_r ?_
   refine x_then_r ?_
   refine e_ret2 j0 rfl rfl rfl rfl ?_
   have j0 : lookL t = [] := lookL_bad (by (rw [chk_form (by omega) (by assumption)]; omega))
   rw [j0]
   refine ⟨none, 0, ?_, d0.fr, ⟨Nat.le_refl _, RowI.nil _ _ _ _⟩⟩
   exact ret_t2 rfl (ret_i (by first | exact (chk_form (by omega) (by assumption)).symm))
set_option maxRecDepth 100000 in
set_option maxHeartbeats 1000000 in
theorem check_calls (w0 : World) (Z : Nat → Prop) (hZ : ∀ k, Z k → k < w0.heap.size) (tA : Option Addr) (tc : Nat) (t : List Nd) (hShp : Shapes w0 Z) (ht : (dRow 4 tA t.length tc (encNs t)).φ w0 Z) (hsm : sml t := by first | assumption | omega | (simp; done) | (simp; omega)) (hl : t.length ≤ 1000000 := by first | assumption | omega | (simp; done) | (simp; omega)) :
    Calls Tryd.prog 17 [.slice tA t.length tc].toArray w0 (fun e w' => e = .returned (.int .i64 (chk t)) ∧ Fr none_ w0 w') := by
 have b0 := s0 (M := none_) hZ (zc (d := dShapes) hShp (zc ht zn))
 refine c_enter Tryd.func17 rfl Tryd.ntmps17 rfl (fun c0 d0 => ?_)
 refine wsc (fun c0 f0 => ?_)
 refine asg d0 (fun c0 h0 => ?_)
 refine wpList_nil (x_then_n (f0 _ _ ?_))
 refine wsc (fun f0 c0 => ?_)
 refine mv h0 (fun f0 d0 => ?_)
 have f0 := b0.nf
 refine k_call (xs := [.tmp 6]) se d0 rfl rfl rfl (by decide) ok25 (look_calls _ _ f0.il _ _ _ (f0.g 0) (f0.g 1)) ?_
 rintro d0 b0 ⟨h0, i0, rfl, j0, k0⟩
 have i0 := f0.below j0.below
 have j0 := f0.dN i0 k0
 refine ⟨_, rfl, fun i0 k0 => ?_⟩
 refine mv k0 (fun i0 f0 => ?_)
 refine r_extract sv f0 rfl rfl rfl rfl (by decide) (fun i0 k0 => ?_)
 refine r_extract sv k0 rfl rfl rfl rfl (by decide) (fun i0 f0 => ?_)
 refine asg f0 (fun i0 k0 => ?_)
 refine asg k0 (fun i0 f0 => ?_)
 refine wpList_nil (x_then_n (c0 _ _ ?_))
 refine wsc (fun c0 i0 => ?_)
 refine mv f0 (fun c0 k0 => ?_)
 refine asg k0 (fun c0 f0 => ?_)
 refine wpList_nil (x_then_n (i0 _ _ ?_))
 refine wp_ret ?_
 refine e_ret1 f0 rfl rfl rfl ?_
 refine ⟨?_, j0.fr⟩
 exact congrArg Ending.returned (ret_i (by rfl))
end Go.Proofs.YthdemmcfnpmmiaaDoor
/- Contracts of functions, one theorem each: what the call returns, and that nothing old is changed. Printed by gen.py. -/
namespace Go.Proofs.YthdemmcfnpmmiaaDoor
open Go Go.RowKit
set_option linter.unusedSimpArgs false
set_option linter.unusedVariables false
set_option maxRecDepth 100000 in
set_option maxHeartbeats 1000000 in
theorem cloneI_calls (w0 : World) (Z : Nat → Prop) (hZ : ∀ k, Z k → k < w0.heap.size) (tA : Option Addr) (tc : Nat) (t : List Int) (ht : (dRow 1 tA t.length tc (encIs t)).φ w0 Z) (hl : t.length ≤ 1000000 := by first | assumption | omega | (simp; done) | (simp; omega)) :
    Calls Tryd.prog 48 [.slice tA t.length tc].toArray w0 (fun e w' => ∃ (rA0 : Option Addr) (rc0 : Nat), e = .returned (.slice rA0 (t).length rc0) ∧ Fr none_ w0 w' ∧ (dRow 1 rA0 ((t).length) rc0 (encIs t)).φ w' (nxt Z w0 w')) := by
 have b0 := s0 (M := none_) hZ (zc ht zn)
 refine c_enter Tryd.func48 rfl Tryd.ntmps48 rfl (fun c0 d0 => ?_)
 refine wsc (fun c0 f0 => ?_)
 refine asg d0 (fun c0 h0 => ?_)
 refine wpList_nil (x_then_n (f0 _ _ ?_))
 refine wp_seq_k (fun f0 c0 => ?_)
 refine wsc (fun f0 d0 => ?_)
 refine mv h0 (fun f0 i0 => ?_)
 refine r_eqlNil sv i0 rfl rfl rfl rfl Tryd.underlying56 (by decide) (fun f0 h0 => ?_)
 refine wpList_nil (x_then_n (d0 _ _ ?_))
 rcases Bool.eq_false_or_eq_true (Option.isNone tA) with d0 | d0
 ·
  have f0 := h0.setb (d := 4) (b := true) rfl d0
  refine wp_cond_true (f0.ev rfl) ?_
  refine wsc (fun i0 j0 => ?_)
  refine asg f0 (fun i0 k0 => ?_)
  refine wpList_nil (x_then_n (j0 _ _ ?_))
  refine wp_ret ?_
  refine x_then_r ?_
  refine e_ret1 k0 rfl rfl rfl ?_
  have k0 : t = [] := List.eq_nil_of_length_eq_zero (nil_len ht (by assumption))
  rw [k0]
  refine ⟨none, 0, ?_, b0.fr, ⟨Nat.le_refl _, RowI.nil _ _ _ _⟩⟩
  exact congrArg Ending.returned rfl
 ·
  have k0 := h0.setb (d := 4) (b := false) rfl d0
  refine wp_cond_false (k0.ev rfl) ?_
  refine wp_skip ?_
  refine x_then_n (c0 _ _ ?_)
  refine wsc (fun c0 d0 => ?_)
  refine mbs [] [] sv k0 b0 Tryd.underlying56 zi3 (fun c0 h0 j0 i0 f0 => ?_)
  refine mv i0 (fun j0 h0 => ?_)
  refine m_appendF (f := encI) (i := 0) ([]) (t) sv h0 f0 rfl rfl rfl rfl rfl encI_len (encI_one _) Tryd.underlying56 zi3 rfl rfl (f0.row (i := 0) rfl).2.news rfl (by first | omega | (simp only [List.length_cons, List.length_nil]; omega)) (by decide) (fun j0 i0 c0 k0 b0 m0 n0 => ?_)
  have b0 : (([]) ++ t : List Int).length = t.length := by (simp only [List.length_append, List.length_take, List.length_cons, List.length_nil]; omega)
  refine asg m0 (fun b0 i0 => ?_)
  refine wpList_nil (x_then_n (d0 _ _ ?_))
  refine wp_ret ?_
  refine e_ret1 i0 rfl rfl rfl ?_
  have i0 : t = ([]) ++ t := by simp
  rw [i0]
  have i0 := own_cap (n0.res (i := 0) rfl)
  obtain ⟨d0, b0⟩ := n0.row_data (i := 0) rfl (fun _ h => h)
  have n0 := d0.data (dRow 1 c0 ((([]) ++ t : List Int).length) k0 (encIs (([]) ++ t))) ⟨i0, b0⟩
  refine ⟨c0, k0, ?_, n0.fr, n0.rx 1⟩
  exact congrArg Ending.returned rfl
end Go.Proofs.YthdemmcfnpmmiaaDoor
/- Contracts of functions, one theorem each: what the call returns, and that nothing old is changed. Printed by gen.py. -/
namespace Go.Proofs.YthdemmcfnpmmiaaDoor
open Go Go.RowKit
set_option linter.unusedSimpArgs false
set_option linter.unusedVariables false
set_option maxRecDepth 100000 in
set_option maxHeartbeats 1000000 in
theorem binds_calls (w0 : World) (Z : Nat → Prop) (hZ : ∀ k, Z k → k < w0.heap.size) (n : Nd) (hShp : Shapes w0 Z) (hs : n.S.size < 1000000 := by first | assumption | omega | (simp; done) | (simp; omega)) :
    Calls Tryd.prog 41 [.agg #[.int .i64 (n.K), .int .i64 (n.N), .int .i64 (n.M), .string n.S]].toArray w0 (fun e w' => ∃ (rA0 : Option Addr) (rc0 : Nat), e = .returned (.tuple #[.slice rA0 (bindsR n).length rc0, .bool (right n)]) ∧ Fr none_ w0 w' ∧ (dRow 1 rA0 ((bindsR n).length) rc0 (encIs (bindsR n))).φ w' (nxt Z w0 w')) := by
 have b0 := s0 (M := none_) hZ (zc (d := dShapes) hShp zn)
 refine c_enter Tryd.func41 rfl Tryd.ntmps41 rfl (fun c0 d0 => ?_)
 refine wsc (fun c0 f0 => ?_)
 refine m_box (cs := [.int .i64 (n.K), .int .i64 (n.N), .int .i64 (n.M), .string n.S]) sv d0 b0 rfl rfl rfl rfl (by decide) (fun c0 h0 i0 j0 k0 => ?_)
 refine asg j0 (fun i0 h0 => ?_)
 refine asg h0 (fun i0 j0 => ?_)
 refine wpList_nil (x_then_n (f0 _ _ ?_))
 refine wp_seq_k (fun f0 i0 => ?_)
 refine wsc (fun f0 h0 => ?_)
 refine m_loadN (i := 0) (vs := [.int .i64 (n.K), .int .i64 (n.N), .int .i64 (n.M), .string n.S]) sv j0 k0 rfl rfl rfl rfl rfl Tryd.underlying32 rfl sz32 (by decide) (fun f0 c0 => ?_)
 have f0 := k0.nf
 refine k_call (xs := [.tmp 4]) se c0 rfl rfl rfl (by decide) ok39 (right_calls _ _ f0.il n (f0.g 0)) ?_
 rintro c0 k0 ⟨rfl, j0⟩
 have k0 := f0.below j0.below
 refine ⟨_, rfl, fun j0 f0 => ?_⟩
 refine r_not sv f0 rfl rfl rfl (by decide) (fun j0 c0 => ?_)
 refine wpList_nil (x_then_n (h0 _ _ ?_))
 rcases Bool.eq_false_or_eq_true (right n) with h0 | h0
 ·
  have hk := right_K h0
  have j0 := c0.setb (d := 6) (b := false) rfl (by rw [h0]; rfl)
  refine wp_cond_false (j0.ev rfl) ?_
  refine wp_skip ?_
  refine x_then_n (i0 _ _ ?_)
  refine wp_seq_k (fun i0 f0 => ?_)
  refine wsc (fun i0 d0 => ?_)
  refine m_field (j' := 0) sv j0 rfl rfl rfl Tryd.underlying32 rfl sz3 rfl rfl (by decide) (fun i0 b0 => ?_)
  refine m_load (i := 0) sv b0 k0 rfl rfl rfl rfl rfl Tryd.underlying3 rfl (by decide) (fun i0 j0 => ?_)
  refine wpList_nil (x_then_n (d0 _ _ ?_))
  refine wp_block ?_
  refine wsc (fun d0 i0 => ?_)
  refine r_eql sv j0 rfl rfl rfl rfl (by decide) (fun d0 b0 => ?_)
  refine asg b0 (fun d0 j0 => ?_)
  refine wpList_nil (x_then_n (i0 _ _ ?_))
  rcases Decidable.em ((n.K) = 26) with i0 | i0
  ·
   have hcn := right_con (by assumption) (by omega)
   have d0 := j0.setb (d := 9) (b := true) rfl (decide_eq_true i0)
   refine wp_cond_true (d0.ev rfl) ?_
   refine wsc (fun b0 m0 => ?_)
   refine m_field (j' := 2) sv d0 rfl rfl rfl Tryd.underlying32 rfl sz3 rfl rfl (by decide) (fun b0 n0 => ?_)
   refine m_load (i := 0) sv n0 k0 rfl rfl rfl rfl rfl Tryd.underlying3 rfl (by decide) (fun b0 d0 => ?_)
   have b0 : (n.M) = ((n.M.toNat : Nat) : Int) := by omega
   refine m_makeInts (n := n.M.toNat) sv d0 k0 rfl rfl rfl rfl b0 b0 Tryd.underlying56 zi3 (by omega) (by decide) (fun n0 o0 p0 q0 t0 => ?_)
   have o0 : (List.replicate (n.M.toNat) (0 : Int)).length = n.M.toNat := by simp
   refine asg q0 (fun o0 n0 => ?_)
   refine asg n0 (fun o0 q0 => ?_)
   refine wpList_nil (x_then_n (m0 _ _ ?_))
   refine wp_ret ?_
   refine x_block_r ?_
   refine x_then_r ?_
   refine e_ret2 q0 rfl rfl rfl rfl ?_
   have q0 : bindsR n = List.replicate (n.M.toNat) (0 : Int) := by unfold bindsR; rw [if_pos (by assumption)]; simp [binds, i0]
   rw [q0]
   have q0 := own_cap (t0.res (i := 1) rfl)
   obtain ⟨m0, o0⟩ := t0.row_data (i := 1) rfl (fun _ h => h)
   have t0 := m0.data (dRow 1 (some ⟨p0, 0, none⟩) ((List.replicate (n.M.toNat) (0 : Int) : List Int).length) ((List.replicate (n.M.toNat) (0 : Int) : List Int).length) (encIs (List.replicate (n.M.toNat) (0 : Int)))) ⟨q0, o0⟩
   refine ⟨(some ⟨p0, 0, none⟩), ((List.replicate (n.M.toNat) (0 : Int) : List Int).length), ?_, t0.fr, t0.rx 1⟩
   exact ret_t2 rfl (ret_b (by (simp [h0, i0]; done)))
  ·
   have t0 := j0.setb (d := 9) (b := false) rfl (decide_eq_false i0)
   refine wp_cond_false (t0.ev rfl) ?_
   refine wsc (fun j0 p0 => ?_)
   refine r_eql sv t0 rfl rfl rfl rfl (by decide) (fun j0 o0 => ?_)
   refine asg o0 (fun j0 t0 => ?_)
   refine wpList_nil (x_then_n (p0 _ _ ?_))
   rcases Decidable.em ((n.K) = 27) with p0 | p0
   ·
    have hel := right_elim (by assumption) (by omega)
    have j0 := t0.setb (d := 14) (b := true) rfl (decide_eq_true p0)
    refine wp_cond_true (j0.ev rfl) ?_
    refine wsc (fun o0 m0 => ?_)
    refine mbs [(0, .const (.int .i64 1))] [.int .i64 1] sv j0 k0 Tryd.underlying56 zi3 (fun o0 q0 n0 b0 d0 => ?_)
    refine m_field (j' := 2) sv b0 rfl rfl rfl Tryd.underlying32 rfl sz3 rfl rfl (by decide) (fun n0 q0 => ?_)
    refine m_load (i := 0) sv q0 d0 rfl rfl rfl rfl rfl Tryd.underlying3 rfl (by decide) (fun n0 b0 => ?_)
    refine r_add (z := (n.M + 1)) sv b0 rfl rfl rfl rfl (by decide) (by omega) (by omega) (by omega) (fun n0 q0 => ?_)
    have n0 : (n.M + 1) = ((n.M.toNat + 1 : Nat) : Int) := by omega
    refine m_appendZ (i := 1) ([1]) (n.M.toNat + 1) sv q0 d0 rfl rfl rfl rfl rfl n0 (by omega) (by simp) (by simp; omega) Tryd.underlying56 Tryd.underlying3 zi3 (by decide) (fun b0 o0 j0 u0 v0 x0 y0 => ?_)
    refine asg x0 (fun v0 o0 => ?_)
    refine asg o0 (fun v0 x0 => ?_)
    refine wpList_nil (x_then_n (m0 _ _ ?_))
    refine wp_ret ?_
    refine x_block_r ?_
    refine x_then_r ?_
    refine e_ret2 x0 rfl rfl rfl rfl ?_
    have x0 : bindsR n = ([1]) ++ List.replicate (n.M.toNat + 1) 0 := by unfold bindsR; rw [if_pos (by assumption)]; simp [binds, i0, p0]
    rw [x0]
    have x0 := own_cap (y0.res (i := 1) rfl)
    obtain ⟨m0, v0⟩ := y0.row_data (i := 1) rfl (fun _ h => h)
    have y0 := m0.data (dRow 1 j0 ((([1]) ++ List.replicate (n.M.toNat + 1) 0 : List Int).length) u0 (encIs (([1]) ++ List.replicate (n.M.toNat + 1) 0))) ⟨x0, v0⟩
    refine ⟨j0, u0, ?_, y0.fr, y0.rx 1⟩
    exact ret_t2 rfl (ret_b (by (simp [h0, i0, p0]; done)))
   ·
    have y0 := t0.setb (d := 14) (b := false) rfl (decide_eq_false p0)
    refine wp_cond_false (y0.ev rfl) ?_
    refine wp_skip ?_
    refine x_block_n ?_
    refine x_then_n (f0 _ _ ?_)
    refine wsc (fun f0 t0 => ?_)
    refine m_field (j' := 0) sv y0 rfl rfl rfl Tryd.underlying32 rfl sz3 rfl rfl (by decide) (fun f0 u0 => ?_)
    refine m_load (i := 0) sv u0 k0 rfl rfl rfl rfl rfl Tryd.underlying3 rfl (by decide) (fun f0 y0 => ?_)
    refine m_indexA (i := ((n.K)).toNat) (j := (((n.K)).toNat) * 4) sv y0 rfl rfl rfl rfl Tryd.underlying78 sz77 (by omega) (by omega) rfl (by decide) (fun f0 u0 => ?_)
    refine m_fieldE (j' := (((n.K)).toNat) * 4) sv u0 rfl rfl rfl rfl Tryd.underlying77 rfl sz56 rfl rfl (by decide) (fun f0 y0 => ?_)
    obtain ⟨f0, u0, j0, v0⟩ := shapes_at (k0.get (i := 0) rfl) (((n.K)).toNat) (by omega)
    have m0 := k0.data (dRow 1 f0 (shp (((n.K)).toNat)).b.length u0 (encIs (shp (((n.K)).toNat)).b)) j0
    refine m_loadE sv y0 rfl rfl rfl 0 ((((n.K)).toNat) * 4) v0 rfl rfl Tryd.underlying56 rfl (by decide) (fun j0 u0 => ?_)
    have j0 := m0.nf
    refine k_call (xs := [.tmp 25]) se u0 rfl rfl rfl (by decide) ok48 (cloneI_calls _ _ j0.il _ _ ((shp (((n.K)).toNat)).b) (j0.g 1) (hl := (Nat.le_trans (shp_le _) (by omega)))) ?_
    rintro u0 m0 ⟨v0, y0, rfl, f0, x0⟩
    have m0 := j0.below f0.below
    have f0 := j0.dN m0 x0
    refine ⟨_, rfl, fun m0 x0 => ?_⟩
    refine asg x0 (fun m0 j0 => ?_)
    refine asg j0 (fun m0 x0 => ?_)
    refine wpList_nil (x_then_n (t0 _ _ ?_))
    refine wp_ret ?_
    refine e_ret2 x0 rfl rfl rfl rfl ?_
    have x0 : bindsR n = ((shp (((n.K)).toNat)).b) := by unfold bindsR; rw [if_pos (by assumption)]; simp [binds, i0, p0]
    rw [x0]
    refine ⟨v0, y0, ?_, f0.fr, f0.rx 2⟩
    exact ret_t2 rfl (ret_b (by (simp [h0, i0, p0]; done)))
 ·
  have p0 := c0.setb (d := 6) (b := true) rfl (by rw [h0]; rfl)
  refine wp_cond_true (p0.ev rfl) ?_
  refine wsc (fun c0 i0 => ?_)
  refine asg p0 (fun c0 f0 => ?_)
  refine asg f0 (fun c0 p0 => ?_)
  refine wpList_nil (x_then_n (i0 _ _ ?_))
  refine wp_ret ?_
  refine x_then_r ?_
  refine e_ret2 p0 rfl rfl rfl rfl ?_
  have p0 : bindsR n = [] := by unfold bindsR; rw [if_neg (by simp [h0])]
  rw [p0]
  refine ⟨none, 0, ?_, k0.fr, ⟨Nat.le_refl _, RowI.nil _ _ _ _⟩⟩
  exact ret_t2 rfl (ret_b (by (simp [h0]; done)))
end Go.Proofs.YthdemmcfnpmmiaaDoor
/- Contracts of functions, one theorem each: what the call returns, and that nothing old is changed. Printed by gen.py. -/
namespace Go.Proofs.YthdemmcfnpmmiaaDoor
open Go Go.RowKit
set_option linter.unusedSimpArgs false
set_option linter.unusedVariables false
set_option maxRecDepth 100000 in
set_option maxHeartbeats 1000000 in
theorem vroot_calls (w0 : World) (Z : Nat → Prop) (hZ : ∀ k, Z k → k < w0.heap.size) (tA : Option Addr) (tc : Nat) (t : List Nd) (ht : (dRow 4 tA t.length tc (encNs t)).φ w0 Z) (hl : t.length ≤ 1000000 := by first | assumption | omega | (simp; done) | (simp; omega)) (h0 : 0 < t.length := by first | assumption | omega | (simp; done) | (simp; omega)) :
    Calls Tryd.prog 31 [.slice tA t.length tc].toArray w0 (fun e w' => e = .returned (.agg #[.int .i64 (((nth t (t.length - 1)).K)), .int .i64 (((nth t (t.length - 1)).N)), .int .i64 (((nth t (t.length - 1)).M)), .string ((nth t (t.length - 1)).S)]) ∧ Fr none_ w0 w') := by
 have b0 := s0 (M := none_) hZ (zc ht zn)
 refine c_enter Tryd.func31 rfl Tryd.ntmps31 rfl (fun c0 d0 => ?_)
 refine wsc (fun c0 f0 => ?_)
 refine m_alloc (cs := [.int .i64 0, .int .i64 0, .int .i64 0, .string (⟨#[]⟩ : ByteArray)]) sv d0 b0 rfl rfl ze32 rfl (by decide) (fun c0 i0 j0 k0 m0 => ?_)
 refine wpList_nil (x_then_n (f0 _ _ ?_))
 refine wsc (fun f0 j0 => ?_)
 refine mv k0 (fun f0 i0 => ?_)
 refine mv i0 (fun f0 k0 => ?_)
 refine r_len sv k0 rfl rfl rfl rfl Tryd.underlying22 (by decide) (fun f0 i0 => ?_)
 refine r_sub (z := (((t.length : Nat) : Int) - 1)) sv i0 rfl rfl rfl rfl (by decide) (by omega) (by omega) (by omega) (fun f0 k0 => ?_)
 refine m_index (i := (t.length) - (1)) (j := ((t.length) - (1)) * 4) sv k0 rfl rfl rfl rfl Tryd.underlying22 sz32 (by omega) (by omega) (nds_elem (t := t) (k := (t.length) - (1)) (m0.row (i := 0) rfl).2 (by omega)).some_ rfl (by decide) (fun f0 i0 => ?_)
 refine m_loadEN sv i0 rfl rfl rfl (nds_elem (t := t) (k := (t.length) - (1)) (m0.row (i := 0) rfl).2 (by omega)) Tryd.underlying32 rfl sz32 (by decide) (fun f0 k0 => ?_)
 refine m_store (i := 0) (cs' := [.int .i64 (((nth t ((t.length) - (1))).K)), .int .i64 (((nth t ((t.length) - (1))).N)), .int .i64 (((nth t ((t.length) - (1))).M)), .string ((nth t ((t.length) - (1))).S)]) se k0 m0 rfl rfl rfl rfl rfl sz32 rfl rfl rfl (fun f0 i0 c0 d0 => ?_)
 refine wpList_nil (x_then_n (j0 _ _ ?_))
 refine wp_ret ?_
 refine e_cell (i := 0) (vs := [.int .i64 (((nth t ((t.length) - (1))).K)), .int .i64 (((nth t ((t.length) - (1))).N)), .int .i64 (((nth t ((t.length) - (1))).M)), .string ((nth t ((t.length) - (1))).S)]) (.inl rfl) c0 d0 rfl rfl rfl rfl Tryd.underlying32 rfl sz32 ?_
 refine ⟨?_, d0.fr⟩
 exact congrArg Ending.returned rfl
set_option maxRecDepth 100000 in
set_option maxHeartbeats 1000000 in
theorem vparts_calls (w0 : World) (Z : Nat → Prop) (hZ : ∀ k, Z k → k < w0.heap.size) (tA : Option Addr) (tc : Nat) (t : List Nd) (hShp : Shapes w0 Z) (ht : (dRow 4 tA t.length tc (encNs t)).φ w0 Z) (hl : t.length ≤ 1000000 := by first | assumption | omega | (simp; done) | (simp; omega)) (hb : measB t = true := by first | assumption | omega | (simp; done) | (simp; omega)) :
    Calls Tryd.prog 33 [.slice tA t.length tc].toArray w0 (fun e w' => ∃ (rA0 : Option Addr) (rc0 : Nat) (rL0 : List Sl), e = .returned (.slice rA0 rL0.length rc0) ∧ Fr none_ w0 w' ∧ (dRow 1 rA0 rL0.length rc0 (encSs rL0)).φ w' (nxt Z w0 w') ∧ (dAll rL0).φ w' (nxt Z w0 w') ∧ lsts rL0 = ptL t) := by
 have b0 := s0 (M := none_) hZ (zc (d := dShapes) hShp (zc ht zn))
 have hp0 := meas_pos hb
 have hrt := right_at hb (show t.length - 1 < t.length by omega)
 have hm8 := many_le hrt
 have hbm := binds_many hrt
 refine c_enter Tryd.func33 rfl Tryd.ntmps33 rfl (fun c0 d0 => ?_)
 refine wsc (fun c0 f0 => ?_)
 refine asg d0 (fun c0 h0 => ?_)
 refine wpList_nil (x_then_n (f0 _ _ ?_))
 refine wsc (fun f0 c0 => ?_)
 refine mv h0 (fun f0 d0 => ?_)
 refine r_len sv d0 rfl rfl rfl rfl Tryd.underlying22 (by decide) (fun f0 h0 => ?_)
 refine r_sub (z := (((t.length : Nat) : Int) - 1)) sv h0 rfl rfl rfl rfl (by decide) (by omega) (by omega) (by omega) (fun f0 d0 => ?_)
 refine asg d0 (fun f0 h0 => ?_)
 refine wpList_nil (x_then_n (c0 _ _ ?_))
 refine wsc (fun c0 f0 => ?_)
 refine mv h0 (fun c0 d0 => ?_)
 refine mv d0 (fun c0 h0 => ?_)
 refine m_index (i := (t.length) - (1)) (j := ((t.length) - (1)) * 4) sv h0 rfl rfl rfl rfl Tryd.underlying22 sz32 (by omega) (by omega) (nds_elem (t := t) (k := (t.length) - (1)) (b0.row (i := 1) rfl).2 (by omega)).some_ rfl (by decide) (fun c0 d0 => ?_)
 refine m_loadEN sv d0 rfl rfl rfl (nds_elem (t := t) (k := (t.length) - (1)) (b0.row (i := 1) rfl).2 (by omega)) Tryd.underlying32 rfl sz32 (by decide) (fun c0 h0 => ?_)
 have c0 := b0.nf
 refine k_call (xs := [.tmp 19]) se h0 rfl rfl rfl (by decide) ok41 (binds_calls _ _ c0.il (nth t ((t.length) - (1))) (c0.g 0) (hs := (meas_sml hb _ (by omega)))) ?_
 rintro h0 b0 ⟨d0, i0, rfl, j0, k0⟩
 have b0 := c0.below j0.below
 have j0 := c0.dN b0 k0
 refine ⟨_, rfl, fun b0 k0 => ?_⟩
 refine mv k0 (fun b0 c0 => ?_)
 refine r_extract sv c0 rfl rfl rfl rfl (by decide) (fun b0 k0 => ?_)
 refine r_extract sv k0 rfl rfl rfl rfl (by decide) (fun b0 c0 => ?_)
 refine asg c0 (fun b0 k0 => ?_)
 refine asg k0 (fun b0 c0 => ?_)
 refine wpList_nil (x_then_n (f0 _ _ ?_))
 refine wsc (fun f0 b0 => ?_)
 refine mv c0 (fun f0 k0 => ?_)
 refine r_len sv k0 rfl rfl rfl rfl Tryd.underlying56 (by decide) (fun f0 c0 => ?_)
 have f0 : (((bindsR (nth t ((t.length) - (1)))).length : Nat) : Int) = (((bindsR (nth t ((t.length) - (1)))).length : Nat) : Int) := by omega
 refine m_makeSs (n := (bindsR (nth t ((t.length) - (1)))).length) sv c0 j0 rfl rfl rfl rfl f0 f0 Tryd.underlying39 zi22 (by decide) (by omega) (by decide) (fun k0 h0 m0 n0 o0 => ?_)
 have h0 : (List.replicate ((bindsR (nth t ((t.length) - (1)))).length) slz).length = (bindsR (nth t ((t.length) - (1)))).length := by simp
 have h0 := o0.data (dAll (List.replicate ((bindsR (nth t ((t.length) - (1)))).length) slz)) (all_rep _)
 refine asg n0 (fun o0 k0 => ?_)
 refine wpList_nil (x_then_n (b0 _ _ ?_))
 refine wp_seq_k (fun b0 o0 => ?_)
 refine wsc (fun b0 n0 => ?_)
 refine mv k0 (fun b0 f0 => ?_)
 refine r_len sv f0 rfl rfl rfl rfl Tryd.underlying56 (by decide) (fun b0 k0 => ?_)
 refine r_sub (z := ((((bindsR (nth t ((t.length) - (1)))).length : Nat) : Int) - 1)) sv k0 rfl rfl rfl rfl (by decide) (by omega) (by omega) (by omega) (fun b0 f0 => ?_)
 refine asg f0 (fun b0 k0 => ?_)
 refine wpList_nil (x_then_n (n0 _ _ ?_))
 refine wp_block ?_
 refine wp_loop_ghost (fun gn ga gw => ∃ k : Nat, ∃ Lr : List Sl, ∃ Ao : Option Addr, ∃ co : Nat, (Reg ga 61 [(1000000, .bool false), (0, .slice tA t.length tc), (2, .slice none 0 0), (7, .int .i64 (((many (nth t (t.length - 1)) : Nat) : Int) - ((k : Nat) : Int) - 1)), (3, .int .i64 ((posL t (t.length - 1) k : Nat) : Int)), (6, .slice Ao ((Lr).length) co)]) ∧ (St w0 Z none_ gw [.row Ao ((Lr).length) co 22 1 (encSs Lr)] [dShapes, dRow 4 tA t.length tc (encNs t), dRow 1 d0 ((bindsR (nth t ((t.length) - (1)))).length) i0 (encIs (bindsR (nth t ((t.length) - (1))))), dAll Lr]) ∧ (k ≤ many (nth t (t.length - 1))) ∧ (Lr.length = many (nth t (t.length - 1))) ∧ (lsts (Lr.drop (many (nth t (t.length - 1)) - k)) = ptD t k) ∧ (many (nth t (t.length - 1)) - k) = gn) _ ⟨0, List.replicate ((bindsR (nth t ((t.length) - (1)))).length) slz, (some ⟨m0, 0, none⟩), ((List.replicate ((bindsR (nth t ((t.length) - (1)))).length) slz).length), (k0.sub (rc rfl (rc rfl (rc rfl (rc (ri rfl (by omega)) (rc (ri rfl (by rw [posL_zero hb (by omega)]; omega)) (rc rfl rnl))))))), h0, by omega, by rw [List.length_replicate]; exact hbm, by rw [Nat.sub_zero, List.drop_eq_nil_of_le (by rw [List.length_replicate]; omega), ptD_zero]; rfl, rfl⟩ ?_
 rintro k0 h0 m0 ⟨k, Lr, Ao, co, n0, b0, hk, hLn, hL, f0⟩
 refine wp_seq_k (fun f0 m0 => ?_)
 refine wsc (fun f0 h0 => ?_)
 refine mv n0 (fun f0 k0 => ?_)
 refine r_geq sv k0 rfl rfl rfl rfl (by decide) (fun f0 n0 => ?_)
 refine wpList_nil (x_then_n (h0 _ _ ?_))
 rcases Decidable.em (0 ≤ (((many (nth t (t.length - 1)) : Nat) : Int) - ((k : Nat) : Int) - 1)) with h0 | h0
 ·
  obtain ⟨f0, k0, c0, j0⟩ := posL_step hb (show t.length - 1 < t.length by omega) (show k < many (nth t (t.length - 1)) by omega)
  have j0 := n0.setb (d := 30) (b := true) rfl (decide_eq_true h0)
  refine wp_cond_true (j0.ev rfl) ?_
  refine wp_skip ?_
  refine x_then_n (m0 _ _ ?_)
  refine wp_seq_k (fun m0 c0 => ?_)
  refine wp_block ?_
  refine wsc (fun m0 k0 => ?_)
  refine mv j0 (fun m0 f0 => ?_)
  refine asg f0 (fun m0 j0 => ?_)
  refine wpList_nil (x_then_n (k0 _ _ ?_))
  refine wp_seq_k (fun k0 m0 => ?_)
  refine wsc (fun k0 f0 => ?_)
  refine asg j0 (fun k0 p0 => ?_)
  refine wpList_nil (x_then_n (f0 _ _ ?_))
  refine wp_block ?_
  refine wp_loop_ghost (fun gn ga gw => ∃ a : Nat, ∃ r : Nat, (Reg ga 61 [(1000000, .bool false), (0, .slice tA t.length tc), (2, .slice none 0 0), (7, .int .i64 (((many (nth t (t.length - 1)) : Nat) : Int) - ((k : Nat) : Int) - 1)), (3, .int .i64 ((posL t (t.length - 1) k : Nat) : Int)), (6, .slice Ao ((Lr).length) co), (8, .int .i64 ((a : Nat) : Int)), (9, .int .i64 ((r : Nat) : Int))]) ∧ (St w0 Z none_ gw [.row Ao ((Lr).length) co 22 1 (encSs Lr)] [dShapes, dRow 4 tA t.length tc (encNs t), dRow 1 d0 ((bindsR (nth t ((t.length) - (1)))).length) i0 (encIs (bindsR (nth t ((t.length) - (1))))), dAll Lr]) ∧ (a ≤ posL t (t.length - 1) k) ∧ (psI t a r (posL t (t.length - 1) (k + 1))) ∧ (a) = gn) _ ⟨posL t (t.length - 1) k, 1, (p0.sub (rc rfl (rc rfl (rc rfl (rc rfl (rc rfl (rc rfl (rc rfl (rc rfl rnl))))))))), b0, by omega, psI_start hb (by omega), rfl⟩ ?_
  rintro p0 i0 d0 ⟨a, r, f0, k0, ha, hps, j0⟩
  have hal := psI_len (by omega) hps
  refine wp_seq_k (fun j0 d0 => ?_)
  refine wsc (fun j0 i0 => ?_)
  refine mv f0 (fun j0 p0 => ?_)
  refine r_gtr sv p0 rfl rfl rfl rfl (by decide) (fun j0 f0 => ?_)
  refine wpList_nil (x_then_n (i0 _ _ ?_))
  rcases Decidable.em (0 < ((r : Nat) : Int)) with i0 | i0
  ·
   obtain ⟨hz1, hz2, hz3⟩ := psI_step hb (by omega) (by omega) hps
   have hbz := binds_many hz2
   have hmz := many_le hz2
   have j0 := f0.setb (d := 35) (b := true) rfl (decide_eq_true i0)
   refine wp_cond_true (j0.ev rfl) ?_
   refine wp_skip ?_
   refine x_then_n (d0 _ _ ?_)
   refine wp_seq_k (fun d0 p0 => ?_)
   refine wp_block ?_
   refine wsc (fun d0 q0 => ?_)
   refine mv j0 (fun d0 t0 => ?_)
   refine r_sub (z := (((a : Nat) : Int) - 1)) sv t0 rfl rfl rfl rfl (by decide) (by omega) (by omega) (by omega) (fun d0 j0 => ?_)
   refine asg j0 (fun d0 t0 => ?_)
   refine wpList_nil (x_then_n (q0 _ _ ?_))
   refine wsc (fun q0 d0 => ?_)
   refine mv t0 (fun q0 j0 => ?_)
   refine mv j0 (fun q0 t0 => ?_)
   refine m_index (i := (a) - (1)) (j := ((a) - (1)) * 4) sv t0 rfl rfl rfl rfl Tryd.underlying22 sz32 (by omega) (by omega) (nds_elem (t := t) (k := (a) - (1)) (k0.row (i := 1) rfl).2 (by omega)).some_ rfl (by decide) (fun q0 j0 => ?_)
   refine m_loadEN sv j0 rfl rfl rfl (nds_elem (t := t) (k := (a) - (1)) (k0.row (i := 1) rfl).2 (by omega)) Tryd.underlying32 rfl sz32 (by decide) (fun q0 t0 => ?_)
   have q0 := k0.nf
   refine k_call (xs := [.tmp 44]) se t0 rfl rfl rfl (by decide) ok41 (binds_calls _ _ q0.il (nth t ((a) - (1))) (q0.g 0) (hs := (meas_sml hb _ (by omega)))) ?_
   rintro t0 j0 ⟨u0, v0, rfl, x0, y0⟩
   have v0 := q0.below x0.below
   have x0 := q0.dN v0 y0
   refine ⟨_, rfl, fun v0 y0 => ?_⟩
   refine mv y0 (fun v0 q0 => ?_)
   refine r_extract sv q0 rfl rfl rfl rfl (by decide) (fun v0 y0 => ?_)
   refine r_extract sv y0 rfl rfl rfl rfl (by decide) (fun v0 q0 => ?_)
   refine asg q0 (fun v0 y0 => ?_)
   refine asg y0 (fun v0 q0 => ?_)
   refine wpList_nil (x_then_n (d0 _ _ (c_region ?_)))
   refine mv q0 (fun d0 v0 => ?_)
   refine mv v0 (fun d0 q0 => ?_)
   refine r_len sv q0 rfl rfl rfl rfl Tryd.underlying56 (by decide) (fun d0 v0 => ?_)
   refine r_add (z := ((r + (bindsR (nth t ((a) - (1)))).length : Nat) : Int)) sv v0 rfl rfl rfl rfl (by decide) (by omega) (by omega) (by omega) (fun d0 q0 => ?_)
   refine asg q0 (fun d0 v0 => ?_)
   refine wpList_nil ?_
   refine x_block_n ?_
   refine x_then_n (p0 _ _ ?_)
   refine c_region ?_
   refine mv v0 (fun p0 d0 => ?_)
   refine r_sub (z := (((r : Nat) : Int) + (((bindsR (nth t ((a) - (1)))).length : Nat) : Int) - 1)) sv d0 rfl rfl rfl rfl (by decide) (by omega) (by omega) (by omega) (fun p0 v0 => ?_)
   refine asg v0 (fun p0 d0 => ?_)
   refine wpList_nil ?_
   have p0 := x0.forget 4
   exact ⟨_, by omega, a - 1, r - 1 + many (nth t (a - 1)), (d0.sub (rc rfl (rc rfl (rc rfl (rc rfl (rc rfl (rc rfl (rc (ri rfl (by omega)) (rc (ri rfl (by omega)) rnl))))))))), p0, by omega, hz3, rfl⟩
  ·
   have hpe := psI_end (by omega) (show psI t a 0 _ from (show r = 0 by omega) ▸ hps)
   have p0 := f0.setb (d := 35) (b := false) rfl (decide_eq_false i0)
   refine wp_cond_false (p0.ev rfl) ?_
   refine wp_exit ?_
   refine x_then_e ?_
   refine x_then_e ?_
   refine x_block_eq ?_
   refine x_then_n (m0 _ _ ?_)
   refine wsc (fun m0 i0 => ?_)
   refine mv p0 (fun m0 f0 => ?_)
   refine mv f0 (fun m0 p0 => ?_)
   refine mv p0 (fun m0 f0 => ?_)
   refine mv f0 (fun m0 p0 => ?_)
   refine mv p0 (fun m0 f0 => ?_)
   refine m_sliceD (f := encN) (lo := some (.tmp 55)) (hi := some (.tmp 56)) (vlo := (some (.int .i64 ((a : Nat) : Int)))) (vhi := (some (.int .i64 ((posL t (t.length - 1) k : Nat) : Int)))) (kd := .i64) (kd' := .i64) sv f0 rfl rfl rfl rfl rfl (a) ((posL t (t.length - 1) k) - (a)) (.inl (by first | rfl | (congr 2; omega))) (.inl (by congr 2; omega)) (((t).drop (a)).take ((posL t (t.length - 1) k) - (a))) rfl encN_len (k0.row (i := 1) rfl) Tryd.underlying22 sz32 (by omega) (by decide) (fun m0 p0 d0 x0 v0 => ?_)
   have m0 : (((t).drop (a)).take ((posL t (t.length - 1) k) - (a))).length = (posL t (t.length - 1) k) - (a) := by first | (simp only [List.length_drop, List.length_take]; done) | (simp only [List.length_drop, List.length_take]; omega)
   have m0 := k0.data (dRow 4 p0 ((((t).drop (a)).take ((posL t (t.length - 1) k) - (a))).length) d0 (encNs (((t).drop (a)).take ((posL t (t.length - 1) k) - (a))))) x0
   refine m_index (i := (many (nth t (t.length - 1))) - (k + 1)) (j := ((many (nth t (t.length - 1))) - (k + 1)) * 1) sv v0 rfl rfl rfl rfl Tryd.underlying39 sz22 (by omega) (by omega) (own_ss (t := Lr) (k := (many (nth t (t.length - 1))) - (k + 1)) (m0.res (i := 0) rfl) (by omega)).some_ rfl (by decide) (fun x0 k0 => ?_)
   refine m_storeE (f := encS) (i := 0) (k := (many (nth t (t.length - 1))) - (k + 1)) (L := Lr) (z := ((p0, d0, ((t).drop (a)).take ((posL t (t.length - 1) k) - (a))) : Sl)) se k0 m0 rfl rfl rfl rfl rfl rfl (by omega) encS_len (one1 (f := encS) encS_one) rfl sz22 (fun x0 v0 f0 q0 => ?_)
   have v0 : (Lr.set ((many (nth t (t.length - 1))) - (k + 1)) ((p0, d0, ((t).drop (a)).take ((posL t (t.length - 1) k) - (a))) : Sl)).length = (Lr).length := by simp
   have v0 := q0.data (dAll (Lr.set ((many (nth t (t.length - 1))) - (k + 1)) ((p0, d0, ((t).drop (a)).take ((posL t (t.length - 1) k) - (a))) : Sl))) (all_set (k := (many (nth t (t.length - 1))) - (k + 1)) (z := ((p0, d0, ((t).drop (a)).take ((posL t (t.length - 1) k) - (a))) : Sl)) (q0.get (i := 3) rfl) (q0.get (i := 4) rfl))
   refine wpList_nil (x_then_n (i0 _ _ (c_region ?_)))
   refine mv f0 (fun i0 q0 => ?_)
   refine asg q0 (fun i0 f0 => ?_)
   refine wpList_nil ?_
   refine x_block_n ?_
   refine x_then_n (c0 _ _ ?_)
   refine c_region ?_
   refine mv f0 (fun c0 i0 => ?_)
   refine r_sub (z := (((many (nth t (t.length - 1)) : Nat) : Int) - ((k : Nat) : Int) - 2)) sv i0 rfl rfl rfl rfl (by decide) (by omega) (by omega) (by omega) (fun c0 f0 => ?_)
   refine asg f0 (fun c0 i0 => ?_)
   refine wpList_nil ?_
   have c0 := v0.forget 4
   have v0 := c0.forget 3
   exact ⟨_, by omega, k + 1, Lr.set ((many (nth t (t.length - 1))) - (k + 1)) ((p0, d0, ((t).drop (a)).take ((posL t (t.length - 1) k) - (a))) : Sl), Ao, co, (i0.sub (rc rfl (rc rfl (rc rfl (rc (ri rfl (by omega)) (rc (ri rfl (by omega)) (rc (rs rfl (by rw [List.length_set])) rnl))))))), v0, by omega, by rw [List.length_set]; exact hLn, fill_step hb (by omega) hLn hL (by omega) hpe (by omega), rfl⟩
 ·
  have v0 := n0.setb (d := 30) (b := false) rfl (decide_eq_false h0)
  refine wp_cond_false (v0.ev rfl) ?_
  refine wp_exit ?_
  refine x_then_e ?_
  refine x_then_e ?_
  refine x_block_eq ?_
  refine x_then_n (o0 _ _ ?_)
  refine wsc (fun o0 h0 => ?_)
  refine mv v0 (fun o0 n0 => ?_)
  refine asg n0 (fun o0 v0 => ?_)
  refine wpList_nil (x_then_n (h0 _ _ ?_))
  refine wp_ret ?_
  refine e_ret1 v0 rfl rfl rfl ?_
  have v0 := own_cap (b0.res (i := 0) rfl)
  obtain ⟨h0, o0⟩ := b0.row_data (i := 0) rfl (fun _ h => h)
  have b0 := h0.data (dRow 1 Ao ((Lr).length) co (encSs Lr)) ⟨v0, o0⟩
  refine ⟨Ao, co, Lr, ?_, b0.fr, b0.rx 4, b0.rx 3, (by have hkm : k = many (nth t (t.length - 1)) := (by omega); have hq := hL; rw [hkm, Nat.sub_self, List.drop_zero] at hq; rw [hq, ptD_all hb])⟩
  exact congrArg Ending.returned (ret_s (by first | rfl | (simp; done)))
set_option maxRecDepth 100000 in
set_option maxHeartbeats 1000000 in
theorem vwith_calls (w0 : World) (Z : Nat → Prop) (hZ : ∀ k, Z k → k < w0.heap.size) (kk : Int) (pA : Option Addr) (pc : Nat) (p : List Sl) (hp : (dRow 1 pA p.length pc (encSs p)).φ w0 Z) (hps : (dAll p).φ w0 Z) (hl : p.length ≤ 10 := by first | assumption | omega | (simp; done) | (simp; omega)) (hb : (lsts p).flatten.length ≤ 50000000 := by first | assumption | omega | (simp; done) | (simp; omega)) :
    Calls Tryd.prog 35 [.int .i64 kk, .slice pA p.length pc].toArray w0 (fun e w' => ∃ (rA0 : Option Addr) (rc0 : Nat) (rL0 : List Nd), e = .returned (.slice rA0 rL0.length rc0) ∧ Fr none_ w0 w' ∧ (dRow 4 rA0 rL0.length rc0 (encNs rL0)).φ w' (nxt Z w0 w') ∧ rL0 = (lsts p).flatten ++ [cN kk]) := by
 have b0 := s0 (M := none_) hZ (zc hp (zc hps zn))
 refine c_enter Tryd.func35 rfl Tryd.ntmps35 rfl (fun c0 d0 => ?_)
 refine wsc (fun c0 f0 => ?_)
 refine asg d0 (fun c0 h0 => ?_)
 refine wpList_nil (x_then_n (f0 _ _ ?_))
 refine wsc (fun f0 c0 => ?_)
 refine asg h0 (fun f0 d0 => ?_)
 refine wpList_nil (x_then_n (c0 _ _ ?_))
 refine wp_seq_k (fun c0 f0 => ?_)
 refine wsc (fun c0 h0 => ?_)
 refine mv d0 (fun c0 i0 => ?_)
 refine r_len sv i0 rfl rfl rfl rfl Tryd.underlying39 (by decide) (fun c0 d0 => ?_)
 refine mv d0 (fun c0 i0 => ?_)
 refine wpList_nil (x_then_n (h0 _ _ ?_))
 refine wp_block ?_
 have h0 := b0.nilrow 32 4
 refine wp_loop_ghost (fun gn ga gw => ∃ k : Nat, ∃ Ao : Option Addr, ∃ co : Nat, (Reg ga 23 [(1000000, .bool false), (0, .int .i64 (kk)), (4, .slice none 0 0), (8, .slice pA p.length pc), (9, .int .i64 ((p.length : Nat) : Int)), (10, .int .i64 ((k : Nat) : Int)), (5, .slice Ao (((lsts (p.take k)).flatten).length) co)]) ∧ (St w0 Z none_ gw [.row Ao (((lsts (p.take k)).flatten).length) co 32 4 (encNs ((lsts (p.take k)).flatten))] [dRow 1 pA p.length pc (encSs p), dAll p]) ∧ (k ≤ p.length) ∧ (p.length - k) = gn) _ ⟨0, none, 0, (i0.sub (rc rfl (rc rfl (rc rfl (rc rfl (rc rfl (rc rfl (rc rfl rnl)))))))), h0, by omega, rfl⟩ ?_
 rintro h0 i0 b0 ⟨k, Ao, co, c0, d0, hk, j0⟩
 have hfl := flat_total p k
 refine wsc (fun j0 b0 => ?_)
 refine r_lss sv c0 rfl rfl rfl rfl (by decide) (fun j0 i0 => ?_)
 refine wpList_nil (x_then_n (b0 _ _ ?_))
 refine wp_seq_k (fun b0 j0 => ?_)
 rcases Decidable.em (((k : Nat) : Int) < ((p.length : Nat) : Int)) with b0 | b0
 ·
  have hfl2 := flat_total p (k + 1)
  rw [flat_step (by omega), List.length_append] at hfl2
  have c0 := i0.setb (d := 11) (b := true) rfl (decide_eq_true b0)
  refine wp_cond_true (c0.ev rfl) ?_
  refine wp_skip ?_
  refine x_then_n (j0 _ _ ?_)
  refine wp_seq_k (fun j0 h0 => ?_)
  refine wp_block ?_
  refine wsc (fun j0 k0 => ?_)
  refine m_index (i := k) (j := k * 1) sv c0 rfl rfl rfl rfl Tryd.underlying39 sz22 (by omega) (by omega) (ss_elem (t := p) (k := k) (d0.row (i := 0) rfl).2 (by omega)).some_ rfl (by decide) (fun j0 m0 => ?_)
  refine m_loadE sv m0 rfl rfl rfl 0 (k * 1) (ss_elem (t := p) (k := k) (d0.row (i := 0) rfl).2 (by omega)) rfl rfl Tryd.underlying22 rfl (by decide) (fun j0 c0 => ?_)
  have j0 := d0.data (dRow 4 ((nthS p k).1) ((nthS p k).2.2.length) ((nthS p k).2.1) (encNs ((nthS p k).2.2))) (all_at (t := p) (k := k) (d0.get (i := 1) rfl) (by omega))
  refine asg c0 (fun m0 n0 => ?_)
  refine wpList_nil (x_then_n (k0 _ _ (c_region ?_)))
  refine mv n0 (fun k0 m0 => ?_)
  refine mv m0 (fun k0 n0 => ?_)
  refine m_appendF (f := encN) (i := 0) ((lsts (p.take k)).flatten) ((nthS p k).2.2) sv n0 j0 rfl rfl rfl rfl rfl encN_len (encN_one _) Tryd.underlying22 zi32 rfl rfl (j0.row (i := 2) rfl).2.news rfl (by first | omega | (simp only [List.length_cons, List.length_nil]; omega)) (by decide) (fun k0 m0 c0 o0 p0 q0 t0 => ?_)
  have p0 : (((lsts (p.take k)).flatten) ++ ((nthS p k).2.2)).length = ((lsts (p.take k)).flatten).length + (nthS p k).2.2.length := by first | (simp only [List.length_append, List.length_take, List.length_cons, List.length_nil]; done) | (simp only [List.length_append, List.length_take, List.length_cons, List.length_nil]; omega)
  refine asg q0 (fun p0 m0 => ?_)
  refine wpList_nil ?_
  refine x_block_n ?_
  refine x_then_n (h0 _ _ ?_)
  refine c_region ?_
  refine r_add (z := ((k + 1 : Nat) : Int)) sv m0 rfl rfl rfl rfl (by decide) (by omega) (by omega) (by omega) (fun h0 p0 => ?_)
  refine mv p0 (fun h0 m0 => ?_)
  refine wpList_nil ?_
  have h0 : ((lsts (p.take k)).flatten) ++ ((nthS p k).2.2) = (lsts (p.take (k + 1))).flatten := (flat_step (by omega)).symm
  have p0 := m0
  have m0 := t0
  rw [h0] at p0 m0
  have h0 := m0.forget 2
  exact ⟨_, by omega, k + 1, c0, o0, (p0.sub (rc rfl (rc rfl (rc rfl (rc rfl (rc rfl (rc rfl (rc rfl rnl)))))))), h0, by omega, rfl⟩
 ·
  have h0 := i0.setb (d := 11) (b := false) rfl (decide_eq_false b0)
  refine wp_cond_false (h0.ev rfl) ?_
  refine wp_exit ?_
  refine x_then_e ?_
  refine x_then_e ?_
  refine x_block_eq ?_
  refine x_then_n (f0 _ _ ?_)
  refine wsc (fun f0 b0 => ?_)
  refine mv h0 (fun f0 i0 => ?_)
  refine mv i0 (fun f0 h0 => ?_)
  refine m_build (ps := [(0, .tmp 19)]) (v := .agg #[.int .i64 (kk), .int .i64 0, .int .i64 0, .string (⟨#[]⟩ : ByteArray)]) sv h0 rfl rfl rfl (fun _ => by kernel_rfl) (by decide) (fun f0 i0 => ?_)
  refine mbs [(0, .tmp 20)] [.int .i64 (kk), .int .i64 0, .int .i64 0, .string (⟨#[]⟩ : ByteArray)] sv i0 d0 Tryd.underlying22 zi32 (fun f0 h0 p0 o0 c0 => ?_)
  refine m_appendF (f := encN) (i := 0) ((lsts (p.take k)).flatten) ([(⟨(kk), 0, 0, (⟨#[]⟩ : ByteArray)⟩ : Nd)]) sv o0 c0 rfl rfl rfl rfl rfl encN_len (encN_one _) Tryd.underlying22 zi32 rfl rfl (own_lnews (f := encN) (c0.res (i := 1) rfl)) rfl (by first | omega | (simp only [List.length_cons, List.length_nil]; omega)) (by decide) (fun p0 h0 f0 i0 d0 m0 t0 => ?_)
  have d0 : (((lsts (p.take k)).flatten) ++ ([(⟨(kk), 0, 0, (⟨#[]⟩ : ByteArray)⟩ : Nd)]) : List Nd).length = ((lsts (p.take k)).flatten).length + 1 := by first | (simp only [List.length_append, List.length_take, List.length_cons, List.length_nil]; done) | (simp only [List.length_append, List.length_take, List.length_cons, List.length_nil]; omega)
  have d0 := t0.erase 1
  refine asg m0 (fun t0 h0 => ?_)
  refine wpList_nil (x_then_n (b0 _ _ ?_))
  refine wp_ret ?_
  refine e_ret1 h0 rfl rfl rfl ?_
  have h0 := own_cap (d0.res (i := 0) rfl)
  obtain ⟨b0, t0⟩ := d0.row_data (i := 0) rfl (fun _ h => h)
  have d0 := b0.data (dRow 4 f0 ((((lsts (p.take k)).flatten) ++ ([(⟨(kk), 0, 0, (⟨#[]⟩ : ByteArray)⟩ : Nd)]) : List Nd).length) i0 (encNs (((lsts (p.take k)).flatten) ++ ([(⟨(kk), 0, 0, (⟨#[]⟩ : ByteArray)⟩ : Nd)])))) ⟨h0, t0⟩
  refine ⟨f0, i0, (((lsts (p.take k)).flatten) ++ ([(⟨(kk), 0, 0, (⟨#[]⟩ : ByteArray)⟩ : Nd)])), ?_, d0.fr, d0.rx 2, (by rw [List.take_of_length_le (by omega)]; rfl)⟩
  exact congrArg Ending.returned (ret_s (by first | rfl | (simp; done)))
end Go.Proofs.YthdemmcfnpmmiaaDoor
/- Contracts of functions, one theorem each: what the call returns, and that nothing old is changed. Printed by gen.py. -/
namespace Go.Proofs.YthdemmcfnpmmiaaDoor
open Go Go.RowKit
set_option linter.unusedSimpArgs false
set_option linter.unusedVariables false
set_option maxRecDepth 100000 in
set_option maxHeartbeats 1000000 in
theorem vfree_calls (w0 : World) (Z : Nat → Prop) (hZ : ∀ k, Z k → k < w0.heap.size) (ai : Nat) (un : Int) (ug cp cg cb : Nat) (ce : Int) (uA : Option Addr) (ul uc : Nat) (u : List Nd) (hc : (Res.box cg 55 [.map (some cb), .int .i64 (ce)]).holds w0) (hcz : ¬ Z cg) (hu : (Res.row uA (u).length uc 32 4 (encNs (u))).holds w0) (huz : ∀ k, rM uA k → ¬ Z k) (hcu : ∀ k, rM uA k → k ≠ cg) (hub : (dBox ug [.slice uA ul uc]).φ w0 Z) (hcb : (dBox cp [.pointer (some ⟨cg, 0, none⟩)]).φ w0 Z) (hul : u.length = ul) (hat : ai < u.length) (hn1 : -1000000 ≤ (nth u ai).N) (hn2 : (nth u ai).N ≤ 1000000) :
    Calls Tryd.prog 49 [.int .i64 ((ai : Nat) : Int), .int .i64 un, .pointer (some ⟨ug, 0, none⟩), .pointer (some ⟨cp, 0, none⟩)].toArray w0 (fun e w' => e = .returned (.tuple #[]) ∧ Fr (M2 uA cg) w0 w' ∧ (Res.box cg 55 [.map (some cb), .int .i64 (if (nth (u) ai).K = 0 ∧ un ≤ (nth (u) ai).N ∧ 99 ≤ (nth (u) ai).N then 2 else ce)]).holds w' ∧ (Res.row uA (u.set ai (icN un (nth u ai))).length uc 32 4 (encNs (u.set ai (icN un (nth u ai))))).holds w') := by
 have hstart : ∀ k, Z k → imm Z w0 [.box cg 55 [.map (some cb), .int .i64 (ce)], .row uA ((u).length) uc 32 4 (encNs u)] w0 k ∧ w0.heap[k]? = w0.heap[k]? := fun k hk => imm_start2 hZ hcz huz hk
 have b0 : St w0 Z (M2 uA cg) w0 [.box cg 55 [.map (some cb), .int .i64 (ce)], .row uA ((u).length) uc 32 4 (encNs u)] [dBox ug [.slice uA ul uc], dBox cp [.pointer (some ⟨cg, 0, none⟩)]] := St.start2 hc hu hcu (by
  intro d hd
  simp only [List.mem_cons, List.not_mem_nil, or_false] at hd
  rcases hd with rfl | rfl
  · exact Dat.mono _ _ _ _ _ (Nat.le_refl _) hub hstart
  · exact Dat.mono _ _ _ _ _ (Nat.le_refl _) hcb hstart
  )
 refine c_enter Tryd.func49 rfl Tryd.ntmps49 rfl (fun c0 d0 => ?_)
 refine wsc (fun c0 f0 => ?_)
 refine m_loadC sv d0 rfl rfl rfl (dbox_cell (b0.get (i := 0) rfl) rfl) Tryd.underlying22 rfl (by decide) (fun c0 h0 => ?_)
 refine mv h0 (fun c0 d0 => ?_)
 refine m_index (i := ai) (j := ai * 4) sv d0 rfl rfl rfl rfl Tryd.underlying22 sz32 (by omega) (by omega) (own_nds (t := u) (k := ai) (b0.res (i := 1) rfl) (by omega)).some_ rfl (by decide) (fun c0 h0 => ?_)
 refine asg h0 (fun c0 d0 => ?_)
 refine wpList_nil (x_then_n (f0 _ _ ?_))
 refine wsc (fun f0 c0 => ?_)
 refine mv d0 (fun f0 h0 => ?_)
 refine r_nilCheckE sv h0 rfl rfl rfl (own_nds (t := u) (k := ai) (b0.res (i := 1) rfl) (by omega)).some_ (by decide) (fun f0 d0 => ?_)
 refine m_fieldE (j' := ai * 4) sv d0 rfl rfl rfl (own_nds (t := u) (k := ai) (b0.res (i := 1) rfl) (by omega)).some_ Tryd.underlying32 rfl sz3 rfl rfl (by decide) (fun f0 h0 => ?_)
 refine m_loadE sv h0 rfl rfl rfl 0 (ai * 4) (own_nds (t := u) (k := ai) (b0.res (i := 1) rfl) (by omega)) rfl rfl Tryd.underlying3 rfl (by decide) (fun f0 d0 => ?_)
 refine r_eql sv d0 rfl rfl rfl rfl (by decide) (fun f0 h0 => ?_)
 refine mv h0 (fun f0 d0 => ?_)
 refine l_join (fun ga gw => Reg ga 38 [(3, .pointer (some ⟨cp, 0, none⟩)), (6, .pointer (eP uA (ai * 4))), (22, .bool ((decide ((((nth u ai).K)) = 0)) && (decide ((un) ≤ (((nth u ai).N)))))), (1000000, .bool false)] ∧ St w0 Z (M2 uA cg) gw [.box cg 55 [.map (some cb), .int .i64 (ce)], .row uA ((u).length) uc 32 4 (encNs u)] [dBox ug [.slice uA ul uc], dBox cp [.pointer (some ⟨cg, 0, none⟩)]]) 7 ?_ ?_
 ·
  rcases Decidable.em ((((nth u ai).K)) = 0) with f0 | f0
  ·
   have h0 := d0.setb (d := 15) (b := true) rfl (decide_eq_true f0)
   refine r_move (st_listV_w (wt h0)) h0 rfl rfl rfl (by decide) (fun i0 j0 => ?_)
   refine r_nilCheckE (st_listV_w (wt j0)) j0 rfl rfl rfl (own_nds (t := u) (k := ai) (b0.res (i := 1) rfl) (by omega)).some_ (by decide) (fun i0 h0 => ?_)
   refine m_fieldE (j' := ai * 4 + 1) (st_listV_w (wt h0)) h0 rfl rfl rfl (own_nds (t := u) (k := ai) (b0.res (i := 1) rfl) (by omega)).some_ Tryd.underlying32 rfl sz3 rfl rfl (by decide) (fun i0 j0 => ?_)
   refine m_loadE (st_listV_w (wt j0)) j0 rfl rfl rfl 1 (ai * 4) (own_nds (t := u) (k := ai) (b0.res (i := 1) rfl) (by omega)) rfl rfl Tryd.underlying3 rfl (by decide) (fun i0 h0 => ?_)
   refine r_move (st_listV_w (wt h0)) h0 rfl rfl rfl (by decide) (fun i0 j0 => ?_)
   refine r_geq (st_listV_w (wt j0)) j0 rfl rfl rfl rfl (by decide) (fun i0 h0 => ?_)
   refine r_pick_t sv h0 rfl rfl rfl rfl (by decide) (fun i0 j0 => ?_)
   refine wpList_nil ?_
   exact x_then_n ⟨(j0.sub (rc rfl (rc rfl (rc (rb rfl (by first | rfl | (simp only [decide_eq_true f0, if_pos f0, bl]; done) | (simp [f0]; done) | (simp [f0]; omega))) (rc rfl rnl))))), b0⟩
  ·
   have j0 := d0.setb (d := 15) (b := false) rfl (decide_eq_false f0)
   refine sps j0 (wff j0) (fun d0 i0 => ?_)
   refine sps i0 (wff i0) (fun d0 j0 => ?_)
   refine sps j0 (wff j0) (fun d0 i0 => ?_)
   refine sps i0 (wff i0) (fun d0 j0 => ?_)
   refine sps j0 (wff j0) (fun d0 i0 => ?_)
   refine sps i0 (wff i0) (fun d0 j0 => ?_)
   refine r_pick_f sv j0 rfl rfl rfl rfl (by decide) (fun d0 i0 => ?_)
   refine wpList_nil ?_
   exact x_then_n ⟨(i0.sub (rc rfl (rc rfl (rc (rb rfl (by first | rfl | (simp only [decide_eq_false f0, if_neg f0, bl]; done) | (simp [f0]; done) | (simp [f0]; omega))) (rc rfl rnl))))), b0⟩
 rintro i0 f0 ⟨b0, d0⟩
 refine wpList_nil (x_then_n (c0 _ _ ?_))
 rcases Bool.eq_false_or_eq_true (((decide ((((nth u ai).K)) = 0)) && (decide ((un) ≤ (((nth u ai).N)))))) with c0 | c0
 ·
  have f0 := and_tl c0
  have i0 := of_decide_eq_true f0
  have i0 := and_tr c0
  have f0 := of_decide_eq_true i0
  have f0 := b0.setb (d := 22) (b := true) rfl c0
  refine wp_cond_true (f0.ev rfl) ?_
  refine wsc (fun i0 j0 => ?_)
  refine mv f0 (fun i0 h0 => ?_)
  refine r_nilCheckE sv h0 rfl rfl rfl (own_nds (t := u) (k := ai) (d0.res (i := 1) rfl) (by omega)).some_ (by decide) (fun i0 f0 => ?_)
  refine m_fieldE (j' := ai * 4 + 1) sv f0 rfl rfl rfl (own_nds (t := u) (k := ai) (d0.res (i := 1) rfl) (by omega)).some_ Tryd.underlying32 rfl sz3 rfl rfl (by decide) (fun i0 h0 => ?_)
  refine m_loadE sv h0 rfl rfl rfl 1 (ai * 4) (own_nds (t := u) (k := ai) (d0.res (i := 1) rfl) (by omega)) rfl rfl Tryd.underlying3 rfl (by decide) (fun i0 f0 => ?_)
  refine r_add (z := (((nth u ai).N) + 1)) sv f0 rfl rfl rfl rfl (by decide) (by omega) (by omega) (by omega) (fun i0 h0 => ?_)
  refine r_nilCheckE sv h0 rfl rfl rfl (own_nds (t := u) (k := ai) (d0.res (i := 1) rfl) (by omega)).some_ (by decide) (fun i0 f0 => ?_)
  refine m_fieldE (j' := ai * 4 + 1) sv f0 rfl rfl rfl (own_nds (t := u) (k := ai) (d0.res (i := 1) rfl) (by omega)).some_ Tryd.underlying32 rfl sz3 rfl rfl (by decide) (fun i0 h0 => ?_)
  refine m_storeF (i := 1) (k := ai) (off := 1) (L := u) (z := (⟨(nth u ai).K, (((nth u ai).N) + 1), (nth u ai).M, (nth u ai).S⟩ : Nd)) se h0 d0 rfl rfl rfl rfl rfl (by omega) (by omega) (by decide) rfl rfl rfl sz3 (fun i0 f0 k0 m0 => ?_)
  have f0 : (u.set (ai) (⟨(nth u ai).K, (((nth u ai).N) + 1), (nth u ai).M, (nth u ai).S⟩ : Nd)).length = (u).length := by simp
  have f0 : nth (u.set (ai) (⟨(nth u ai).K, (((nth u ai).N) + 1), (nth u ai).M, (nth u ai).S⟩ : Nd)) (ai) = (⟨(nth u ai).K, (((nth u ai).N) + 1), (nth u ai).M, (nth u ai).S⟩ : Nd) := nth_set_self (by omega)
  have i0 : (nth (u.set (ai) (⟨(nth u ai).K, (((nth u ai).N) + 1), (nth u ai).M, (nth u ai).S⟩ : Nd)) (ai)).N = (((nth u ai).N) + 1) := by rw [f0]
  refine wpList_nil (x_then_n (j0 _ _ ?_))
  refine wsc (fun j0 i0 => ?_)
  refine mv k0 (fun j0 f0 => ?_)
  refine r_nilCheckE sv f0 rfl rfl rfl (own_nds (t := u.set (ai) (⟨(nth u ai).K, (((nth u ai).N) + 1), (nth u ai).M, (nth u ai).S⟩ : Nd)) (k := ai) (m0.res (i := 1) rfl) (by omega)).some_ (by decide) (fun j0 k0 => ?_)
  refine m_fieldE (j' := ai * 4 + 1) sv k0 rfl rfl rfl (own_nds (t := u.set (ai) (⟨(nth u ai).K, (((nth u ai).N) + 1), (nth u ai).M, (nth u ai).S⟩ : Nd)) (k := ai) (m0.res (i := 1) rfl) (by omega)).some_ Tryd.underlying32 rfl sz3 rfl rfl (by decide) (fun j0 f0 => ?_)
  refine m_loadE sv f0 rfl rfl rfl 1 (ai * 4) (own_nds (t := u.set (ai) (⟨(nth u ai).K, (((nth u ai).N) + 1), (nth u ai).M, (nth u ai).S⟩ : Nd)) (k := ai) (m0.res (i := 1) rfl) (by omega)) rfl rfl Tryd.underlying3 rfl (by decide) (fun j0 k0 => ?_)
  refine r_gtr sv k0 rfl rfl rfl rfl (by decide) (fun j0 f0 => ?_)
  refine wpList_nil (x_then_n (i0 _ _ ?_))
  rcases Decidable.em (99 < (((nth (u.set (ai) (⟨(nth u ai).K, (((nth u ai).N) + 1), (nth u ai).M, (nth u ai).S⟩ : Nd)) ai).N))) with i0 | i0
  ·
   have j0 := f0.setb (d := 34) (b := true) rfl (decide_eq_true i0)
   refine wp_cond_true (j0.ev rfl) ?_
   refine c_region ?_
   refine m_loadC sv j0 rfl rfl rfl (dbox_cell (m0.get (i := 1) rfl) rfl) Tryd.underlying51 rfl (by decide) (fun k0 h0 => ?_)
   refine r_nilCheck sv h0 rfl rfl rfl (by decide) (fun k0 j0 => ?_)
   refine m_field (j' := 1) sv j0 rfl rfl rfl Tryd.underlying55 rfl sz26 rfl rfl (by decide) (fun k0 h0 => ?_)
   refine m_store (i := 0) (cs' := [.map (some cb), .int .i64 2]) se h0 m0 rfl rfl rfl rfl rfl sz26 rfl rfl rfl (fun k0 j0 n0 o0 => ?_)
   refine wpList_nil ?_
   refine e_end0 n0 rfl rfl ?_
   have hE : (if (nth (u) ai).K = 0 ∧ un ≤ (nth (u) ai).N ∧ 99 ≤ (nth (u) ai).N then (2 : Int) else ce) = 2 := by first | (rw [if_neg (by omega)]; done) | (rw [if_pos (by omega)]; done)
   have hL : u.set ai (icN un (nth u ai)) = u.set (ai) (⟨(nth u ai).K, (((nth u ai).N) + 1), (nth u ai).M, (nth u ai).S⟩ : Nd) := free_yes (by assumption) (by assumption)
   refine ⟨rfl, o0.fr, (by rw [hE]; exact o0.res (i := 0) rfl), (by rw [hL]; exact o0.res (i := 1) rfl)⟩
  ·
   have o0 := f0.setb (d := 34) (b := false) rfl (decide_eq_false i0)
   refine wp_cond_false (o0.ev rfl) ?_
   refine wp_skip ?_
   refine e_end0 o0 rfl rfl ?_
   have hE : (if (nth (u) ai).K = 0 ∧ un ≤ (nth (u) ai).N ∧ 99 ≤ (nth (u) ai).N then (2 : Int) else ce) = (ce) := by first | (rw [if_neg (by omega)]; done) | (rw [if_pos (by omega)]; done)
   have hL : u.set ai (icN un (nth u ai)) = u.set (ai) (⟨(nth u ai).K, (((nth u ai).N) + 1), (nth u ai).M, (nth u ai).S⟩ : Nd) := free_yes (by assumption) (by assumption)
   refine ⟨rfl, m0.fr, (by rw [hE]; exact m0.res (i := 0) rfl), (by rw [hL]; exact m0.res (i := 1) rfl)⟩
 ·
  have m0 := c0
  try simp only [Bool.or_eq_true, Bool.and_eq_true, Bool.not_eq_true', Bool.not_eq_false', decide_eq_true_eq, decide_eq_false_iff_not, Bool.or_eq_false_iff, Bool.and_eq_false_iff] at m0
  have m0 := b0.setb (d := 22) (b := false) rfl c0
  refine wp_cond_false (m0.ev rfl) ?_
  refine wp_skip ?_
  refine e_end0 m0 rfl rfl ?_
  have hE : (if (nth (u) ai).K = 0 ∧ un ≤ (nth (u) ai).N ∧ 99 ≤ (nth (u) ai).N then (2 : Int) else ce) = (ce) := by first | (rw [if_neg (by omega)]; done) | (rw [if_pos (by omega)]; done)
  have hL : u.set ai (icN un (nth u ai)) = u := free_no hat (by omega)
  refine ⟨rfl, d0.fr, (by rw [hE]; exact d0.res (i := 0) rfl), (by rw [hL]; exact d0.res (i := 1) rfl)⟩
set_option maxRecDepth 100000 in
set_option maxHeartbeats 1000000 in
theorem vwalk_rec (rn : Nat) : ∀ (w0 : World) (Z : Nat → Prop) (hZ : ∀ k, Z k → k < w0.heap.size) (ug cp cg cb : Nat) (ce : Int) (uA : Option Addr) (ul uc : Nat) (Ap Bp : List Nd) (x : T) (e : Nat) (un : Int) (hShp : Shapes w0 Z) (hc : (Res.box cg 55 [.map (some cb), .int .i64 (ce)]).holds w0) (hcz : ¬ Z cg) (hu : (Res.row uA (Ap ++ x.flat ++ Bp).length uc 32 4 (encNs (Ap ++ x.flat ++ Bp))).holds w0) (huz : ∀ k, rM uA k → ¬ Z k) (hcu : ∀ k, rM uA k → k ≠ cg) (hub : (dBox ug [.slice uA ul uc]).φ w0 Z) (hcb : (dBox cp [.pointer (some ⟨cg, 0, none⟩)]).φ w0 Z) (hul : (Ap ++ x.flat ++ Bp).length = ul) (he : e + 1 = Ap.length + x.flat.length) (hx : x.wf = true) (hu0 : 0 ≤ un) (hu1 : un + 2 * x.flat.length ≤ 10000000) (hl : ul ≤ 1000000) (hrn : x.flat.length = rn),
    Calls Tryd.prog 50 [.slice uA ul uc, .int .i64 ((e : Nat) : Int), .int .i64 un, .func (.func 49) #[] #[.pointer (some ⟨ug, 0, none⟩), .pointer (some ⟨cp, 0, none⟩)]].toArray w0 (fun e w' => e = .returned (.int .i64 ((Ap.length : Nat) : Int)) ∧ Fr (M2 uA cg) w0 w' ∧ (Res.box cg 55 [.map (some cb), .int .i64 (if icE un x = true then 2 else ce)]).holds w' ∧ (Res.row uA (Ap ++ (icT un x).flat ++ Bp).length uc 32 4 (encNs (Ap ++ (icT un x).flat ++ Bp))).holds w') := by
 induction rn using Nat.strongRecOn
 rename_i rn ih
 intro w0 Z hZ ug cp cg cb ce uA ul uc Ap Bp x e un hShp hc hcz hu huz hcu hub hcb hul he hx hu0 hu1 hl hrn
 have hstart : ∀ k, Z k → imm Z w0 [.box cg 55 [.map (some cb), .int .i64 (ce)], .row uA ((Ap ++ x.flat ++ Bp).length) uc 32 4 (encNs (Ap ++ x.flat ++ Bp))] w0 k ∧ w0.heap[k]? = w0.heap[k]? := fun k hk => imm_start2 hZ hcz huz hk
 have b0 : St w0 Z (M2 uA cg) w0 [.box cg 55 [.map (some cb), .int .i64 (ce)], .row uA ((Ap ++ x.flat ++ Bp).length) uc 32 4 (encNs (Ap ++ x.flat ++ Bp))] [dShapes, dBox ug [.slice uA ul uc], dBox cp [.pointer (some ⟨cg, 0, none⟩)]] := St.start2 hc hu hcu (by
  intro d hd
  simp only [List.mem_cons, List.not_mem_nil, or_false] at hd
  rcases hd with rfl | rfl | rfl
  · exact Dat.mono _ _ _ _ _ (Nat.le_refl _) hShp hstart
  · exact Dat.mono _ _ _ _ _ (Nat.le_refl _) hub hstart
  · exact Dat.mono _ _ _ _ _ (Nat.le_refl _) hcb hstart
  )
 refine c_enter Tryd.func50 rfl Tryd.ntmps50 rfl (fun c0 d0 => ?_)
 obtain ⟨hrx, hmx, hwx⟩ := wf_root hx
 have hNx := right_N hrx
 have hfx := T.flat_pos x
 have ha8 := args_le hx
 have hel := (wk_at (Bp := Bp) he).2
 refine wsc (fun c0 f0 => ?_)
 refine asg d0 (fun c0 h0 => ?_)
 refine wpList_nil (x_then_n (f0 _ _ ?_))
 refine wsc (fun f0 c0 => ?_)
 refine mv h0 (fun f0 d0 => ?_)
 refine mv d0 (fun f0 h0 => ?_)
 refine mv h0 (fun f0 d0 => ?_)
 have f0 := b0.nf
 refine k_callV (xs := [.tmp 14, .tmp 15]) se d0 rfl rfl rfl rfl (by decide) ok49 (vfree_calls _ _ f0.il _ _ _ _ _ _ _ _ _ _ _ (f0.z 0) (imm_box (i := 0) rfl) (f0.z 1) (imm_row (i := 1) rfl) (St.apart2 f0) (f0.g 1) (f0.g 2) hul (wk_at he).2 (by rw [(wk_at he).1]; omega) (by rw [(wk_at he).1]; omega)) ?_
 rintro d0 b0 ⟨rfl, h0, i0, hr23⟩
 have b0 := St.call2 f0 h0 i0 hr23
 refine ⟨_, rfl, fun i0 h0 => ?_⟩
 have i0 := b0.nf
 have b0 : (Ap ++ x.flat ++ Bp).set e (icN (un) (nth (Ap ++ x.flat ++ Bp) e)) = wkL Ap Bp x un (x.args.length) := wk_start he
 have f0 := St.cast (m' := [.box cg 55 [.map (some cb), .int .i64 ((if (nth (Ap ++ x.flat ++ Bp) e).K = 0 ∧ (un) ≤ (nth (Ap ++ x.flat ++ Bp) e).N ∧ 99 ≤ (nth (Ap ++ x.flat ++ Bp) e).N then 2 else (ce)))], .row uA ((wkL Ap Bp x un (x.args.length)).length) uc 32 4 (encNs (wkL Ap Bp x un (x.args.length)))]) i0 (by rw [b0])
 have b0 := f0.nf
 have hE0 : (if (nth (Ap ++ x.flat ++ Bp) e).K = 0 ∧ (un) ≤ (nth (Ap ++ x.flat ++ Bp) e).N ∧ 99 ≤ (nth (Ap ++ x.flat ++ Bp) e).N then (2 : Int) else (ce)) = if wkE x un (x.args.length) = true then 2 else ce := by rw [(wk_at he).1]; exact wkE_start
 have f0 := b0
 rw [hE0] at f0
 have hne : nth (wkL Ap Bp x un (x.args.length)) e = icN un x.root := wk_node he
 have hbe := icN_bindsR (u := un) hrx
 rw [← hne] at hbe
 have hbln := congrArg List.length hbe
 rw [wk_n hx] at hbln
 have hll : (wkL Ap Bp x un (x.args.length)).length = ul := by rw [← wk_start he, List.length_set]; exact hul
 refine wpList_nil (x_then_n (c0 _ _ ?_))
 refine wsc (fun c0 b0 => ?_)
 refine mv h0 (fun c0 i0 => ?_)
 refine mv i0 (fun c0 h0 => ?_)
 refine m_index (i := e) (j := e * 4) sv h0 rfl rfl rfl rfl Tryd.underlying22 sz32 (by omega) (by omega) (own_nds (t := wkL Ap Bp x un (x.args.length)) (k := e) (f0.res (i := 1) rfl) (by omega)).some_ rfl (by decide) (fun c0 i0 => ?_)
 refine m_loadEN sv i0 rfl rfl rfl (own_nds (t := wkL Ap Bp x un (x.args.length)) (k := e) (f0.res (i := 1) rfl) (by omega)) Tryd.underlying32 rfl sz32 (by decide) (fun c0 h0 => ?_)
 have c0 := f0.nf
 refine k_call (xs := [.tmp 21]) se h0 rfl rfl rfl (by decide) ok41 (binds_calls _ _ c0.il (nth (wkL Ap Bp x un (x.args.length)) e) (c0.g 0) (hs := (by rw [hne]; exact right_sz_ic hrx))) ?_
 rintro h0 f0 ⟨i0, d0, rfl, j0, k0⟩
 have f0 := c0.below j0.below
 have j0 := c0.dN f0 k0
 refine ⟨_, rfl, fun f0 k0 => ?_⟩
 refine mv k0 (fun f0 c0 => ?_)
 refine r_extract sv c0 rfl rfl rfl rfl (by decide) (fun f0 k0 => ?_)
 refine r_extract sv k0 rfl rfl rfl rfl (by decide) (fun f0 c0 => ?_)
 refine asg c0 (fun f0 k0 => ?_)
 refine asg k0 (fun f0 c0 => ?_)
 refine wpList_nil (x_then_n (b0 _ _ ?_))
 refine wsc (fun b0 f0 => ?_)
 refine mv c0 (fun b0 k0 => ?_)
 refine asg k0 (fun b0 c0 => ?_)
 refine wpList_nil (x_then_n (f0 _ _ ?_))
 refine wp_seq_k (fun f0 b0 => ?_)
 refine wsc (fun f0 k0 => ?_)
 refine mv c0 (fun f0 h0 => ?_)
 refine r_len sv h0 rfl rfl rfl rfl Tryd.underlying56 (by decide) (fun f0 c0 => ?_)
 refine r_sub (z := ((((bindsR (nth (wkL Ap Bp x un (x.args.length)) e)).length : Nat) : Int) - 1)) sv c0 rfl rfl rfl rfl (by decide) (by omega) (by omega) (by omega) (fun f0 h0 => ?_)
 refine asg h0 (fun f0 c0 => ?_)
 refine wpList_nil (x_then_n (k0 _ _ ?_))
 refine wp_block ?_
 refine wp_loop_ghost (fun gn ga gw => ∃ i : Nat, (Reg ga 45 [(1000000, .bool false), (0, .slice uA ul uc), (2, .int .i64 (un)), (3, .func (.func 49) #[] #[.pointer (some ⟨ug, 0, none⟩), .pointer (some ⟨cp, 0, none⟩)]), (8, .int .i64 0), (9, .slice i0 ((bindsR (nth (wkL Ap Bp x un (x.args.length)) e)).length) d0), (12, .int .i64 (((i : Nat) : Int) - 1)), (11, .int .i64 (((Ap ++ T.flats (x.args.take i)).length : Nat) : Int))]) ∧ (St w0 Z (M2 uA cg) gw [.box cg 55 [.map (some cb), .int .i64 ((if wkE x un (i) = true then 2 else ce))], .row uA ((wkL Ap Bp x un (i)).length) uc 32 4 (encNs (wkL Ap Bp x un (i)))] [dShapes, dBox ug [.slice uA ul uc], dBox cp [.pointer (some ⟨cg, 0, none⟩)], dRow 1 i0 ((bindsR (nth (wkL Ap Bp x un (x.args.length)) e)).length) d0 (encIs (bindsR (nth (wkL Ap Bp x un (x.args.length)) e)))]) ∧ (i ≤ x.args.length) ∧ (i) = gn) _ ⟨x.args.length, (c0.sub (rc rfl (rc rfl (rc rfl (rc rfl (rc rfl (rc rfl (rc (ri rfl (by rw [hbe, wk_n hx])) (rc (ri rfl (by have := wk_len (Ap := Ap) (x := x) rfl; omega)) rnl))))))))), j0, Nat.le_refl _, rfl⟩ ?_
 rintro c0 j0 d0 ⟨i, i0, k0, hi, f0⟩
 have hpa : 0 < i → (Ap ++ T.flats (x.args.take i)).length = (Ap ++ T.flats (x.args.take (i - 1))).length + (kid x (i - 1)).flat.length := fun h => by have := wk_pos (Ap := Ap) (x := x) (i := i - 1) (by omega); rwa [show i - 1 + 1 = i by omega] at this
 have hfp := T.flat_pos (kid x (i - 1))
 have hwl := wk_le (Ap := Ap) (Bp := Bp) (x := x) (i := i)
 refine wp_seq_k (fun f0 d0 => ?_)
 refine wsc (fun f0 j0 => ?_)
 refine mv i0 (fun f0 c0 => ?_)
 refine r_geq sv c0 rfl rfl rfl rfl (by decide) (fun f0 i0 => ?_)
 refine wpList_nil (x_then_n (j0 _ _ ?_))
 rcases Decidable.em (0 ≤ (((i : Nat) : Int) - 1)) with j0 | j0
 ·
  have f0 : 0 < i := by omega
  have hpa1 := hpa f0
  have hkw := kid_wf (t := x) (i := i - 1) hx (by omega)
  have hkf := kid_flat (x := x) (i := i - 1) (by omega)
  have hbn := bindsR_nth (n := nth (wkL Ap Bp x un (x.args.length)) e) (i - 1)
  have c0 := i0.setb (d := 30) (b := true) rfl (decide_eq_true j0)
  refine wp_cond_true (c0.ev rfl) ?_
  refine wp_skip ?_
  refine x_then_n (d0 _ _ ?_)
  refine wp_seq_k (fun d0 h0 => ?_)
  refine wp_block ?_
  refine c_region ?_
  refine mv c0 (fun d0 m0 => ?_)
  refine mv m0 (fun d0 c0 => ?_)
  refine r_sub (z := ((((Ap ++ T.flats (x.args.take i)).length : Nat) : Int) - 1)) sv c0 rfl rfl rfl rfl (by decide) (by omega) (by omega) (by omega) (fun d0 m0 => ?_)
  have d0 := Reg.cons m0 m0 (ri (i := 35) (b := (((Ap ++ T.flats (x.args.take i)).length - 1 : Nat) : Int)) rfl (by omega))
  refine mv d0 (fun m0 c0 => ?_)
  refine mv c0 (fun m0 d0 => ?_)
  refine mv d0 (fun m0 c0 => ?_)
  refine m_index (i := (i) - (1)) (j := ((i) - (1)) * 1) sv c0 rfl rfl rfl rfl Tryd.underlying56 sz3 (by omega) (by omega) (ints_elem (t := bindsR (nth (wkL Ap Bp x un (x.args.length)) e)) (k := (i) - (1)) (k0.row (i := 3) rfl).2 (by omega)).some_ rfl (by decide) (fun m0 d0 => ?_)
  refine m_loadE sv d0 rfl rfl rfl 0 (((i) - (1)) * 1) (ints_elem (t := bindsR (nth (wkL Ap Bp x un (x.args.length)) e)) (k := (i) - (1)) (k0.row (i := 3) rfl).2 (by omega)) rfl rfl Tryd.underlying3 rfl (by decide) (fun m0 c0 => ?_)
  refine r_add (z := (un + (nthI (bindsR (nth (wkL Ap Bp x un (x.args.length)) e)) ((i) - (1))))) sv c0 rfl rfl rfl rfl (by decide) (by omega) (by omega) (by omega) (fun m0 d0 => ?_)
  refine mv d0 (fun m0 c0 => ?_)
  have m0 := k0.nf
  have d0 : wkL Ap Bp x un (i) = (Ap ++ T.flats (x.args.take (i - 1))) ++ (kid x (i - 1)).flat ++ (T.flats (icTs (x.args.drop (i - 1 + 1)) ((wkU x un).drop (i - 1 + 1))) ++ icN un x.root :: Bp) := by have := wk_before (Ap := Ap) (Bp := Bp) (un := un) (x := x) (i := i - 1) (by omega); rwa [show i - 1 + 1 = i by omega] at this ⊢
  have n0 := St.cast (m' := [.box cg 55 [.map (some cb), .int .i64 ((if wkE x un (i) = true then 2 else ce))], .row uA (((Ap ++ T.flats (x.args.take (i - 1))) ++ (kid x (i - 1)).flat ++ (T.flats (icTs (x.args.drop (i - 1 + 1)) ((wkU x un).drop (i - 1 + 1))) ++ icN un x.root :: Bp)).length) uc 32 4 (encNs ((Ap ++ T.flats (x.args.take (i - 1))) ++ (kid x (i - 1)).flat ++ (T.flats (icTs (x.args.drop (i - 1 + 1)) ((wkU x un).drop (i - 1 + 1))) ++ icN un x.root :: Bp)))]) m0 (by rw [d0])
  have m0 := n0.nf
  refine k_call (xs := [.tmp 33, .tmp 35, .tmp 41, .tmp 42]) se c0 rfl rfl rfl (by decide) ok50 (ih (kid x (i - 1)).flat.length (by omega) _ (imm Z w0 [.box cg 55 [.map (some cb), .int .i64 ((if wkE x un (i) = true then 2 else ce))], .row uA (((Ap ++ T.flats (x.args.take (i - 1))) ++ (kid x (i - 1)).flat ++ (T.flats (icTs (x.args.drop (i - 1 + 1)) ((wkU x un).drop (i - 1 + 1))) ++ icN un x.root :: Bp)).length) uc 32 4 (encNs ((Ap ++ T.flats (x.args.take (i - 1))) ++ (kid x (i - 1)).flat ++ (T.flats (icTs (x.args.drop (i - 1 + 1)) ((wkU x un).drop (i - 1 + 1))) ++ icN un x.root :: Bp)))] _) (fun _ h => h.1) _ _ _ _ _ _ _ _ (Ap ++ T.flats (x.args.take (i - 1))) (T.flats (icTs (x.args.drop (i - 1 + 1)) ((wkU x un).drop (i - 1 + 1))) ++ icN un x.root :: Bp) (kid x (i - 1)) ((Ap ++ T.flats (x.args.take i)).length - 1) ((un + (nthI (bindsR (nth (wkL Ap Bp x un (x.args.length)) e)) ((i) - (1))))) (m0.g 0) (m0.z 0) (imm_box (i := 0) rfl) (m0.z 1) (imm_row (i := 1) rfl) (St.apart2 m0) (m0.g 1) (m0.g 2) (by rw [← d0]; exact wk_llen.trans hul) (by omega) hkw (by omega) (by omega) hl rfl) ?_
  rintro d0 c0 ⟨rfl, n0, o0, hr131⟩
  have c0 := St.call2 m0 n0 o0 hr131
  refine ⟨_, rfl, fun o0 n0 => ?_⟩
  have o0 := c0.nf
  have c0 : (Ap ++ T.flats (x.args.take (i - 1))) ++ (icT ((un + (nthI (bindsR (nth (wkL Ap Bp x un (x.args.length)) e)) ((i) - (1))))) (kid x (i - 1))).flat ++ (T.flats (icTs (x.args.drop (i - 1 + 1)) ((wkU x un).drop (i - 1 + 1))) ++ icN un x.root :: Bp) = wkL Ap Bp x un (i - 1) := (by rw [hbe]; exact wk_after hx (by omega))
  have m0 := St.cast (m' := [.box cg 55 [.map (some cb), .int .i64 ((if icE ((un + (nthI (bindsR (nth (wkL Ap Bp x un (x.args.length)) e)) ((i) - (1))))) (kid x (i - 1)) = true then 2 else ((if wkE x un (i) = true then 2 else ce))))], .row uA ((wkL Ap Bp x un (i - 1)).length) uc 32 4 (encNs (wkL Ap Bp x un (i - 1)))]) o0 (by rw [c0])
  have c0 := m0.nf
  have hE1 : (if icE ((un + (nthI (bindsR (nth (wkL Ap Bp x un (x.args.length)) e)) ((i) - (1))))) (kid x (i - 1)) = true then (2 : Int) else ((if wkE x un (i) = true then (2 : Int) else ce))) = if wkE x un (i - 1) = true then 2 else ce := by rw [hbe]; have := wkE_step (x := x) (un := un) (i := i - 1) hx (by omega) (ce := ce); rwa [show i - 1 + 1 = i by omega] at this
  have m0 := c0
  rw [hE1] at m0
  refine asg n0 (fun c0 o0 => ?_)
  refine wpList_nil ?_
  refine x_block_n ?_
  refine x_then_n (h0 _ _ ?_)
  refine c_region ?_
  refine mv o0 (fun h0 c0 => ?_)
  refine r_sub (z := (((i : Nat) : Int) - 2)) sv c0 rfl rfl rfl rfl (by decide) (by omega) (by omega) (by omega) (fun h0 o0 => ?_)
  refine asg o0 (fun h0 c0 => ?_)
  refine wpList_nil ?_
  exact ⟨_, by omega, i - 1, (c0.sub (rc rfl (rc rfl (rc rfl (rc rfl (rc rfl (rc rfl (rc (ri rfl (by omega)) (rc rfl rnl))))))))), m0, by omega, rfl⟩
 ·
  have c0 := i0.setb (d := 30) (b := false) rfl (decide_eq_false j0)
  refine wp_cond_false (c0.ev rfl) ?_
  refine wp_exit ?_
  refine x_then_e ?_
  refine x_then_e ?_
  refine x_block_eq ?_
  refine x_then_n (b0 _ _ ?_)
  refine wsc (fun b0 j0 => ?_)
  refine mv c0 (fun b0 i0 => ?_)
  refine asg i0 (fun b0 c0 => ?_)
  refine wpList_nil (x_then_n (j0 _ _ ?_))
  refine wp_ret ?_
  refine e_ret1 c0 rfl rfl rfl ?_
  have f0 : i = 0 := by omega
  subst f0
  refine ⟨?_, k0.fr, (by have hq := k0.res (i := 0) rfl; rw [wkE_end] at hq; exact hq), (by have hq := k0.res (i := 1) rfl; rw [wkL_end] at hq; exact hq)⟩
  exact congrArg Ending.returned (ret_i (by rw [List.take_zero, T.flats_nil, List.append_nil]))
theorem vwalk_calls (w0 : World) (Z : Nat → Prop) (hZ : ∀ k, Z k → k < w0.heap.size) (ug cp cg cb : Nat) (ce : Int) (uA : Option Addr) (ul uc : Nat) (Ap Bp : List Nd) (x : T) (e : Nat) (un : Int) (hShp : Shapes w0 Z) (hc : (Res.box cg 55 [.map (some cb), .int .i64 (ce)]).holds w0) (hcz : ¬ Z cg) (hu : (Res.row uA (Ap ++ x.flat ++ Bp).length uc 32 4 (encNs (Ap ++ x.flat ++ Bp))).holds w0) (huz : ∀ k, rM uA k → ¬ Z k) (hcu : ∀ k, rM uA k → k ≠ cg) (hub : (dBox ug [.slice uA ul uc]).φ w0 Z) (hcb : (dBox cp [.pointer (some ⟨cg, 0, none⟩)]).φ w0 Z) (hul : (Ap ++ x.flat ++ Bp).length = ul) (he : e + 1 = Ap.length + x.flat.length) (hx : x.wf = true) (hu0 : 0 ≤ un) (hu1 : un + 2 * x.flat.length ≤ 10000000) (hl : ul ≤ 1000000) :
    Calls Tryd.prog 50 [.slice uA ul uc, .int .i64 ((e : Nat) : Int), .int .i64 un, .func (.func 49) #[] #[.pointer (some ⟨ug, 0, none⟩), .pointer (some ⟨cp, 0, none⟩)]].toArray w0 (fun e w' => e = .returned (.int .i64 ((Ap.length : Nat) : Int)) ∧ Fr (M2 uA cg) w0 w' ∧ (Res.box cg 55 [.map (some cb), .int .i64 (if icE un x = true then 2 else ce)]).holds w' ∧ (Res.row uA (Ap ++ (icT un x).flat ++ Bp).length uc 32 4 (encNs (Ap ++ (icT un x).flat ++ Bp))).holds w') := vwalk_rec _ w0 Z hZ ug cp cg cb ce uA ul uc Ap Bp x e un hShp hc hcz hu huz hcu hub hcb hul he hx hu0 hu1 hl rfl
end Go.Proofs.YthdemmcfnpmmiaaDoor
/- Contracts of functions, one theorem each: what the call returns, and that nothing old is changed. Printed by gen.py. -/
namespace Go.Proofs.YthdemmcfnpmmiaaDoor
open Go Go.RowKit
set_option linter.unusedSimpArgs false
set_option linter.unusedVariables false
set_option maxRecDepth 100000 in
set_option maxHeartbeats 1000000 in
theorem vapplied_calls (w0 : World) (Z : Nat → Prop) (hZ : ∀ k, Z k → k < w0.heap.size) (cg cb : Nat) (ce : Int) (tA : Option Addr) (tc : Nat) (t : List Nd) (hShp : Shapes w0 Z) (hc : (Res.box cg 55 [.map (some cb), .int .i64 (ce)]).holds w0) (hcz : ¬ Z cg) (ht : (dRow 4 tA t.length tc (encNs t)).φ w0 Z) (hl : t.length ≤ 1000000 := by first | assumption | omega | (simp; done) | (simp; omega)) (hb : measB t = true := by first | assumption | omega | (simp; done) | (simp; omega)) :
    Calls Tryd.prog 42 [.pointer (some ⟨cg, 0, none⟩), .slice tA t.length tc].toArray w0 (fun e w' => ∃ (rA0 : Option Addr) (rc0 : Nat) (rL0 : List Nd), e = .returned (.slice rA0 rL0.length rc0) ∧ Fr (· = cg) w0 w' ∧ (Res.box cg 55 [.map (some cb), .int .i64 ((if icE 0 (treeOf t) = true then 2 else ce))]).holds w' ∧ (dRow 4 rA0 rL0.length rc0 (encNs rL0)).φ w' (nxt Z w0 w') ∧ rL0 = apL t) := by
 have b0 := sM hc hcz hZ (zc (d := dShapes) hShp (zc ht zn))
 have hp0 := meas_pos hb
 refine c_enter Tryd.func42 rfl Tryd.ntmps42 rfl (fun c0 d0 => ?_)
 refine wsc (fun c0 f0 => ?_)
 refine m_box (cs := [.pointer (some ⟨cg, 0, none⟩)]) sv d0 b0 rfl rfl rfl rfl (by decide) (fun c0 h0 i0 j0 k0 => ?_)
 refine asg j0 (fun h0 c0 => ?_)
 refine wpList_nil (x_then_n (f0 _ _ ?_))
 refine wsc (fun f0 h0 => ?_)
 refine mv c0 (fun f0 j0 => ?_)
 have f0 := k0.nilrow 32 4
 refine m_appendF (f := encN) (i := 2) ([]) (t) sv j0 f0 rfl rfl rfl rfl rfl encN_len (encN_one _) Tryd.underlying22 zi32 rfl rfl (f0.row (i := 1) rfl).2.news rfl (by first | omega | (simp only [List.length_cons, List.length_nil]; omega)) (by decide) (fun k0 c0 d0 b0 m0 n0 o0 => ?_)
 have m0 : (([]) ++ t : List Nd).length = t.length := by first | (simp only [List.length_append, List.length_take, List.length_cons, List.length_nil]; done) | (simp only [List.length_append, List.length_take, List.length_cons, List.length_nil]; omega)
 refine m_alloc (cs := [.slice none 0 0]) sv n0 o0 rfl rfl ze22 rfl (by decide) (fun m0 c0 k0 f0 j0 => ?_)
 refine m_store (i := 3) (cs' := [.slice d0 ((([]) ++ t : List Nd).length) b0]) se f0 j0 rfl rfl rfl rfl rfl sz22 rfl rfl rfl (fun c0 m0 o0 n0 => ?_)
 refine wpList_nil (x_then_n (h0 _ _ ?_))
 refine wsc (fun h0 c0 => ?_)
 refine r_makeFunc sv o0 rfl rfl rfl (by decide) (fun h0 j0 => ?_)
 refine asg j0 (fun h0 o0 => ?_)
 refine wpList_nil (x_then_n (c0 _ _ ?_))
 refine wsc (fun c0 h0 => ?_)
 refine m_load (i := 3) sv o0 n0 rfl rfl rfl rfl rfl Tryd.underlying22 rfl (by decide) (fun c0 j0 => ?_)
 refine m_load (i := 3) sv j0 n0 rfl rfl rfl rfl rfl Tryd.underlying22 rfl (by decide) (fun c0 o0 => ?_)
 refine r_len sv o0 rfl rfl rfl rfl Tryd.underlying22 (by decide) (fun c0 j0 => ?_)
 refine r_sub (z := ((((([]) ++ t : List Nd).length : Nat) : Int) - 1)) sv j0 rfl rfl rfl rfl (by decide) (by omega) (by omega) (by omega) (fun c0 o0 => ?_)
 have c0 := Reg.cons o0 o0 (ri (i := 13) (b := ((t.length - 1 : Nat) : Int)) rfl (by simp only [List.nil_append]; omega))
 refine mv c0 (fun o0 j0 => ?_)
 obtain ⟨o0, c0⟩ := St.box_dataM n0 (i := 1) rfl (j := 0) rfl (by decide)
 have n0 := o0.data (dBox i0 [.pointer (some ⟨cg, 0, none⟩)]) c0
 obtain ⟨c0, o0⟩ := St.box_dataM n0 (i := 2) rfl (j := 0) rfl (by decide)
 have n0 := c0.data (dBox k0 [.slice d0 ((([]) ++ t : List Nd).length) b0]) o0
 have o0 : St w0 Z (· = cg) m0 [.box cg 55 [.map (some cb), .int .i64 (ce)], .row d0 ((([]) ++ t : List Nd).length) b0 32 4 (encNs (([]) ++ t))] [dShapes, dRow 4 tA t.length tc (encNs t), dBox i0 [.pointer (some ⟨cg, 0, none⟩)], dBox k0 [.slice d0 ((([]) ++ t : List Nd).length) b0]] := n0
 have n0 : ([]) ++ t = [] ++ (treeOf t).flat ++ [] := by rw [(treeOf_meas hb).2]; simp
 have c0 := St.cast (m' := [.box cg 55 [.map (some cb), .int .i64 (ce)], .row d0 (([] ++ (treeOf t).flat ++ []).length) b0 32 4 (encNs ([] ++ (treeOf t).flat ++ []))]) o0 (by rw [n0])
 have n0 : St w0 Z (· = cg) m0 [.box cg 55 [.map (some cb), .int .i64 (ce)], .row d0 (([] ++ (treeOf t).flat ++ []).length) b0 32 4 (encNs ([] ++ (treeOf t).flat ++ []))] [dShapes, dRow 4 tA t.length tc (encNs t), dBox i0 [.pointer (some ⟨cg, 0, none⟩)], dBox k0 [.slice d0 ((([]) ++ t : List Nd).length) b0]] := c0
 have c0 : ([] ++ (treeOf t).flat ++ []).length = (([]) ++ t : List Nd).length := by rw [(treeOf_meas hb).2]; simp
 refine k_call (xs := [.tmp 10, .tmp 13, .const (.int .i64 0), .tmp 14]) se j0 rfl rfl rfl (by decide) ok50 (vwalk_calls _ _ n0.il _ _ _ _ _ _ _ _ [] [] (treeOf t) (t.length - 1) 0 (n0.g 0) (n0.z 0) (imm_box (i := 0) rfl) (n0.z 1) (imm_row (i := 1) rfl) (St.apart2 n0) (n0.g 3) (n0.g 2) c0 (by rw [(treeOf_meas hb).2]; simp; omega) (mt_wf hb) (by omega) (by rw [(treeOf_meas hb).2]; omega) (by simp; omega)) ?_
 rintro c0 j0 ⟨rfl, m0, o0, hr72⟩
 have j0 := St.call2 n0 m0 o0 hr72
 refine ⟨_, rfl, fun o0 m0 => ?_⟩
 have o0 : ([] ++ (icT 0 (treeOf t)).flat ++ []).length = (([]) ++ t : List Nd).length := by rw [List.append_nil, List.nil_append, ic_flat, (treeOf_meas hb).2]; simp
 refine wpList_nil (x_then_n (h0 _ _ ?_))
 refine wsc (fun h0 n0 => ?_)
 refine m_loadC sv m0 rfl rfl rfl (dbox_cell (j0.get (i := 3) rfl) rfl) Tryd.underlying22 rfl (by decide) (fun h0 c0 => ?_)
 refine m_build (ps := [(0, .const (.int .i64 0))]) (v := .agg #[.int .i64 0, .int .i64 0, .int .i64 0, .string (⟨#[]⟩ : ByteArray)]) sv c0 rfl rfl rfl (fun _ => by kernel_rfl) (by decide) (fun h0 m0 => ?_)
 refine mbs [(0, .tmp 17)] [.int .i64 0, .int .i64 0, .int .i64 0, .string (⟨#[]⟩ : ByteArray)] sv m0 j0 Tryd.underlying22 zi32 (fun h0 c0 f0 p0 q0 => ?_)
 have c0 := own_cap (q0.res (i := 1) rfl)
 obtain ⟨h0, m0⟩ := q0.row_dataM (i := 1) rfl (j := 0) rfl (by decide)
 have q0 := p0.conss p0 (i := 8) rfl o0
 have p0 := q0.conss q0 (i := 10) rfl o0
 have q0 := p0.conss p0 (i := 11) rfl o0
 have p0 := q0.conss q0 (i := 16) rfl o0
 have q0 := h0.data (dRow 4 d0 (([] ++ (icT 0 (treeOf t)).flat ++ []).length) b0 (encNs ([] ++ (icT 0 (treeOf t)).flat ++ []))) ⟨c0, m0⟩
 have m0 := own_cap (q0.res (i := 1) rfl)
 obtain ⟨h0, c0⟩ := q0.row_dataM (i := 1) rfl (j := 0) rfl (by decide)
 have q0 := h0.data (dRow 4 (some ⟨f0, 0, none⟩) 1 1 (encNs ([(⟨0, 0, 0, (⟨#[]⟩ : ByteArray)⟩ : Nd)]))) ⟨m0, c0⟩
 have c0 := q0.data (dAll [((d0, b0, [] ++ (icT 0 (treeOf t)).flat ++ []) : Sl), (((some ⟨f0, 0, none⟩), 1, [(⟨0, 0, 0, (⟨#[]⟩ : ByteArray)⟩ : Nd)]) : Sl)]) (all_cons (q0.get (i := 4) rfl) (all_cons (q0.get (i := 5) rfl) all_nil))
 refine mbs [(0, .tmp 16), (1, .tmp 18)] [.slice d0 (([] ++ (icT 0 (treeOf t)).flat ++ []).length) b0, .slice (some ⟨f0, 0, none⟩) 1 1] sv p0 c0 Tryd.underlying39 zi22 (fun q0 h0 m0 o0 j0 => ?_)
 have q0 : St w0 Z (· = cg) h0 [.box cg 55 [.map (some cb), .int .i64 ((if icE 0 (treeOf t) = true then 2 else (ce)))], .row (some ⟨m0, 0, none⟩) 2 2 22 1 (encSs ([((d0, b0, [] ++ (icT 0 (treeOf t)).flat ++ []) : Sl), (((some ⟨f0, 0, none⟩), 1, [(⟨0, 0, 0, (⟨#[]⟩ : ByteArray)⟩ : Nd)]) : Sl)]))] [dShapes, dRow 4 tA t.length tc (encNs t), dBox i0 [.pointer (some ⟨cg, 0, none⟩)], dBox k0 [.slice d0 ((([]) ++ t : List Nd).length) b0], dRow 4 d0 (([] ++ (icT 0 (treeOf t)).flat ++ []).length) b0 (encNs ([] ++ (icT 0 (treeOf t)).flat ++ [])), dRow 4 (some ⟨f0, 0, none⟩) 1 1 (encNs ([(⟨0, 0, 0, (⟨#[]⟩ : ByteArray)⟩ : Nd)])), dAll [((d0, b0, [] ++ (icT 0 (treeOf t)).flat ++ []) : Sl), (((some ⟨f0, 0, none⟩), 1, [(⟨0, 0, 0, (⟨#[]⟩ : ByteArray)⟩ : Nd)]) : Sl)]] := j0
 have j0 := own_cap (q0.res (i := 1) rfl)
 obtain ⟨h0, k0⟩ := q0.row_dataM (i := 1) rfl (j := 0) rfl (by decide)
 have q0 := h0.data (dRow 1 (some ⟨m0, 0, none⟩) 2 2 (encSs ([((d0, b0, [] ++ (icT 0 (treeOf t)).flat ++ []) : Sl), (((some ⟨f0, 0, none⟩), 1, [(⟨0, 0, 0, (⟨#[]⟩ : ByteArray)⟩ : Nd)]) : Sl)]))) ⟨j0, k0⟩
 refine k_call (xs := [.const (.int .i64 5), .tmp 19]) se o0 rfl rfl rfl (by decide) ok35 (vwith_calls _ _ q0.il 5 _ _ ([((d0, b0, [] ++ (icT 0 (treeOf t)).flat ++ []) : Sl), (((some ⟨f0, 0, none⟩), 1, [(⟨0, 0, 0, (⟨#[]⟩ : ByteArray)⟩ : Nd)]) : Sl)]) (q0.g 7) (q0.g 6) (hl := (by simp)) (hb := (Nat.le_trans (Nat.le_of_eq (ap_len hb)) (by omega)))) ?_
 rintro o0 f0 ⟨b0, d0, k0, rfl, h0, j0, m0⟩
 have f0 := q0.below h0.below
 have h0 := q0.dN f0 j0
 refine ⟨_, rfl, fun f0 j0 => ?_⟩
 refine asg j0 (fun f0 q0 => ?_)
 refine wpList_nil (x_then_n (n0 _ _ ?_))
 refine wp_ret ?_
 refine e_ret1 q0 rfl rfl rfl ?_
 refine ⟨b0, d0, k0, ?_, h0.fr, (by rw [show (if icE 0 (treeOf t) = true then 2 else ce : Int) = ((if icE 0 (treeOf t) = true then 2 else (ce))) by first | rfl | omega | assumption | exact decide_eq_true (by assumption) | ( omega) | (simp []; done) | (simp [] at *; done) | (simp [] <;> omega) | (rw [Bool.eq_iff_iff]; simp [] <;> omega) | (rw [Bool.eq_iff_iff]; simp [] at * <;> omega)]; exact h0.res (i := 0) rfl), h0.rx 8, (by rw [m0]; exact ap_made)⟩
 exact congrArg Ending.returned (ret_s (by first | rfl | (simp; done)))
set_option maxRecDepth 100000 in
set_option maxHeartbeats 1000000 in
theorem vbody_calls (w0 : World) (Z : Nat → Prop) (hZ : ∀ k, Z k → k < w0.heap.size) (cg cb : Nat) (ce : Int) (tA : Option Addr) (tc : Nat) (t : List Nd) (hShp : Shapes w0 Z) (hc : (Res.box cg 55 [.map (some cb), .int .i64 (ce)]).holds w0) (hcz : ¬ Z cg) (ht : (dRow 4 tA t.length tc (encNs t)).φ w0 Z) (hl : t.length ≤ 1000000 := by first | assumption | omega | (simp; done) | (simp; omega)) (hb : measB t = true := by first | assumption | omega | (simp; done) | (simp; omega)) :
    Calls Tryd.prog 34 [.pointer (some ⟨cg, 0, none⟩), .slice tA t.length tc].toArray w0 (fun e w' => ∃ (rA0 : Option Addr) (rc0 : Nat) (rL0 : List Nd), e = .returned (.slice rA0 rL0.length rc0) ∧ Fr (· = cg) w0 w' ∧ (Res.box cg 55 [.map (some cb), .int .i64 ((if bodE (treeOf t) = true then 2 else ce))]).holds w' ∧ (dRow 4 rA0 rL0.length rc0 (encNs rL0)).φ w' (nxt Z w0 w') ∧ rL0 = bodL t) := by
 have b0 := sM hc hcz hZ (zc (d := dShapes) hShp (zc ht zn))
 have hp0 := meas_pos hb
 refine c_enter Tryd.func34 rfl Tryd.ntmps34 rfl (fun c0 d0 => ?_)
 refine wsc (fun c0 f0 => ?_)
 refine asg d0 (fun c0 h0 => ?_)
 refine wpList_nil (x_then_n (f0 _ _ ?_))
 refine wp_seq_k (fun f0 c0 => ?_)
 refine wsc (fun f0 d0 => ?_)
 refine mv h0 (fun f0 i0 => ?_)
 have f0 := b0.nf
 refine k_call (xs := [.tmp 5]) se i0 rfl rfl rfl (by decide) ok31 (vroot_calls _ _ f0.il _ _ _ (f0.g 1)) ?_
 rintro i0 b0 ⟨rfl, h0⟩
 have b0 := f0.below h0.below
 refine ⟨_, rfl, fun h0 f0 => ?_⟩
 refine m_fieldV (v := .int .i64 (((nth t (t.length - 1)).K))) sv f0 rfl rfl rfl (fun _ => by kernel_rfl) (by decide) (fun h0 i0 => ?_)
 refine r_eql sv i0 rfl rfl rfl rfl (by decide) (fun h0 f0 => ?_)
 refine wpList_nil (x_then_n (d0 _ _ ?_))
 rcases Decidable.em ((((nth t (t.length - 1)).K)) = 4) with d0 | d0
 ·
  have h0 := f0.setb (d := 8) (b := true) rfl (decide_eq_true d0)
  refine wp_cond_true (h0.ev rfl) ?_
  refine wsc (fun i0 j0 => ?_)
  refine mv h0 (fun i0 k0 => ?_)
  have i0 := b0.nf
  refine k_call (xs := [.tmp 9]) se k0 rfl rfl rfl (by decide) ok33 (vparts_calls _ _ i0.il _ _ _ (i0.g 0) (i0.g 1)) ?_
  rintro k0 h0 ⟨m0, n0, o0, rfl, p0, q0, s0, t0⟩
  have n0 := i0.below p0.below
  have p0 := i0.dN n0 q0
  have n0 := i0.dN p0 s0
  refine ⟨_, rfl, fun p0 s0 => ?_⟩
  obtain ⟨hbl1, hbl2, hbl3⟩ := bodL_lam hb t0 (by assumption)
  refine m_index (i := 1) (j := 1 * 1) sv s0 rfl rfl rfl rfl Tryd.underlying39 sz22 (by omega) (by omega) (ss_elem (t := o0) (k := 1) (n0.row (i := 2) rfl).2 (by omega)).some_ rfl (by decide) (fun t0 p0 => ?_)
  refine m_loadE sv p0 rfl rfl rfl 0 (1 * 1) (ss_elem (t := o0) (k := 1) (n0.row (i := 2) rfl).2 (by omega)) rfl rfl Tryd.underlying22 rfl (by decide) (fun t0 s0 => ?_)
  have t0 := n0.data (dRow 4 ((nthS o0 1).1) ((nthS o0 1).2.2.length) ((nthS o0 1).2.1) (encNs ((nthS o0 1).2.2))) (all_at (t := o0) (k := 1) (n0.get (i := 3) rfl) (by omega))
  refine asg s0 (fun n0 p0 => ?_)
  refine wpList_nil (x_then_n (j0 _ _ ?_))
  refine wp_ret ?_
  refine x_then_r ?_
  refine e_ret1 p0 rfl rfl rfl ?_
  refine ⟨((nthS o0 1).1), ((nthS o0 1).2.1), ((nthS o0 1).2.2), ?_, t0.fr, (by rw [show (if bodE (treeOf t) = true then 2 else ce : Int) = (ce) by (rw [hbl3]; rfl)]; exact t0.res (i := 0) rfl), t0.rx 4, hbl2⟩
  exact congrArg Ending.returned (ret_s (by first | rfl | (simp; done)))
 ·
  have t0 := f0.setb (d := 8) (b := false) rfl (decide_eq_false d0)
  refine wp_cond_false (t0.ev rfl) ?_
  refine wp_skip ?_
  refine x_then_n (c0 _ _ ?_)
  refine wsc (fun c0 d0 => ?_)
  refine mv t0 (fun c0 f0 => ?_)
  refine mv f0 (fun c0 t0 => ?_)
  have c0 := b0.nf
  refine k_call (xs := [.tmp 13, .tmp 14]) se t0 rfl rfl rfl (by decide) ok42 (vapplied_calls _ _ c0.il _ _ _ _ _ _ (c0.g 0) (c0.z 0) (imm_box (i := 0) rfl) (c0.g 1)) ?_
  rintro t0 b0 ⟨f0, o0, p0, rfl, j0, n0, s0, i0⟩
  have b0 := c0.callM (i := 0) rfl j0 n0
  have n0 := c0.dM 0 b0 s0
  refine ⟨_, rfl, fun b0 s0 => ?_⟩
  refine asg s0 (fun b0 c0 => ?_)
  refine wpList_nil (x_then_n (d0 _ _ ?_))
  refine wp_ret ?_
  refine e_ret1 c0 rfl rfl rfl ?_
  refine ⟨f0, o0, p0, ?_, n0.fr, (by rw [show (if bodE (treeOf t) = true then 2 else ce : Int) = ((if icE 0 (treeOf t) = true then 2 else (ce))) by rw [(bodL_oth hb (by assumption)).2]]; exact n0.res (i := 0) rfl), n0.rx 2, (by rw [i0]; exact (bodL_oth hb (by assumption)).1)⟩
  exact congrArg Ending.returned (ret_s (by first | rfl | (simp; done)))
end Go.Proofs.YthdemmcfnpmmiaaDoor
/- Maps from numbers to functions: made, looked into. -/
namespace Go.Proofs.YthdemmcfnpmmiaaDoor
set_option linter.unusedSimpArgs false
set_option linter.unusedVariables false
open Go.RowKit Go.MapKept
def dMap (b : Nat) (es : List MapEntry) (c : Nat) : Dat := ⟨fun w I => I b ∧ w.heap[b]? = some (.map es.toArray c), fun _ _ _ _ _ h hk => ⟨(hk b h.1).1, (hk b h.1).2.trans h.2⟩⟩
section
variable {P : Program} {X : Prop} {Next : Act → World → Prop} {o : Oper} {a : Act} {w w1 : World} {N : Nat} {l : List (Nat × Value)} {d : Nat} {t kt et : TypeId} {es : List MapEntry} {c b i : Nat} {z : Int} {u : Value} {x y m : Operand}
end
end Go.Proofs.YthdemmcfnpmmiaaDoor
/- The map of what does not count: made, looked into. -/
namespace Go.Proofs.YthdemmcfnpmmiaaDoor
set_option linter.unusedSimpArgs false
set_option linter.unusedVariables false
open Go Go.RowKit Go.MapKept
def wA (w : World) (os : List Obj) : World := { w with heap := w.heap ++ os.toArray }
theorem wA_nil (w : World) : wA w [] = w := by simp [wA]
theorem wA_alloc (w : World) (os : List Obj) (o : Obj) : (wA w os).alloc o = wA w (os ++ [o]) := by
 unfold wA World.alloc
 congr 1
 apply Array.ext'
 simp
theorem wA_size (w : World) (os : List Obj) : (wA w os).heap.size = w.heap.size + os.length := by simp [wA]
theorem wA_at (w : World) (os : List Obj) (j : Nat) : (wA w os).heap[w.heap.size + j]? = os[j]? := by
 simp only [wA, Array.getElem?_append]
 rw [if_neg (by omega), Nat.add_sub_cancel_left]
 simp
theorem wA_old (w : World) (os : List Obj) {k : Nat} (h : k < w.heap.size) : (wA w os).heap[k]? = w.heap[k]? := by
 simp [wA, Array.getElem?_append, h]
theorem wA_set (w : World) (os : List Obj) (j : Nat) (o : Obj) : { wA w os with heap := (wA w os).heap.setIfInBounds (w.heap.size + j) o } = wA w (os.set j o) := by
 have e : (wA w os).heap.setIfInBounds (w.heap.size + j) o = (wA w (os.set j o)).heap := by
  apply Array.ext'
  simp [wA, List.set_append_right]
 rw [e]
 rfl
section
variable {P : Program} {X : Prop} {Next : Act → World → Prop} {o : Oper} {a : Act} {w w1 : World} {N : Nat} {l : List (Nat × Value)} {d : Nat} {t kt et : TypeId} {es : List MapEntry} {c b j : Nat} {z : Int} {u zv : Value} {x y m : Operand} {os : List Obj}
theorem m_makeMapA (hs : SteV P X Next o a (wA w os)) (hR : Reg a N l) (hd : o.dst = some d) (ho : o.op = .makeMap t none) (hdN : d < N)
  (k : ∀ a', Reg a' N ((d, .map (some (w.heap.size + os.length))) :: l) → Next a' (wA w (os ++ [.map ([] : List MapEntry).toArray 0]))) : X := by
 rw [← wA_alloc] at k
 rw [← wA_size] at k
 refine hs.val (.map (some (wA w os).heap.size)) ((wA w os).alloc (.map #[] 0)) ?_ (by rw [hd]; exact k _ (hR.put hdN _))
 unfold execOp; rw [ho]
 simp [Instr.makeMap, Sem.run_bind]
theorem m_insA (hs : Ste P X Next o a (wA w os)) (hR : Reg a N l) (hd : o.dst = none) (ho : o.op = .insert t m x y) (hm : ev l m = some (.map (some (w.heap.size + j)))) (hx : ev l x = some (.int .i64 z)) (hy : ev l y = some u)
  (hj : os[j]? = some (.map es.toArray c)) (ht : P.underlying t = some (.map kt et)) (hkt : P.underlying kt = some (.int .i64)) (hf : Instr.findNow (.int .i64) (.int .i64 z) es 0 = some none)
  (k : ∀ a', Reg a' N l → Next a' (wA w (os.set j (.map (es ++ [(⟨.int .i64 z, u, c⟩ : MapEntry)]).toArray (c + 1))))) : X := by
 have hb : (wA w os).heap[w.heap.size + j]? = some (.map es.toArray c) := (wA_at w os j).trans hj
 have hk : IsKey (.int .i64) (.int .i64 z) := rfl
 rw [← wA_set] at k
 refine hs.skip _ ?_ (by rw [hd]; exact k _ (hR.put_none _))
 unfold execOp; rw [ho]
 simp only [hR.ev hm, hR.ev hx, hR.ev hy, Instr.mapUpdate, Sem.run_bind, run_underlying ht, Result.andThen_ok, Go.MapKept.run_getObj_map hb, run_checkKey hkt hk, run_findKey hkt hf, run_setObj_map _ hb]
 rw [← List.push_toArray]
 rfl
theorem zero_run {z0 : Value} (hz : (P.info? et).map (·.zero) = some (some z0)) (w : World) : (zeroValue et).run P w = .ok z0 w := by
 cases hq : P.info? et with
 | none => simp [hq] at hz
 | some inf =>
  have : inf.zero = some z0 := by simpa [hq] using hz
  simp [zeroValue, typeInfo, hq, this]
def lkR (z : Value) : Option (Nat × Value) → Value
 | some (_, v) => v
 | none => z
theorem lk_run {r : Option (Nat × Value)} (hR : Reg a N l) (ho : o.op = .lookup t x y false) (hx : ev l x = some (.map (some b))) (hy : ev l y = some (.int .i64 z)) (hb : w.heap[b]? = some (.map es.toArray c))
  (ht : P.underlying t = some (.map kt et)) (hkt : P.underlying kt = some (.int .i64)) (hf : Instr.findNow (.int .i64) (.int .i64 z) es 0 = some r) (hz : (P.info? et).map (·.zero) = some (some zv)) :
  (execOp a.eval o).run P w = .ok (.value (lkR zv r)) w := by
 have hk : IsKey (.int .i64) (.int .i64 z) := rfl
 unfold execOp; rw [ho]
 cases r with
 | none => simp [lkR, hR.ev hx, hR.ev hy, Instr.lookup, Sem.run_bind, run_underlying ht, Result.andThen_ok, Go.MapKept.run_getObj_map hb, run_checkKey hkt hk, run_findKey hkt hf, zero_run hz]
 | some p => simp [lkR, hR.ev hx, hR.ev hy, Instr.lookup, Sem.run_bind, run_underlying ht, Result.andThen_ok, Go.MapKept.run_getObj_map hb, run_checkKey hkt hk, run_findKey hkt hf]
theorem lk_nil (hR : Reg a N l) (ho : o.op = .lookup t x y false) (hx : ev l x = some (.map none)) (hy : ev l y = some (.int .i64 z))
  (ht : P.underlying t = some (.map kt et)) (hkt : P.underlying kt = some (.int .i64)) (hz : (P.info? et).map (·.zero) = some (some zv)) :
  (execOp a.eval o).run P w = .ok (.value zv) w := by
 have hk : IsKey (.int .i64) (.int .i64 z) := rfl
 have hf : Instr.findNow (.int .i64) (.int .i64 z) [] 0 = some none := rfl
 unfold execOp; rw [ho]
 simp [hR.ev hx, hR.ev hy, Instr.lookup, Sem.run_bind, run_underlying ht, Result.andThen_ok, run_checkKey hkt hk, run_findKey hkt hf, zero_run hz]
abbrev IQ := Nat × Nat × Nat × Nat
def idV (q : IQ) (K : Int) : Value := if K = 20 then .map (some q.1) else if K = 24 then .map (some q.2.1) else if K = 15 then .map (some q.2.2.1) else if K = 22 then .map (some q.2.2.2) else .map none
def idI (K : Int) (i : Nat) : Int := if idleK K i = true then 1 else 0
theorem id0 {K : Int} {i : Nat} (h : idleK K i = false) : idI K i = 0 := by unfold idI; rw [h]; rfl
def mE (k : Int) (v : Value) (n : Nat) : MapEntry := ⟨.int .i64 k, v, n⟩
def idOut (q : IQ) : List MapEntry := [mE 20 (.map (some q.1)) 0, mE 24 (.map (some q.2.1)) 1, mE 15 (.map (some q.2.2.1)) 2, mE 22 (.map (some q.2.2.2)) 3]
def dIdle (b : Nat) (q : IQ) : Dat := ⟨fun w I => (dMap b (idOut q) 4).φ w I ∧ (dMap q.1 [mE 2 (.int .i64 1) 0] 1).φ w I ∧ (dMap q.2.1 [mE 2 (.int .i64 1) 0] 1).φ w I ∧ (dMap q.2.2.1 [mE 1 (.int .i64 1) 0] 1).φ w I ∧ (dMap q.2.2.2 [mE 2 (.int .i64 1) 0, mE 3 (.int .i64 1) 1, mE 4 (.int .i64 1) 2] 3).φ w I,
 fun _ _ _ _ hl h hk => ⟨(dMap _ _ _).mono _ _ _ _ hl h.1 hk, (dMap _ _ _).mono _ _ _ _ hl h.2.1 hk, (dMap _ _ _).mono _ _ _ _ hl h.2.2.1 hk, (dMap _ _ _).mono _ _ _ _ hl h.2.2.2.1 hk, (dMap _ _ _).mono _ _ _ _ hl h.2.2.2.2 hk⟩⟩
theorem same_int (p q : Int) : Instr.sameNow (.int .i64) (.int .i64 p) (.int .i64 q) = some (p == q) := by simp [Instr.sameNow]
theorem find_cons (p q : Int) (v : Value) (n i : Nat) (es : List MapEntry) : Instr.findNow (.int .i64) (.int .i64 p) (mE q v n :: es) i = if p = q then some (some (i, v)) else Instr.findNow (.int .i64) (.int .i64 p) es (i + 1) := by
 rw [Instr.findNow]
 simp only [mE, same_int]
 by_cases h : p = q
 · subst h; simp
 ·
  have : (p == q) = false := by simpa using h
  rw [this, if_neg h]
theorem r_val {v : Value} (hs : SteV P X Next o a w) (hR : Reg a N l) (hd : o.dst = some d) (hdN : d < N) (h : (execOp a.eval o).run P w = .ok (.value v) w) (k : ∀ a', Reg a' N ((d, v) :: l) → Next a' w) : X :=
 hs.val v w h (by rw [hd]; exact k _ (hR.put hdN _))
theorem m_lkO {q : IQ} {I : Nat → Prop} (hs : SteV P X Next o a w) (hR : Reg a N l) (hd : o.dst = some d) (ho : o.op = .lookup t x y false) (hx : ev l x = some (.map (some b))) (hy : ev l y = some (.int .i64 z)) (hD : (dIdle b q).φ w I)
  (ht : P.underlying t = some (.map kt et)) (hkt : P.underlying kt = some (.int .i64)) (hz : (P.info? et).map (·.zero) = some (some (.map none))) (hdN : d < N) (k : ∀ a', Reg a' N ((d, idV q z) :: l) → Next a' w) : X := by
 refine r_val hs hR hd hdN ?_ k
 by_cases h1 : z = 20
 · subst h1; exact lk_run hR ho hx hy hD.1.2 ht hkt (r := some (0, .map (some q.1))) rfl hz
 by_cases h2 : z = 24
 · subst h2; exact lk_run hR ho hx hy hD.1.2 ht hkt (r := some (1, .map (some q.2.1))) rfl hz
 by_cases h3 : z = 15
 · subst h3; exact lk_run hR ho hx hy hD.1.2 ht hkt (r := some (2, .map (some q.2.2.1))) rfl hz
 by_cases h4 : z = 22
 · subst h4; exact lk_run hR ho hx hy hD.1.2 ht hkt (r := some (3, .map (some q.2.2.2))) rfl hz
 have hv : idV q z = .map none := by unfold idV; rw [if_neg h1, if_neg h2, if_neg h3, if_neg h4]
 rw [hv]
 refine lk_run hR ho hx hy hD.1.2 ht hkt (r := none) ?_ hz
 unfold idOut
 rw [find_cons, if_neg h1, find_cons, if_neg h2, find_cons, if_neg h3, find_cons, if_neg h4]
 rfl
theorem m_lkI {q : IQ} {I : Nat → Prop} {K : Int} {i : Nat} (hs : SteV P X Next o a w) (hR : Reg a N l) (hd : o.dst = some d) (ho : o.op = .lookup t x y false) (hx : ev l x = some (idV q K)) (hy : ev l y = some (.int .i64 z)) (hi : z = (i : Int)) (hD : (dIdle b q).φ w I)
  (ht : P.underlying t = some (.map kt et)) (hkt : P.underlying kt = some (.int .i64)) (hz : (P.info? et).map (·.zero) = some (some (.int .i64 0))) (hdN : d < N) (k : ∀ a', Reg a' N ((d, .int .i64 (idI K i)) :: l) → Next a' w) : X := by
 subst hi
 refine r_val hs hR hd hdN ?_ k
 have key : ∀ (b' c' : Nat) (es : List MapEntry), ev l x = some (.map (some b')) → (dMap b' es c').φ w I → (∀ v, idI K i = v → ∃ r, Instr.findNow (.int .i64) (.int .i64 (i : Int)) es 0 = some r ∧ lkR (.int .i64 0) r = Value.int .i64 v) → (execOp a.eval o).run P w = .ok (.value (.int .i64 (idI K i))) w := fun b' c' es h1 h2 h3 => by
  obtain ⟨r, h4, h5⟩ := h3 _ rfl
  have := lk_run hR ho h1 hy h2.2 ht hkt h4 hz
  rw [this]
  rw [h5]
 unfold idV at hx
 by_cases h1 : K = 20
 ·
  subst h1
  refine key _ _ _ (hx.trans (by rw [if_pos rfl])) hD.2.1 (fun v hv => ?_)
  rw [find_cons]
  by_cases hi : (i : Int) = 2
  ·
   have : i = 2 := by omega
   subst this; exact ⟨_, if_pos rfl, by rw [← hv]; rfl⟩
  ·
   refine ⟨none, by rw [if_neg hi]; rfl, ?_⟩
   rw [← hv]; exact congrArg _ (id0 (by unfold idleK; simp; omega)).symm
 rw [if_neg h1] at hx
 by_cases h2 : K = 24
 ·
  subst h2
  refine key _ _ _ (hx.trans (by rw [if_pos rfl])) hD.2.2.1 (fun v hv => ?_)
  rw [find_cons]
  by_cases hi : (i : Int) = 2
  ·
   have : i = 2 := by omega
   subst this; exact ⟨_, if_pos rfl, by rw [← hv]; rfl⟩
  ·
   refine ⟨none, by rw [if_neg hi]; rfl, ?_⟩
   rw [← hv]; exact congrArg _ (id0 (by unfold idleK; simp; omega)).symm
 rw [if_neg h2] at hx
 by_cases h3 : K = 15
 ·
  subst h3
  refine key _ _ _ (hx.trans (by rw [if_pos rfl])) hD.2.2.2.1 (fun v hv => ?_)
  rw [find_cons]
  by_cases hi : (i : Int) = 1
  ·
   have : i = 1 := by omega
   subst this; exact ⟨_, if_pos rfl, by rw [← hv]; rfl⟩
  ·
   refine ⟨none, by rw [if_neg hi]; rfl, ?_⟩
   rw [← hv]; exact congrArg _ (id0 (by unfold idleK; simp; omega)).symm
 rw [if_neg h3] at hx
 by_cases h4 : K = 22
 ·
  subst h4
  refine key _ _ _ (hx.trans (by rw [if_pos rfl])) hD.2.2.2.2 (fun v hv => ?_)
  rw [find_cons, find_cons, find_cons]
  by_cases hi : (i : Int) = 2
  ·
   have : i = 2 := by omega
   subst this; exact ⟨_, if_pos rfl, by rw [← hv]; rfl⟩
  by_cases hi3 : (i : Int) = 3
  ·
   have : i = 3 := by omega
   subst this; exact ⟨some (1, .int .i64 1), rfl, by rw [← hv]; rfl⟩
  by_cases hi4 : (i : Int) = 4
  ·
   have : i = 4 := by omega
   subst this; exact ⟨some (2, .int .i64 1), rfl, by rw [← hv]; rfl⟩
  ·
   refine ⟨none, by rw [if_neg hi, if_neg hi3, if_neg hi4]; rfl, ?_⟩
   rw [← hv]; exact congrArg _ (id0 (by unfold idleK; simp; omega)).symm
 rw [if_neg h4] at hx
 have h0 : idI K i = 0 := by
  unfold idI idleK
  rw [if_neg]
  simp [h1, h2, h3, h4]
 rw [h0]
 exact lk_nil hR ho hx hy ht hkt hz
end
end Go.Proofs.YthdemmcfnpmmiaaDoor
/- The map of what does not count: the function that makes it. -/
namespace Go.Proofs.YthdemmcfnpmmiaaDoor
set_option linter.unusedSimpArgs false
set_option linter.unusedVariables false
open Go.RowKit
theorem wA_fr (w : World) (os : List Obj) : Fr none_ w (wA w os) := ⟨rfl, rfl, rfl, by rw [wA_size]; omega, fun k hk _ => wA_old w os hk⟩
theorem wA_dat {Z : Nat → Prop} {w : World} {os : List Obj} {es : List MapEntry} {c : Nat} (j : Nat) (h : os[j]? = some (.map es.toArray c)) : (dMap (w.heap.size + j) es c).φ (wA w os) (nxt Z w (wA w os)) :=
 ⟨⟨by rw [wA_size]; have := (List.getElem?_eq_some_iff.1 h).1; omega, fun h => absurd h (by omega)⟩, (wA_at w os j).trans h⟩
set_option maxRecDepth 100000 in
theorem idle_calls (w0 : World) (Z : Nat → Prop) (hZ : ∀ k, Z k → k < w0.heap.size) : Calls Tryd.prog 26 ([] : List Value).toArray w0 (fun e w' => ∃ b, ∃ q : IQ, e = .returned (.map (some b)) ∧ Fr none_ w0 w' ∧ (dIdle b q).φ w' (nxt Z w0 w')) := by
 refine c_enter Tryd.func26 rfl Tryd.ntmps26 rfl (fun a1 hR0 => ?_)
 refine wsc (fun K4 hK5 => ?_)
 refine asg hR0 (fun a1 hR0 => ?_)
 refine wpList_nil (x_then_n (hK5 _ _ ?_))
 refine wsc (fun K8 hK9 => ?_)
 rw [← wA_nil w0]
 refine m_makeMapA (os := []) sv hR0 rfl rfl (by decide) (fun a1 hR0 => ?_)
 refine m_makeMapA sv hR0 rfl rfl (by decide) (fun a1 hR0 => ?_)
 refine m_insA (j := 1) se hR0 rfl rfl rfl rfl rfl rfl Tryd.underlying64 Tryd.underlying3 rfl (fun a1 hR0 => ?_)
 refine mv hR0 (fun a1 hR0 => ?_)
 refine m_insA (j := 0) se hR0 rfl rfl rfl rfl rfl rfl Tryd.underlying52 Tryd.underlying3 rfl (fun a1 hR0 => ?_)
 refine m_makeMapA sv hR0 rfl rfl (by decide) (fun a1 hR0 => ?_)
 refine m_insA (j := 2) se hR0 rfl rfl rfl rfl rfl rfl Tryd.underlying64 Tryd.underlying3 rfl (fun a1 hR0 => ?_)
 refine mv hR0 (fun a1 hR0 => ?_)
 refine m_insA (j := 0) se hR0 rfl rfl rfl rfl rfl rfl Tryd.underlying52 Tryd.underlying3 rfl (fun a1 hR0 => ?_)
 refine m_makeMapA sv hR0 rfl rfl (by decide) (fun a1 hR0 => ?_)
 refine m_insA (j := 3) se hR0 rfl rfl rfl rfl rfl rfl Tryd.underlying64 Tryd.underlying3 rfl (fun a1 hR0 => ?_)
 refine mv hR0 (fun a1 hR0 => ?_)
 refine m_insA (j := 0) se hR0 rfl rfl rfl rfl rfl rfl Tryd.underlying52 Tryd.underlying3 rfl (fun a1 hR0 => ?_)
 refine m_makeMapA sv hR0 rfl rfl (by decide) (fun a1 hR0 => ?_)
 refine m_insA (j := 4) se hR0 rfl rfl rfl rfl rfl rfl Tryd.underlying64 Tryd.underlying3 rfl (fun a1 hR0 => ?_)
 refine m_insA (j := 4) se hR0 rfl rfl rfl rfl rfl rfl Tryd.underlying64 Tryd.underlying3 rfl (fun a1 hR0 => ?_)
 refine m_insA (j := 4) se hR0 rfl rfl rfl rfl rfl rfl Tryd.underlying64 Tryd.underlying3 rfl (fun a1 hR0 => ?_)
 refine mv hR0 (fun a1 hR0 => ?_)
 refine m_insA (j := 0) se hR0 rfl rfl rfl rfl rfl rfl Tryd.underlying52 Tryd.underlying3 rfl (fun a1 hR0 => ?_)
 refine mv hR0 (fun a1 hR0 => ?_)
 refine asg hR0 (fun a1 hR0 => ?_)
 refine wpList_nil (x_then_n (hK9 _ _ ?_))
 refine wp_ret ?_
 refine e_ret1 hR0 rfl rfl rfl ?_
 exact ⟨_, (w0.heap.size + 1, w0.heap.size + 2, w0.heap.size + 3, w0.heap.size + 4), rfl, wA_fr _ _, wA_dat 0 rfl, wA_dat 1 rfl, wA_dat 2 rfl, wA_dat 3 rfl, wA_dat 4 rfl⟩
end Go.Proofs.YthdemmcfnpmmiaaDoor
/- Terms compared: the comparer's paths. -/
namespace Go.Proofs.YthdemmcfnpmmiaaDoor
set_option linter.unusedSimpArgs false
set_option linter.unusedVariables false
open Go Go.RowKit
theorem cast_list {u : List Nd} {P : List Sl} (hb : measB u = true) (hk : (nth u (u.length - 1)).K = 20) (hL : lsts P = ptL u) : P.length = 4 ∧ measB (nthS P 0).2.2 = true ∧ measB (nthS P 1).2.2 = true ∧ measB (nthS P 3).2.2 = true ∧
  muT (treeOf (nthS P 0).2.2) + muT (treeOf (nthS P 1).2.2) + 1 ≤ muT (treeOf u) ∧ muT (treeOf (nthS P 3).2.2) + 1 ≤ muT (treeOf u) ∧
  br (treeOf u) = if (cv (treeOf (nthS P 0).2.2) (treeOf (nthS P 1).2.2)).2 = true then br (treeOf (nthS P 3).2.2) else ((cv (treeOf (nthS P 0).2.2) (treeOf (nthS P 1).2.2)).1, treeOf u) := by
 have hr : (treeOf u).root.K = 20 := by rw [root_tr hb]; exact hk
 have h4 := args20 (mt_wf hb) hr
 obtain ⟨a1, a2, a3⟩ := kid_at (i := 0) hb hL (by omega)
 obtain ⟨_, b2, b3⟩ := kid_at (i := 1) hb hL (by omega)
 obtain ⟨_, c2, c3⟩ := kid_at (i := 3) hb hL (by omega)
 rw [a2, b2, c2]
 exact ⟨by omega, a3, b3, c3, kid_mu2 (by decide) (by omega), kid_mu (by omega), br_eq (mt_wf hb) hr⟩
theorem bare_end {t u : List Nd} (hb : measB u = true) (hbr : br (treeOf u) = br (treeOf t)) (hk : ¬ (nth u (u.length - 1)).K = 20) : u = brL t ∧ brE t = 0 := by
 obtain ⟨h1, h2⟩ := brL_no hb hk
 show u = (br (treeOf t)).2.flat ∧ (br (treeOf t)).1 = 0
 rw [← hbr]
 exact ⟨h1.symm, h2⟩
theorem bare_stop {t u : List Nd} {x : T} {c : Int × Bool} (hb : measB u = true) (hbr : br (treeOf u) = br (treeOf t)) (h : br (treeOf u) = if c.2 = true then br x else (c.1, treeOf u)) (hc : c.2 = false) : u = brL t ∧ brE t = c.1 := by
 unfold brL brE
 rw [← hbr, h, if_neg (by rw [hc]; decide)]
 exact ⟨(treeOf_meas hb).2.symm, rfl⟩
theorem bare_on {t u : List Nd} {x : T} {c : Int × Bool} (hbr : br (treeOf u) = br (treeOf t)) (h : br (treeOf u) = if c.2 = true then br x else (c.1, treeOf u)) (hc : c.2 = true) : br x = br (treeOf t) := by
 rw [← hbr, h, if_pos hc]
theorem len_ok {t : List Nd} {N : Nat} (h : measB t = true) (hm : muT (treeOf t) ≤ N) (hN : N ≤ 1000000) : t.length ≤ 1000000 ∧ 0 < t.length := ⟨by have := len_mu h; omega, meas_pos h⟩
theorem muC_le {x : Cp} {N : Nat} (h : muC x ≤ N) : muT (treeOf x.1.2.2) ≤ N ∧ muT (treeOf x.2.2.2) ≤ N := by
 have h1 : muC x = muT (treeOf x.1.2.2) + muT (treeOf x.2.2.2) := rfl
 omega
section
variable {x : Cp} {a b : List Nd}
theorem c_k1' (hx : goC x) (h1 : ¬ (nth x.1.2.2 (x.1.2.2.length - 1)).K = 29) (h2 : ¬ (nth x.2.2.2 (x.2.2.2.length - 1)).K = 29) (he : brE x.1.2.2 = 0) (ha : a = brL x.1.2.2) (hk : (nth a (a.length - 1)).K = 29) : cv (trC x).1 (trC x).2 = (0, true) := by
 subst ha; exact c_k1 hx h1 h2 he hk
theorem c_e2' (hx : goC x) (h1 : ¬ (nth x.1.2.2 (x.1.2.2.length - 1)).K = 29) (h2 : ¬ (nth x.2.2.2 (x.2.2.2.length - 1)).K = 29) (he : brE x.1.2.2 = 0) (ha : a = brL x.1.2.2) (hk : ¬ (nth a (a.length - 1)).K = 29) (he2 : ¬ brE x.2.2.2 = 0) : cv (trC x).1 (trC x).2 = (brE x.2.2.2, false) := by
 subst ha; exact c_e2 hx h1 h2 he hk he2
theorem c_k2' (hx : goC x) (h1 : ¬ (nth x.1.2.2 (x.1.2.2.length - 1)).K = 29) (h2 : ¬ (nth x.2.2.2 (x.2.2.2.length - 1)).K = 29) (he : brE x.1.2.2 = 0) (ha : a = brL x.1.2.2) (hk : ¬ (nth a (a.length - 1)).K = 29) (he2 : brE x.2.2.2 = 0) (hb : b = brL x.2.2.2) (hk2 : (nth b (b.length - 1)).K = 29) : cv (trC x).1 (trC x).2 = (0, true) := by
 subst ha hb; exact c_k2 hx h1 h2 he hk he2 hk2
theorem goC_snoc {K : List Cp} {y : Cp} (h : ∀ z ∈ K, goC z) (hy : goC y) : ∀ z ∈ K ++ [y], goC z := fun z hz => by
 rcases List.mem_append.1 hz with hz | hz
 · exact h z hz
 · rw [List.mem_singleton] at hz; subst hz; exact hy
end
section
variable {A B : T} {N : Nat} {Ls : List Cp} {a b : List Nd}
theorem CB.of {x : Cp} (hx : goC x) (h1 : ¬ (nth x.1.2.2 (x.1.2.2.length - 1)).K = 29) (h2 : ¬ (nth x.2.2.2 (x.2.2.2.length - 1)).K = 29) (e1 : brE x.1.2.2 = 0) (e2 : brE x.2.2.2 = 0) (ha : a = brL x.1.2.2) (hb : b = brL x.2.2.2)
  (k1 : ¬ (nth a (a.length - 1)).K = 29) (k2 : ¬ (nth b (b.length - 1)).K = 29) : CB x := ⟨hx, h1, h2, e1, e2, ha ▸ k1, hb ▸ k2⟩
theorem br_facts {x : List Nd} (h : measB x = true) (hm : muT (treeOf x) ≤ N) (hN : N ≤ 1000000) (ha : a = brL x) : measB a = true ∧ a.length ≤ 1000000 ∧ 0 < a.length ∧ muT (treeOf a) ≤ N := by
 obtain ⟨h1, _, h3⟩ := brL_ok h
 subst ha
 obtain ⟨h4, h5⟩ := len_ok h1 (Nat.le_trans h3 hm) hN
 exact ⟨h1, h4, h5, Nat.le_trans h3 hm⟩
theorem CInv.nx (h : CInv A B N Ls) (h0 : 0 < Ls.length) (hc : CB (nthC Ls (Ls.length - 1))) {l : List (T × T)} {K : List Cp} (ha : a = brL (nthC Ls (Ls.length - 1)).1.2.2) (hb : b = brL (nthC Ls (Ls.length - 1)).2.2.2)
  (hE : stepE (treeOf a) (treeOf b) = false) (hl : stepL (treeOf a) (treeOf b) = some l) (hK : K.reverse.map trC = l) (hm : ∀ y ∈ K, goC y) (hk : K.length ≤ 12) : CInv A B N (Ls.take (Ls.length - 1) ++ K) ∧ wgt (Ls.take (Ls.length - 1) ++ K) < wgt Ls := by
 subst ha hb
 obtain ⟨h1, h2⟩ := hc.step hE hl hK hm
 exact h.next h0 hk h1 h2
theorem CInv.lam (h : CInv A B N Ls) (h0 : 0 < Ls.length) (hc : CB (nthC Ls (Ls.length - 1))) (ha : a = brL (nthC Ls (Ls.length - 1)).1.2.2) (hb : b = brL (nthC Ls (Ls.length - 1)).2.2.2)
  (hk : (nth a (a.length - 1)).K = 4 ∨ (nth b (b.length - 1)).K = 4) (he : bodE (treeOf a) = false ∧ bodE (treeOf b) = false) {y : Cp} (h1 : y.1.2.2 = bodL a) (h2 : y.2.2.2 = bodL b) : CInv A B N (Ls.take (Ls.length - 1) ++ [y]) ∧ wgt (Ls.take (Ls.length - 1) ++ [y]) < wgt Ls := by
 have ma : measB a = true := ha ▸ (brL_ok hc.ok.1).1
 have mb : measB b = true := hb ▸ (brL_ok hc.ok.2).1
 obtain ⟨s1, s2⟩ := st_lam ma mb hk
 obtain ⟨p1, p2⟩ := bod_list ma he.1
 obtain ⟨q1, q2⟩ := bod_list mb he.2
 refine h.nx h0 hc ha hb (by rw [s1, he.1, he.2]; rfl) s2 ?_ ?_ (by simp)
 ·
  show [(treeOf y.1.2.2, treeOf y.2.2.2)] = _
  rw [h1, h2, p1, q1]
 ·
  intro z hz
  rw [List.mem_singleton] at hz
  subst hz
  exact ⟨h1 ▸ p2, h2 ▸ q2⟩
theorem CInv.pair (h : CInv A B N Ls) (h0 : 0 < Ls.length) (hc : CB (nthC Ls (Ls.length - 1))) (ha : a = brL (nthC Ls (Ls.length - 1)).1.2.2) (hb : b = brL (nthC Ls (Ls.length - 1)).2.2.2)
  (k1 : ¬ (nth a (a.length - 1)).K = 4) (k2 : ¬ (nth b (b.length - 1)).K = 4) (hk : (nth a (a.length - 1)).K = 7 ∨ (nth b (b.length - 1)).K = 7) {y z : Cp}
  (hy1 : treeOf y.1.2.2 = snT (treeOf a) ∧ measB y.1.2.2 = true) (hy2 : treeOf y.2.2.2 = snT (treeOf b) ∧ measB y.2.2.2 = true) (hz1 : treeOf z.1.2.2 = fsT (treeOf a) ∧ measB z.1.2.2 = true) (hz2 : treeOf z.2.2.2 = fsT (treeOf b) ∧ measB z.2.2.2 = true) :
  CInv A B N (Ls.take (Ls.length - 1) ++ [y, z]) ∧ wgt (Ls.take (Ls.length - 1) ++ [y, z]) < wgt Ls := by
 have ma : measB a = true := ha ▸ (brL_ok hc.ok.1).1
 have mb : measB b = true := hb ▸ (brL_ok hc.ok.2).1
 refine h.nx h0 hc ha hb (st_no ma mb k1 k2) (st_pair ma mb k1 k2 hk) ?_ ?_ (by simp)
 ·
  show [(treeOf z.1.2.2, treeOf z.2.2.2), (treeOf y.1.2.2, treeOf y.2.2.2)] = _
  rw [hy1.1, hy2.1, hz1.1, hz2.1]
 ·
  intro x hx
  simp only [List.mem_cons, List.not_mem_nil, or_false] at hx
  rcases hx with rfl | rfl
  · exact ⟨hy1.2, hy2.2⟩
  · exact ⟨hz1.2, hz2.2⟩
theorem CInv.kids (h : CInv A B N Ls) (h0 : 0 < Ls.length) (hc : CB (nthC Ls (Ls.length - 1))) (ha : a = brL (nthC Ls (Ls.length - 1)).1.2.2) (hb : b = brL (nthC Ls (Ls.length - 1)).2.2.2)
  (k1 : ¬ (nth a (a.length - 1)).K = 4) (k2 : ¬ (nth b (b.length - 1)).K = 4) (k3 : ¬ (nth a (a.length - 1)).K = 7) (k4 : ¬ (nth b (b.length - 1)).K = 7) (hn : nth a (a.length - 1) = nth b (b.length - 1)) {K Lr : List Cp}
  (hK : K.reverse.map trC = kidsF (treeOf a) (treeOf b) 0) (hm : ∀ y ∈ K, goC y) (hl : K.length ≤ 12) (hLr : Lr = Ls.take (Ls.length - 1) ++ K) : CInv A B N Lr ∧ wgt Lr < wgt Ls := by
 have ma : measB a = true := ha ▸ (brL_ok hc.ok.1).1
 have mb : measB b = true := hb ▸ (brL_ok hc.ok.2).1
 subst hLr
 exact h.nx h0 hc ha hb (st_no ma mb k1 k2) (by rw [st_oth ma mb k1 k2 k3 k4, if_pos hn]) hK hm hl
theorem CInv.differ (h : CInv A B N Ls) (h0 : 0 < Ls.length) (hc : CB (nthC Ls (Ls.length - 1))) (ha : a = brL (nthC Ls (Ls.length - 1)).1.2.2) (hb : b = brL (nthC Ls (Ls.length - 1)).2.2.2)
  (k1 : ¬ (nth a (a.length - 1)).K = 4) (k2 : ¬ (nth b (b.length - 1)).K = 4) (k3 : ¬ (nth a (a.length - 1)).K = 7) (k4 : ¬ (nth b (b.length - 1)).K = 7) (hn : ¬ nth a (a.length - 1) = nth b (b.length - 1)) : Go.Proofs.YthdemmcfnpmmiaaDoor.cv A B = (0, false) := by
 have ma : measB a = true := ha ▸ (brL_ok hc.ok.1).1
 have mb : measB b = true := hb ▸ (brL_ok hc.ok.2).1
 refine h.stop h0 (hc.none ?_ ?_)
 · rw [← ha, ← hb]; exact st_no ma mb k1 k2
 · rw [← ha, ← hb, st_oth ma mb k1 k2 k3 k4, if_neg hn]
theorem CInv.max (h : CInv A B N Ls) (h0 : 0 < Ls.length) (hc : CB (nthC Ls (Ls.length - 1))) (ha : a = brL (nthC Ls (Ls.length - 1)).1.2.2) (hb : b = brL (nthC Ls (Ls.length - 1)).2.2.2)
  (hk : (nth a (a.length - 1)).K = 4 ∨ (nth b (b.length - 1)).K = 4) {e : Int} (he0 : e = 0) (he : ¬ (if bodE (treeOf b) = true then 2 else if bodE (treeOf a) = true then 2 else e) = 0) :
  Go.Proofs.YthdemmcfnpmmiaaDoor.cv A B = ((if bodE (treeOf b) = true then 2 else if bodE (treeOf a) = true then 2 else e), false) := by
 have ma : measB a = true := ha ▸ (brL_ok hc.ok.1).1
 have mb : measB b = true := hb ▸ (brL_ok hc.ok.2).1
 have h2 : (if bodE (treeOf b) = true then 2 else if bodE (treeOf a) = true then 2 else e) = 2 ∧ (bodE (treeOf a) || bodE (treeOf b)) = true := by
  subst he0
  cases h1 : bodE (treeOf a) <;> cases h3 : bodE (treeOf b) <;> simp_all
 rw [h2.1]
 refine h.stop h0 (hc.err ?_)
 rw [← ha, ← hb, (st_lam ma mb hk).1, h2.2]
theorem no_max {p q : Bool} {e : Int} (h : (if q = true then 2 else if p = true then 2 else e) = 0) : p = false ∧ q = false := by
 cases p <;> cases q <;> simp_all
theorem idI_0 {K : Int} {i : Nat} : idI K i = 0 ↔ idleK K i = false := by
 unfold idI
 cases idleK K i <;> simp
theorem ks_idle {x y : T} {K : List Cp} {i : Nat} (hi : 0 < i) (hn : i ≤ x.args.length) (hK : K.reverse.map trC = kidsF x y i) (h : ¬ idI x.root.K (i - 1) = 0) : K.reverse.map trC = kidsF x y (i - 1) := by
 have h1 : idleK x.root.K (i - 1) = true := by
  rw [idI_0] at h
  simpa using h
 rw [kids_step (by omega), if_pos h1, show i - 1 + 1 = i by omega]
 exact hK
theorem ks_push {P Q : List Sl} {K : List Cp} {i : Nat} (ha : measB a = true) (hb : measB b = true) (hP : lsts P = ptL a) (hQ : lsts Q = ptL b) (hn : nth a (a.length - 1) = nth b (b.length - 1)) (hi : 0 < i) (hl : i ≤ P.length)
  (hK : K.reverse.map trC = kidsF (treeOf a) (treeOf b) i) (h : idI (nth a (a.length - 1)).K (i - 1) = 0) : (K ++ [(nthS P (i - 1), nthS Q (i - 1))]).reverse.map trC = kidsF (treeOf a) (treeOf b) (i - 1) ∧ goC (nthS P (i - 1), nthS Q (i - 1)) := by
 have e1 := parts_len hP
 have hlen : (treeOf a).args.length = (treeOf b).args.length := by rw [← (wf_root (mt_wf ha)).2.1, ← (wf_root (mt_wf hb)).2.1, root_tr ha, root_tr hb, hn]
 obtain ⟨_, h2, h3⟩ := kid_at (i := i - 1) ha hP (by omega)
 obtain ⟨_, h4, h5⟩ := kid_at (i := i - 1) hb hQ (by omega)
 rw [← root_tr ha, idI_0] at h
 refine ⟨?_, h3, h5⟩
 rw [kids_step (by omega), if_neg (by rw [h]; decide), show i - 1 + 1 = i by omega, List.reverse_append, List.map_append, hK]
 show [(treeOf (nthS P (i - 1)).2.2, treeOf (nthS Q (i - 1)).2.2)] ++ _ = _
 rw [h2, h4]
 rfl
theorem parts_same {P Q : List Sl} (ha : measB a = true) (hb : measB b = true) (hP : lsts P = ptL a) (hQ : lsts Q = ptL b) (hn : nth a (a.length - 1) = nth b (b.length - 1)) : P.length = Q.length ∧ P.length ≤ 8 ∧ P.length = (treeOf a).args.length := by
 have hlen : (treeOf a).args.length = (treeOf b).args.length := by rw [← (wf_root (mt_wf ha)).2.1, ← (wf_root (mt_wf hb)).2.1, root_tr ha, root_tr hb, hn]
 rw [parts_len hP, parts_len hQ]
 exact ⟨hlen, args_le (mt_wf ha), rfl⟩
end
end Go.Proofs.YthdemmcfnpmmiaaDoor
/- Contracts of functions, one theorem each: what the call returns, and that nothing old is changed. Printed by gen.py. -/
namespace Go.Proofs.YthdemmcfnpmmiaaDoor
open Go Go.RowKit
set_option linter.unusedSimpArgs false
set_option linter.unusedVariables false
def OneC (N : Nat) : Prop := ∀ (w0 : World) (Z : Nat → Prop) (hZ : ∀ k, Z k → k < w0.heap.size) (cg cb : Nat) (cq : IQ) (ce : Int) (aA : Option Addr) (ac : Nat) (a : List Nd) (bA : Option Addr) (bc : Nat) (b : List Nd) (hShp : Shapes w0 Z) (hc : (Res.box cg 55 [.map (some cb), .int .i64 (ce)]).holds w0) (hcz : ¬ Z cg) (hci : (dIdle cb cq).φ w0 Z) (ha : (dRow 4 aA a.length ac (encNs a)).φ w0 Z) (hb : (dRow 4 bA b.length bc (encNs b)).φ w0 Z) (hba : measB a = true) (hbb : measB b = true) (hce : ce = 0) (hN : muT (treeOf a) + muT (treeOf b) ≤ N) (hB : N ≤ 1000000),
    Calls Tryd.prog 27 [.pointer (some ⟨cg, 0, none⟩), .slice aA a.length ac, .slice bA b.length bc].toArray w0 (fun e w' => e = .returned (.bool ((cv (treeOf a) (treeOf b)).2)) ∧ Fr (· = cg) w0 w' ∧ (Res.box cg 55 [.map (some cb), .int .i64 (((cv (treeOf a) (treeOf b)).1))]).holds w')
set_option maxRecDepth 100000 in
set_option maxHeartbeats 1000000 in
theorem vbare_calls (bn : Nat) (ihO : OneC bn) (w0 : World) (Z : Nat → Prop) (hZ : ∀ k, Z k → k < w0.heap.size) (cg cb : Nat) (cq : IQ) (ce : Int) (tA : Option Addr) (tc : Nat) (t : List Nd) (hShp : Shapes w0 Z) (hc : (Res.box cg 55 [.map (some cb), .int .i64 (ce)]).holds w0) (hcz : ¬ Z cg) (hci : (dIdle cb cq).φ w0 Z) (ht : (dRow 4 tA t.length tc (encNs t)).φ w0 Z) (hb : measB t = true := by first | assumption | omega | (simp; done) | (simp; omega)) (hce : ce = 0 := by first | assumption | omega | (simp; done) | (simp; omega)) (hbn : muT (treeOf t) ≤ bn + 1 := by first | assumption | omega | (simp; done) | (simp; omega)) (hB : bn + 1 ≤ 1000000 := by first | assumption | omega | (simp; done) | (simp; omega)) :
    Calls Tryd.prog 32 [.pointer (some ⟨cg, 0, none⟩), .slice tA t.length tc].toArray w0 (fun e w' => ∃ (rA0 : Option Addr) (rc0 : Nat) (rL0 : List Nd), e = .returned (.slice rA0 rL0.length rc0) ∧ Fr (· = cg) w0 w' ∧ (Res.box cg 55 [.map (some cb), .int .i64 ((brE t))]).holds w' ∧ (dRow 4 rA0 rL0.length rc0 (encNs rL0)).φ w' (nxt Z w0 w') ∧ rL0 = brL t) := by
 have b0 := sM hc hcz hZ (zc (d := dShapes) hShp (zc hci (zc ht zn)))
 refine c_enter Tryd.func32 rfl Tryd.ntmps32 rfl (fun c0 d0 => ?_)
 refine wsc (fun c0 f0 => ?_)
 refine asg d0 (fun c0 h0 => ?_)
 refine wpList_nil (x_then_n (f0 _ _ ?_))
 refine wp_seq_k (fun f0 c0 => ?_)
 refine wp_block ?_
 have f0 := b0.sub (sub_cons (i := 0) rfl (sub_cons (i := 1) rfl (sub_cons (i := 2) rfl (sub_cons (i := 2) rfl sub_nil))))
 refine wp_loop_ghost (fun gn ga gw => ∃ uA : Option Addr, ∃ uc : Nat, ∃ u : List Nd, ∃ ev : Int, (Reg ga 32 [(1000000, .bool false), (0, .pointer (some ⟨cg, 0, none⟩)), (4, .slice none 0 0), (1, .slice uA u.length uc)]) ∧ (St w0 Z (· = cg) gw [.box cg 55 [.map (some cb), .int .i64 (ev)]] [dShapes, dIdle cb cq, dRow 4 tA t.length tc (encNs t), dRow 4 uA u.length uc (encNs u)]) ∧ (ev = 0) ∧ (measB u = true) ∧ (muT (treeOf u) ≤ bn + 1) ∧ (br (treeOf u) = br (treeOf t)) ∧ (muT (treeOf u)) = gn) _ ⟨tA, tc, t, ce, (h0.sub (rc rfl (rc rfl (rc rfl (rc rfl rnl))))), f0, hce, hb, hbn, rfl, rfl⟩ ?_
 rintro f0 h0 b0 ⟨uA, uc, u, ev, d0, i0, hev, hub, hum, hbr, j0⟩
 obtain ⟨hul1, hul2⟩ := len_ok hub hum hB
 refine wp_seq_k (fun j0 b0 => ?_)
 refine wsc (fun j0 h0 => ?_)
 refine mv d0 (fun j0 f0 => ?_)
 have j0 := i0.nf
 refine k_call (xs := [.tmp 6]) se f0 rfl rfl rfl (by decide) ok31 (vroot_calls _ _ j0.il _ _ _ (j0.g 3)) ?_
 rintro f0 i0 ⟨rfl, d0⟩
 have i0 := j0.below d0.below
 refine ⟨_, rfl, fun d0 j0 => ?_⟩
 refine m_fieldV (v := .int .i64 (((nth u (u.length - 1)).K))) sv j0 rfl rfl rfl (fun _ => by kernel_rfl) (by decide) (fun d0 f0 => ?_)
 refine r_eql sv f0 rfl rfl rfl rfl (by decide) (fun d0 j0 => ?_)
 refine mv j0 (fun d0 f0 => ?_)
 rcases Decidable.em ((((nth u (u.length - 1)).K)) = 20) with d0 | d0
 ·
  have j0 := f0.setb (d := 10) (b := true) rfl (decide_eq_true d0)
  refine r_move (st_listV_w (wt j0)) j0 rfl rfl rfl (by decide) (fun k0 m0 => ?_)
  refine r_nilCheck (st_listV_w (wt m0)) m0 rfl rfl rfl (by decide) (fun k0 j0 => ?_)
  refine m_field (j' := 1) (st_listV_w (wt j0)) j0 rfl rfl rfl Tryd.underlying55 rfl sz26 rfl rfl (by decide) (fun k0 m0 => ?_)
  refine m_load (i := 0) (st_listV_w (wt m0)) m0 i0 rfl rfl rfl rfl rfl Tryd.underlying26 rfl (by decide) (fun k0 j0 => ?_)
  refine r_eql (st_listV_w (wt j0)) j0 rfl rfl rfl rfl (by decide) (fun k0 m0 => ?_)
  refine r_pick_t sv m0 rfl rfl rfl rfl (by decide) (fun k0 j0 => ?_)
  refine wpList_nil (x_then_n (h0 _ _ ?_))
  have k0 : (ev) = 0 := hev
  have m0 := j0.setb (d := 16) (b := true) rfl (decide_eq_true k0)
  refine wp_cond_true (m0.ev rfl) ?_
  refine wp_skip ?_
  refine x_then_n (b0 _ _ ?_)
  refine wp_block ?_
  refine wsc (fun b0 k0 => ?_)
  refine mv m0 (fun b0 j0 => ?_)
  have b0 := i0.nf
  refine k_call (xs := [.tmp 17]) se j0 rfl rfl rfl (by decide) ok33 (vparts_calls _ _ b0.il _ _ _ (b0.g 0) (b0.g 3)) ?_
  rintro j0 m0 ⟨n0, o0, p0, rfl, q0, s0, t0, u0⟩
  have o0 := b0.below q0.below
  have q0 := b0.dN o0 s0
  have o0 := b0.dN q0 t0
  refine ⟨_, rfl, fun q0 t0 => ?_⟩
  obtain ⟨q0, b0, s0, n0, m0, j0, v0⟩ := cast_list hub (by assumption) u0
  refine asg t0 (fun j0 m0 => ?_)
  refine wpList_nil (x_then_n (k0 _ _ ?_))
  refine wp_seq_k (fun k0 j0 => ?_)
  refine wp_seq_k (fun k0 t0 => ?_)
  obtain ⟨k0, q0, u0⟩ := o0.agree
  refine d_reg3 (n := 9) u0 6 (pc 0 0 pn) (pan_then (pan_then (pan_block (pan_then (pan_block (pan_then pan_body)))))) (fun k0 o0 x0 y0 z0 b1 => ?_)
  refine dtM 0 o0 m0 b1 (fun y0 k0 => ?_)
  refine dtM 1 o0 k0 b1 (fun y0 m0 => ?_)
  refine dt 2 rfl o0 m0 (want_n rfl) (fun x hx => m_index (i := 0) (j := 0 * 1) (sy m0) m0 rfl rfl rfl rfl Tryd.underlying39 sz22 (by omega) (by omega) (ss_elem (t := p0) (k := 0) (sdat (q0 4 _ rfl) hx.ag).2 (by omega)).some_ rfl (by decide) gt) b1 (fun y0 k0 => ?_)
  refine dt 3 rfl o0 k0 (want_n rfl) (fun x hx => m_loadE (sy k0) k0 rfl rfl rfl 0 (0 * 1) (ss_elem (t := p0) (k := 0) (sdat (q0 4 _ rfl) hx.ag).2 (by omega)) rfl rfl Tryd.underlying22 rfl (by decide) gt) b1 (fun y0 m0 => ?_)
  have y0 := z0.data (dRow 4 ((nthS p0 0).1) ((nthS p0 0).2.2.length) ((nthS p0 0).2.1) (encNs ((nthS p0 0).2.2))) (all_at (t := p0) (k := 0) (z0.get (i := 5) rfl) (by omega))
  refine dtM 4 o0 m0 b1 (fun z0 k0 => ?_)
  refine dt 5 rfl o0 k0 (want_n rfl) (fun x hx => m_index (i := 1) (j := 1 * 1) (sy k0) k0 rfl rfl rfl rfl Tryd.underlying39 sz22 (by omega) (by omega) (ss_elem (t := p0) (k := 1) (sdat (q0 4 _ rfl) hx.ag).2 (by omega)).some_ rfl (by decide) gt) b1 (fun z0 m0 => ?_)
  refine dt 6 rfl o0 m0 (want_n rfl) (fun x hx => m_loadE (sy m0) m0 rfl rfl rfl 0 (1 * 1) (ss_elem (t := p0) (k := 1) (sdat (q0 4 _ rfl) hx.ag).2 (by omega)) rfl rfl Tryd.underlying22 rfl (by decide) gt) b1 (fun z0 k0 => ?_)
  have z0 := y0.data (dRow 4 ((nthS p0 1).1) ((nthS p0 1).2.2.length) ((nthS p0 1).2.1) (encNs ((nthS p0 1).2.2))) (all_at (t := p0) (k := 1) (y0.get (i := 5) rfl) (by omega))
  refine d1 7 ?_
  have y0 := z0.nf
  refine k_call (xs := [.tmp 19, .tmp 22, .tmp 25]) (st_op rfl (want_n rfl)) k0 rfl rfl rfl (by decide) ok27 (ihO _ _ y0.il _ _ _ _ _ _ ((nthS p0 0).2.2) _ _ ((nthS p0 1).2.2) (y0.g 0) (y0.z 0) (imm_box (i := 0) rfl) (y0.g 1) (y0.g 7) (y0.g 8) b0 s0 hev (by omega) (by omega)) ?_
  rintro k0 s0 ⟨rfl, b0, z0⟩
  have s0 := y0.callM (i := 0) rfl b0 z0
  refine ⟨_, rfl, fun z0 b0 => ?_⟩
  have z0 := sWI s0 6 (pc 0 0 pn)
  refine ⟨z0, ?_⟩
  refine dt 8 rfl o0 b0 (want_n rfl) (fun x hx => r_not (sy b0) b0 rfl rfl rfl (by decide) gt) z0 (fun y0 k0 => ?_)
  refine wpAnyH_done (by kernel_rfl) (x0 _ _ ?_) _
  refine x_then_n (t0 _ _ ?_)
  rcases Bool.eq_false_or_eq_true ((cv (treeOf ((nthS p0 0).2.2)) (treeOf ((nthS p0 1).2.2))).2) with t0 | t0
  ·
   have x0 := k0.setb (d := 27) (b := false) rfl (by rw [t0]; rfl)
   refine wp_cond_false (x0.ev rfl) ?_
   refine wp_skip ?_
   refine x_then_n (j0 _ _ ?_)
   refine c_region ?_
   refine mv x0 (fun j0 y0 => ?_)
   refine m_index (i := 3) (j := 3 * 1) sv y0 rfl rfl rfl rfl Tryd.underlying39 sz22 (by omega) (by omega) (ss_elem (t := p0) (k := 3) (s0.row (i := 4) rfl).2 (by omega)).some_ rfl (by decide) (fun j0 x0 => ?_)
   refine m_loadE sv x0 rfl rfl rfl 0 (3 * 1) (ss_elem (t := p0) (k := 3) (s0.row (i := 4) rfl).2 (by omega)) rfl rfl Tryd.underlying22 rfl (by decide) (fun j0 y0 => ?_)
   have j0 := s0.data (dRow 4 ((nthS p0 3).1) ((nthS p0 3).2.2.length) ((nthS p0 3).2.1) (encNs ((nthS p0 3).2.2))) (all_at (t := p0) (k := 3) (s0.get (i := 5) rfl) (by omega))
   refine asg y0 (fun x0 z0 => ?_)
   refine wpList_nil ?_
   refine x_block_n ?_
   have x0 := j0.forget 8
   have j0 := x0.forget 7
   have x0 := j0.forget 6
   have j0 := x0.forget 5
   have x0 := j0.forget 4
   have j0 := x0.forget 3
   exact ⟨_, by omega, (nthS p0 3).1, (nthS p0 3).2.1, (nthS p0 3).2.2, (((cv (treeOf ((nthS p0 0).2.2)) (treeOf ((nthS p0 1).2.2))).1)), (z0.sub (rc rfl (rc rfl (rc rfl (rc rfl rnl))))), j0, (by rw [cv_t t0]), n0, by omega, bare_on hbr v0 t0, rfl⟩
  ·
   have j0 := k0.setb (d := 27) (b := true) rfl (by rw [t0]; rfl)
   refine wp_cond_true (j0.ev rfl) ?_
   refine wp_exit ?_
   refine x_then_e ?_
   refine x_block_e rfl ?_
   refine x_then_e ?_
   refine x_block_eq ?_
   refine x_then_n (c0 _ _ ?_)
   refine wsc (fun t0 k0 => ?_)
   refine mv j0 (fun t0 z0 => ?_)
   refine asg z0 (fun t0 j0 => ?_)
   refine wpList_nil (x_then_n (k0 _ _ ?_))
   refine wp_ret ?_
   refine e_ret1 j0 rfl rfl rfl ?_
   refine ⟨uA, uc, u, ?_, s0.fr, (by rw [show (brE t : Int) = (((cv (treeOf ((nthS p0 0).2.2)) (treeOf ((nthS p0 1).2.2))).1)) by (rw [(bare_stop hub hbr v0 (by assumption)).2])]; exact s0.res (i := 0) rfl), s0.rx 3, (bare_stop hub hbr v0 (by assumption)).1⟩
   exact congrArg Ending.returned (ret_s (by first | rfl | (simp; done)))
 ·
  have s0 := f0.setb (d := 10) (b := false) rfl (decide_eq_false d0)
  refine sps s0 (wff s0) (fun d0 f0 => ?_)
  refine sps f0 (wff f0) (fun d0 s0 => ?_)
  refine sps s0 (wff s0) (fun d0 f0 => ?_)
  refine sps f0 (wff f0) (fun d0 s0 => ?_)
  refine sps s0 (wff s0) (fun d0 f0 => ?_)
  refine r_pick_f sv f0 rfl rfl rfl rfl (by decide) (fun d0 s0 => ?_)
  refine wpList_nil (x_then_n (h0 _ _ ?_))
  refine wp_cond_false (s0.ev rfl) ?_
  refine wp_exit ?_
  refine x_then_e ?_
  refine x_then_e ?_
  refine x_block_eq ?_
  refine x_then_n (c0 _ _ ?_)
  refine wsc (fun c0 h0 => ?_)
  refine mv s0 (fun c0 d0 => ?_)
  refine asg d0 (fun c0 s0 => ?_)
  refine wpList_nil (x_then_n (h0 _ _ ?_))
  refine wp_ret ?_
  refine e_ret1 s0 rfl rfl rfl ?_
  refine ⟨uA, uc, u, ?_, i0.fr, (by rw [show (brE t : Int) = (ev) by (rw [(bare_end hub hbr (by assumption)).2]; exact hev.symm)]; exact i0.res (i := 0) rfl), i0.rx 3, (bare_end hub hbr (by assumption)).1⟩
  exact congrArg Ending.returned (ret_s (by first | rfl | (simp; done)))
end Go.Proofs.YthdemmcfnpmmiaaDoor
