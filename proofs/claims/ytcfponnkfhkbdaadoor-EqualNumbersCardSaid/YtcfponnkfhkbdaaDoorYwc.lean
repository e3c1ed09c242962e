import Derived.Test.YtcfponnkfhkbdaaDoorYwb
import Derived.MapKept
/- Contracts of functions, one theorem each: what the call returns, and that nothing old is changed. Printed by gen.py. -/
namespace Go.Proofs.YtcfponnkfhkbdaaDoor
open Go Go.RowKit
set_option linter.unusedSimpArgs false
set_option linter.unusedVariables false
set_option maxRecDepth 100000 in
set_option maxHeartbeats 1000000 in
theorem right_calls (w0 : World) (Z : Nat → Prop) (hZ : ∀ k, Z k → k < w0.heap.size) (n : Nd) (hShp : Shapes w0 Z) (hs : n.S.size < 1000000 := by first | assumption | omega | (simp; done) | (simp; omega)) :
    Calls Tryd.prog 112 [.agg #[.int .i64 (n.K), .int .i64 (n.N), .int .i64 (n.M), .string n.S]].toArray w0 (fun e w' => e = .returned (.bool (right n)) ∧ Fr none_ w0 w') := by
 have b0 := s0 (M := none_) hZ (zc (d := dShapes) hShp zn)
 refine c_enter Tryd.func112 rfl Tryd.ntmps112 rfl (fun c0 d0 => ?_)
 refine wsc (fun c0 f0 => ?_)
 refine m_box (cs := [.int .i64 (n.K), .int .i64 (n.N), .int .i64 (n.M), .string n.S]) sv d0 b0 rfl rfl rfl rfl (by decide) (fun c0 h0 i0 j0 k0 => ?_)
 refine asg j0 (fun h0 c0 => ?_)
 refine wpList_nil (x_then_n (f0 _ _ ?_))
 refine wp_seq_k (fun f0 h0 => ?_)
 refine wsc (fun f0 j0 => ?_)
 refine m_field (j' := 0) sv c0 rfl rfl rfl Tryd.underlying39 rfl sz3 rfl rfl (by decide) (fun f0 d0 => ?_)
 refine m_load (i := 0) sv d0 k0 rfl rfl rfl rfl rfl Tryd.underlying3 rfl (by decide) (fun f0 c0 => ?_)
 refine r_lss sv c0 rfl rfl rfl rfl (by decide) (fun f0 d0 => ?_)
 refine mv d0 (fun f0 c0 => ?_)
 refine l_join (fun ga gw => Reg ga 110 [(1, .pointer (some ⟨i0, 0, none⟩)), (2, .bool false), (11, .bool ((decide ((n.K) < 0)) || (decide (30 ≤ (n.K))))), (1000000, .bool false)] ∧ St w0 Z none_ gw [.box i0 39 [.int .i64 (n.K), .int .i64 (n.N), .int .i64 (n.M), .string n.S]] [dShapes]) 4 ?_ ?_
 ·
  rcases Decidable.em ((n.K) < 0) with f0 | f0
  ·
   have d0 := c0.setb (d := 7) (b := true) rfl (decide_eq_true f0)
   refine sps d0 (wff d0) (fun b0 m0 => ?_)
   refine sps m0 (wff m0) (fun b0 d0 => ?_)
   refine sps d0 (wff d0) (fun b0 m0 => ?_)
   refine r_pick_t sv m0 rfl rfl rfl rfl (by decide) (fun b0 d0 => ?_)
   refine wpList_nil ?_
   exact x_then_n ⟨(d0.sub (rc rfl (rc rfl (rc (rb rfl (by first | rfl | (simp only [decide_eq_true f0, if_pos f0, bl]; done) | (simp [f0]; done) | (simp [f0]; omega))) (rc rfl rnl))))), k0⟩
  ·
   have d0 := c0.setb (d := 7) (b := false) rfl (decide_eq_false f0)
   refine m_field (j' := 0) (st_listV_w (wt d0)) d0 rfl rfl rfl Tryd.underlying39 rfl sz3 rfl rfl (by decide) (fun c0 b0 => ?_)
   refine m_load (i := 0) (st_listV_w (wt b0)) b0 k0 rfl rfl rfl rfl rfl Tryd.underlying3 rfl (by decide) (fun c0 d0 => ?_)
   refine r_geq (st_listV_w (wt d0)) d0 rfl rfl rfl rfl (by decide) (fun c0 b0 => ?_)
   refine r_pick_f sv b0 rfl rfl rfl rfl (by decide) (fun c0 d0 => ?_)
   refine wpList_nil ?_
   exact x_then_n ⟨(d0.sub (rc rfl (rc rfl (rc (rb rfl (by first | rfl | (simp only [decide_eq_false f0, if_neg f0, bl]; done) | (simp [f0]; done) | (simp [f0]; omega))) (rc rfl rnl))))), k0⟩
 rintro d0 f0 ⟨k0, c0⟩
 refine wpList_nil (x_then_n (j0 _ _ ?_))
 rcases Bool.eq_false_or_eq_true (((decide ((n.K) < 0)) || (decide (30 ≤ (n.K))))) with j0 | j0
 ·
  have f0 := j0
  try simp only [Bool.or_eq_true, Bool.and_eq_true, Bool.not_eq_true', Bool.not_eq_false', decide_eq_true_eq, decide_eq_false_iff_not, Bool.or_eq_false_iff, Bool.and_eq_false_iff] at f0
  have f0 := k0.setb (d := 11) (b := true) rfl j0
  refine wp_cond_true (f0.ev rfl) ?_
  refine wsc (fun d0 b0 => ?_)
  refine asg f0 (fun d0 m0 => ?_)
  refine wpList_nil (x_then_n (b0 _ _ ?_))
  refine wp_ret ?_
  refine x_then_r ?_
  refine e_ret1 m0 rfl rfl rfl ?_
  refine ⟨?_, c0.fr⟩
  exact congrArg Ending.returned (ret_b (by exact (right_bad (by omega)).symm))
 ·
  have m0 := or_fl j0
  have b0 := of_decide_eq_false m0
  have m0 := or_fr j0
  have d0 := of_decide_eq_false m0
  have m0 := k0.setb (d := 11) (b := false) rfl j0
  refine wp_cond_false (m0.ev rfl) ?_
  refine wp_skip ?_
  refine x_then_n (h0 _ _ ?_)
  refine wsc (fun h0 k0 => ?_)
  refine m_field (j' := 0) sv m0 rfl rfl rfl Tryd.underlying39 rfl sz3 rfl rfl (by decide) (fun h0 f0 => ?_)
  refine m_load (i := 0) sv f0 c0 rfl rfl rfl rfl rfl Tryd.underlying3 rfl (by decide) (fun h0 m0 => ?_)
  refine m_indexA (i := ((n.K)).toNat) (j := (((n.K)).toNat) * 4) sv m0 rfl rfl rfl rfl Tryd.underlying114 sz113 (by omega) (by omega) rfl (by decide) (fun h0 f0 => ?_)
  obtain ⟨h0, m0, n0, o0⟩ := shapes_at (c0.get (i := 0) rfl) (((n.K)).toNat) (by omega)
  have p0 := c0.data (dRow 1 h0 (shp (((n.K)).toNat)).b.length m0 (encIs (shp (((n.K)).toNat)).b)) n0
  refine m_loadEN sv f0 rfl rfl rfl o0 Tryd.underlying113 rfl sz113 (by decide) (fun n0 c0 => ?_)
  refine m_alloc (cs := [.slice none 0 0, .bool false, .bool false, .bool false]) sv c0 p0 rfl rfl ze113 rfl (by decide) (fun n0 o0 f0 q0 t0 => ?_)
  refine m_store (i := 1) (cs' := [.slice h0 ((shp (((n.K)).toNat)).b.length) m0, .bool ((shp (((n.K)).toNat)).n), .bool ((shp (((n.K)).toNat)).m), .bool ((shp (((n.K)).toNat)).s)]) se q0 t0 rfl rfl rfl rfl rfl sz113 rfl rfl rfl (fun o0 n0 c0 p0 => ?_)
  refine wpList_nil (x_then_n (k0 _ _ ?_))
  refine wp_seq_k (fun k0 n0 => ?_)
  refine wp_block ?_
  refine c_join (fun ga gw => Reg ga 110 [(1, .pointer (some ⟨i0, 0, none⟩)), (2, .bool false), (3, .pointer (some ⟨f0, 0, none⟩)), (16, .bool (((!((shp (((n.K)).toNat)).n)) && (!(decide ((n.N) = 0)))) || (((!((shp (((n.K)).toNat)).m)) && (!(decide ((n.M) = 0)))) || (((!((shp (((n.K)).toNat)).s)) && (!(decide (n.S = (⟨#[]⟩ : ByteArray))))) || (((shp (((n.K)).toNat)).s) && (!(nameOk n.S))))))), (1000000, .bool false)] ∧ St w0 Z none_ gw [.box i0 39 [.int .i64 (n.K), .int .i64 (n.N), .int .i64 (n.M), .string n.S], .box f0 113 [.slice h0 ((shp (((n.K)).toNat)).b.length) m0, .bool ((shp (((n.K)).toNat)).n), .bool ((shp (((n.K)).toNat)).m), .bool ((shp (((n.K)).toNat)).s)]] [dShapes, dRow 1 h0 (shp (((n.K)).toNat)).b.length m0 (encIs (shp (((n.K)).toNat)).b)]) ?_ ?_
  ·
   refine wsc (fun k0 o0 => ?_)
   refine m_field (j' := 1) sv c0 rfl rfl rfl Tryd.underlying113 rfl sz4 rfl rfl (by decide) (fun k0 t0 => ?_)
   refine m_load (i := 1) sv t0 p0 rfl rfl rfl rfl rfl Tryd.underlying4 rfl (by decide) (fun k0 c0 => ?_)
   refine r_not sv c0 rfl rfl rfl (by decide) (fun k0 t0 => ?_)
   refine mv t0 (fun k0 c0 => ?_)
   refine l_join (fun ga gw => Reg ga 110 [(1, .pointer (some ⟨i0, 0, none⟩)), (2, .bool false), (3, .pointer (some ⟨f0, 0, none⟩)), (24, .bool ((!((shp (((n.K)).toNat)).n)) && (!(decide ((n.N) = 0))))), (1000000, .bool false)] ∧ St w0 Z none_ gw [.box i0 39 [.int .i64 (n.K), .int .i64 (n.N), .int .i64 (n.M), .string n.S], .box f0 113 [.slice h0 ((shp (((n.K)).toNat)).b.length) m0, .bool ((shp (((n.K)).toNat)).n), .bool ((shp (((n.K)).toNat)).m), .bool ((shp (((n.K)).toNat)).s)]] [dShapes, dRow 1 h0 (shp (((n.K)).toNat)).b.length m0 (encIs (shp (((n.K)).toNat)).b)]) 4 ?_ ?_
   ·
    rcases Bool.eq_false_or_eq_true ((shp (((n.K)).toNat)).n) with k0 | k0
    ·
     have t0 := c0.setb (d := 20) (b := false) rfl (by rw [k0]; rfl)
     refine sps t0 (wff t0) (fun q0 u0 => ?_)
     refine sps u0 (wff u0) (fun q0 t0 => ?_)
     refine sps t0 (wff t0) (fun q0 u0 => ?_)
     refine r_pick_f sv u0 rfl rfl rfl rfl (by decide) (fun q0 t0 => ?_)
     refine wpList_nil ?_
     exact x_then_n ⟨(t0.sub (rc rfl (rc rfl (rc rfl (rc (rb rfl (by first | rfl | (simp only [k0, bl]; done) | (simp [k0]; done) | (simp [k0]; omega))) (rc rfl rnl)))))), p0⟩
    ·
     have t0 := c0.setb (d := 20) (b := true) rfl (by rw [k0]; rfl)
     refine m_field (j' := 1) (st_listV_w (wt t0)) t0 rfl rfl rfl Tryd.underlying39 rfl sz3 rfl rfl (by decide) (fun c0 q0 => ?_)
     refine m_load (i := 0) (st_listV_w (wt q0)) q0 p0 rfl rfl rfl rfl rfl Tryd.underlying3 rfl (by decide) (fun c0 t0 => ?_)
     refine r_neq (st_listV_w (wt t0)) t0 rfl rfl rfl rfl (by decide) (fun c0 q0 => ?_)
     refine r_pick_t sv q0 rfl rfl rfl rfl (by decide) (fun c0 t0 => ?_)
     refine wpList_nil ?_
     exact x_then_n ⟨(t0.sub (rc rfl (rc rfl (rc rfl (rc (rb rfl (by first | rfl | (simp only [k0, bl]; done) | (simp [k0]; done) | (simp [k0]; omega))) (rc rfl rnl)))))), p0⟩
   rintro t0 k0 ⟨p0, c0⟩
   refine asg p0 (fun k0 t0 => ?_)
   refine wpList_nil (x_then_n (o0 _ _ ?_))
   rcases Bool.eq_false_or_eq_true (((!((shp (((n.K)).toNat)).n)) && (!(decide ((n.N) = 0))))) with o0 | o0
   ·
    have k0 := and_tl o0
    have p0 := not_t k0
    have p0 := and_tr o0
    have k0 := not_t p0
    have p0 := of_decide_eq_false k0
    have p0 := t0.setb (d := 16) (b := true) rfl o0
    refine wp_cond_true (p0.ev rfl) ?_
    refine wp_skip ?_
    exact x_then_n ⟨(p0.sub (rc rfl (rc rfl (rc rfl (rc (rb rfl (by first | rfl | (simp only [o0, bl]; done) | (simp [o0]; done) | (simp [o0]; omega))) (rc rfl rnl)))))), c0⟩
   ·
    have p0 := o0
    try simp only [Bool.or_eq_true, Bool.and_eq_true, Bool.not_eq_true', Bool.not_eq_false', decide_eq_true_eq, decide_eq_false_iff_not, Bool.or_eq_false_iff, Bool.and_eq_false_iff] at p0
    have p0 := t0.setb (d := 16) (b := false) rfl o0
    refine wp_cond_false (p0.ev rfl) ?_
    refine wsc (fun t0 k0 => ?_)
    refine m_field (j' := 2) sv p0 rfl rfl rfl Tryd.underlying113 rfl sz4 rfl rfl (by decide) (fun t0 q0 => ?_)
    refine m_load (i := 1) sv q0 c0 rfl rfl rfl rfl rfl Tryd.underlying4 rfl (by decide) (fun t0 p0 => ?_)
    refine r_not sv p0 rfl rfl rfl (by decide) (fun t0 q0 => ?_)
    refine mv q0 (fun t0 p0 => ?_)
    refine l_join (fun ga gw => Reg ga 110 [(1, .pointer (some ⟨i0, 0, none⟩)), (2, .bool false), (3, .pointer (some ⟨f0, 0, none⟩)), (16, .bool false), (32, .bool ((!((shp (((n.K)).toNat)).m)) && (!(decide ((n.M) = 0))))), (1000000, .bool false)] ∧ St w0 Z none_ gw [.box i0 39 [.int .i64 (n.K), .int .i64 (n.N), .int .i64 (n.M), .string n.S], .box f0 113 [.slice h0 ((shp (((n.K)).toNat)).b.length) m0, .bool ((shp (((n.K)).toNat)).n), .bool ((shp (((n.K)).toNat)).m), .bool ((shp (((n.K)).toNat)).s)]] [dShapes, dRow 1 h0 (shp (((n.K)).toNat)).b.length m0 (encIs (shp (((n.K)).toNat)).b)]) 4 ?_ ?_
    ·
     rcases Bool.eq_false_or_eq_true ((shp (((n.K)).toNat)).m) with t0 | t0
     ·
      have q0 := p0.setb (d := 28) (b := false) rfl (by rw [t0]; rfl)
      refine sps q0 (wff q0) (fun u0 v0 => ?_)
      refine sps v0 (wff v0) (fun u0 q0 => ?_)
      refine sps q0 (wff q0) (fun u0 v0 => ?_)
      refine r_pick_f sv v0 rfl rfl rfl rfl (by decide) (fun u0 q0 => ?_)
      refine wpList_nil ?_
      exact x_then_n ⟨(q0.sub (rc rfl (rc rfl (rc rfl (rc rfl (rc (rb rfl (by first | rfl | (simp only [t0, bl]; done) | (simp [t0]; done) | (simp [t0]; omega))) (rc rfl rnl))))))), c0⟩
     ·
      have q0 := p0.setb (d := 28) (b := true) rfl (by rw [t0]; rfl)
      refine m_field (j' := 2) (st_listV_w (wt q0)) q0 rfl rfl rfl Tryd.underlying39 rfl sz3 rfl rfl (by decide) (fun p0 u0 => ?_)
      refine m_load (i := 0) (st_listV_w (wt u0)) u0 c0 rfl rfl rfl rfl rfl Tryd.underlying3 rfl (by decide) (fun p0 q0 => ?_)
      refine r_neq (st_listV_w (wt q0)) q0 rfl rfl rfl rfl (by decide) (fun p0 u0 => ?_)
      refine r_pick_t sv u0 rfl rfl rfl rfl (by decide) (fun p0 q0 => ?_)
      refine wpList_nil ?_
      exact x_then_n ⟨(q0.sub (rc rfl (rc rfl (rc rfl (rc rfl (rc (rb rfl (by first | rfl | (simp only [t0, bl]; done) | (simp [t0]; done) | (simp [t0]; omega))) (rc rfl rnl))))))), c0⟩
    rintro q0 t0 ⟨c0, p0⟩
    refine asg c0 (fun t0 q0 => ?_)
    refine wpList_nil (x_then_n (k0 _ _ ?_))
    rcases Bool.eq_false_or_eq_true (((!((shp (((n.K)).toNat)).m)) && (!(decide ((n.M) = 0))))) with k0 | k0
    ·
     have t0 := and_tl k0
     have c0 := not_t t0
     have c0 := and_tr k0
     have t0 := not_t c0
     have c0 := of_decide_eq_false t0
     have c0 := q0.setb (d := 16) (b := true) rfl k0
     refine wp_cond_true (c0.ev rfl) ?_
     refine wp_skip ?_
     exact x_then_n ⟨(c0.sub (rc rfl (rc rfl (rc rfl (rc (rb rfl (by first | rfl | (simp only [o0, k0, bl]; done) | (simp [o0, k0]; done) | (simp [o0, k0]; omega))) (rc rfl rnl)))))), p0⟩
    ·
     have c0 := k0
     try simp only [Bool.or_eq_true, Bool.and_eq_true, Bool.not_eq_true', Bool.not_eq_false', decide_eq_true_eq, decide_eq_false_iff_not, Bool.or_eq_false_iff, Bool.and_eq_false_iff] at c0
     have c0 := q0.setb (d := 16) (b := false) rfl k0
     refine wp_cond_false (c0.ev rfl) ?_
     refine wsc (fun q0 t0 => ?_)
     refine m_field (j' := 3) sv c0 rfl rfl rfl Tryd.underlying113 rfl sz4 rfl rfl (by decide) (fun q0 u0 => ?_)
     refine m_load (i := 1) sv u0 p0 rfl rfl rfl rfl rfl Tryd.underlying4 rfl (by decide) (fun q0 c0 => ?_)
     refine r_not sv c0 rfl rfl rfl (by decide) (fun q0 u0 => ?_)
     refine mv u0 (fun q0 c0 => ?_)
     refine l_join (fun ga gw => Reg ga 110 [(1, .pointer (some ⟨i0, 0, none⟩)), (2, .bool false), (3, .pointer (some ⟨f0, 0, none⟩)), (16, .bool false), (40, .bool ((!((shp (((n.K)).toNat)).s)) && (!(decide (n.S = (⟨#[]⟩ : ByteArray)))))), (1000000, .bool false)] ∧ St w0 Z none_ gw [.box i0 39 [.int .i64 (n.K), .int .i64 (n.N), .int .i64 (n.M), .string n.S], .box f0 113 [.slice h0 ((shp (((n.K)).toNat)).b.length) m0, .bool ((shp (((n.K)).toNat)).n), .bool ((shp (((n.K)).toNat)).m), .bool ((shp (((n.K)).toNat)).s)]] [dShapes, dRow 1 h0 (shp (((n.K)).toNat)).b.length m0 (encIs (shp (((n.K)).toNat)).b)]) 4 ?_ ?_
     ·
      rcases Bool.eq_false_or_eq_true ((shp (((n.K)).toNat)).s) with q0 | q0
      ·
       have u0 := c0.setb (d := 36) (b := false) rfl (by rw [q0]; rfl)
       refine sps u0 (wff u0) (fun v0 x0 => ?_)
       refine sps x0 (wff x0) (fun v0 u0 => ?_)
       refine sps u0 (wff u0) (fun v0 x0 => ?_)
       refine r_pick_f sv x0 rfl rfl rfl rfl (by decide) (fun v0 u0 => ?_)
       refine wpList_nil ?_
       exact x_then_n ⟨(u0.sub (rc rfl (rc rfl (rc rfl (rc rfl (rc (rb rfl (by first | rfl | (simp only [q0, bl]; done) | (simp [q0]; done) | (simp [q0]; omega))) (rc rfl rnl))))))), p0⟩
      ·
       have u0 := c0.setb (d := 36) (b := true) rfl (by rw [q0]; rfl)
       refine m_field (j' := 3) (st_listV_w (wt u0)) u0 rfl rfl rfl Tryd.underlying39 rfl sz9 rfl rfl (by decide) (fun c0 v0 => ?_)
       refine m_load (i := 0) (st_listV_w (wt v0)) v0 p0 rfl rfl rfl rfl rfl Tryd.underlying9 rfl (by decide) (fun c0 u0 => ?_)
       refine r_neqS (st_listV_w (wt u0)) u0 rfl rfl rfl rfl (by decide) (fun c0 v0 => ?_)
       refine r_pick_t sv v0 rfl rfl rfl rfl (by decide) (fun c0 u0 => ?_)
       refine wpList_nil ?_
       exact x_then_n ⟨(u0.sub (rc rfl (rc rfl (rc rfl (rc rfl (rc (rb rfl (by first | rfl | (simp only [q0, bl]; done) | (simp [q0]; done) | (simp [q0]; omega))) (rc rfl rnl))))))), p0⟩
     rintro u0 q0 ⟨p0, c0⟩
     refine asg p0 (fun q0 u0 => ?_)
     refine wpList_nil (x_then_n (t0 _ _ ?_))
     rcases Bool.eq_false_or_eq_true (((!((shp (((n.K)).toNat)).s)) && (!(decide (n.S = (⟨#[]⟩ : ByteArray)))))) with t0 | t0
     ·
      have q0 := and_tl t0
      have p0 := not_t q0
      have p0 := and_tr t0
      have q0 := not_t p0
      have p0 := of_decide_eq_false q0
      have p0 := u0.setb (d := 16) (b := true) rfl t0
      refine wp_cond_true (p0.ev rfl) ?_
      refine wp_skip ?_
      exact x_then_n ⟨(p0.sub (rc rfl (rc rfl (rc rfl (rc (rb rfl (by first | rfl | (simp only [o0, k0, t0, bl]; done) | (simp [o0, k0, t0]; done) | (simp [o0, k0, t0]; omega))) (rc rfl rnl)))))), c0⟩
     ·
      have p0 := t0
      try simp only [Bool.or_eq_true, Bool.and_eq_true, Bool.not_eq_true', Bool.not_eq_false', decide_eq_true_eq, decide_eq_false_iff_not, Bool.or_eq_false_iff, Bool.and_eq_false_iff] at p0
      have p0 := u0.setb (d := 16) (b := false) rfl t0
      refine wp_cond_false (p0.ev rfl) ?_
      refine c_region ?_
      refine m_field (j' := 3) sv p0 rfl rfl rfl Tryd.underlying113 rfl sz4 rfl rfl (by decide) (fun u0 q0 => ?_)
      refine m_load (i := 1) sv q0 c0 rfl rfl rfl rfl rfl Tryd.underlying4 rfl (by decide) (fun u0 p0 => ?_)
      refine mv p0 (fun u0 q0 => ?_)
      refine l_join (fun ga gw => Reg ga 110 [(1, .pointer (some ⟨i0, 0, none⟩)), (2, .bool false), (3, .pointer (some ⟨f0, 0, none⟩)), (16, .bool false), (48, .bool (((shp (((n.K)).toNat)).s) && (!(nameOk n.S)))), (1000000, .bool false)] ∧ St w0 Z none_ gw [.box i0 39 [.int .i64 (n.K), .int .i64 (n.N), .int .i64 (n.M), .string n.S], .box f0 113 [.slice h0 ((shp (((n.K)).toNat)).b.length) m0, .bool ((shp (((n.K)).toNat)).n), .bool ((shp (((n.K)).toNat)).m), .bool ((shp (((n.K)).toNat)).s)]] [dShapes, dRow 1 h0 (shp (((n.K)).toNat)).b.length m0 (encIs (shp (((n.K)).toNat)).b)]) 5 ?_ ?_
      ·
       rcases Bool.eq_false_or_eq_true ((shp (((n.K)).toNat)).s) with u0 | u0
       ·
        have p0 := q0.setb (d := 43) (b := true) rfl u0
        refine m_field (j' := 3) (st_listV_w (wt p0)) p0 rfl rfl rfl Tryd.underlying39 rfl sz9 rfl rfl (by decide) (fun v0 x0 => ?_)
        refine m_load (i := 0) (st_listV_w (wt x0)) x0 c0 rfl rfl rfl rfl rfl Tryd.underlying9 rfl (by decide) (fun v0 p0 => ?_)
        have v0 := c0.nf
        refine k_call (xs := [.tmp 45]) (st_list_w (wt p0)) p0 rfl rfl rfl (by decide) ok122 (name_calls _ _ v0.il n.S) ?_
        rintro p0 x0 ⟨rfl, y0⟩
        have x0 := v0.below y0.below
        refine ⟨_, rfl, fun y0 v0 => ?_⟩
        refine r_not (st_listV_w (wt v0)) v0 rfl rfl rfl (by decide) (fun y0 p0 => ?_)
        refine r_pick_t sv p0 rfl rfl rfl rfl (by decide) (fun y0 v0 => ?_)
        refine wpList_nil ?_
        exact x_then_n ⟨(v0.sub (rc rfl (rc rfl (rc rfl (rc rfl (rc (rb rfl (by first | rfl | (simp only [u0, bl]; done) | (simp [u0]; done) | (simp [u0]; omega))) (rc rfl rnl))))))), x0⟩
       ·
        have v0 := q0.setb (d := 43) (b := false) rfl u0
        refine sps v0 (wff v0) (fun q0 x0 => ?_)
        refine sps x0 (wff x0) (fun q0 v0 => ?_)
        refine sps v0 (wff v0) (fun q0 x0 => ?_)
        refine sps x0 (wff x0) (fun q0 v0 => ?_)
        refine r_pick_f sv v0 rfl rfl rfl rfl (by decide) (fun q0 x0 => ?_)
        refine wpList_nil ?_
        exact x_then_n ⟨(x0.sub (rc rfl (rc rfl (rc rfl (rc rfl (rc (rb rfl (by first | rfl | (simp only [u0, bl]; done) | (simp [u0]; done) | (simp [u0]; omega))) (rc rfl rnl))))))), c0⟩
      rintro x0 u0 ⟨c0, q0⟩
      refine asg c0 (fun u0 x0 => ?_)
      refine wpList_nil ?_
      exact x_then_n ⟨(x0.sub (rc rfl (rc rfl (rc rfl (rc (rb rfl (by first | rfl | (simp only [o0, k0, t0, bl]; done) | (simp [o0, k0, t0]; done) | (simp [o0, k0, t0]; omega))) (rc rfl rnl)))))), q0⟩
  rintro x0 q0 ⟨t0, k0⟩
  rcases Bool.eq_false_or_eq_true ((((!((shp (((n.K)).toNat)).n)) && (!(decide ((n.N) = 0)))) || (((!((shp (((n.K)).toNat)).m)) && (!(decide ((n.M) = 0)))) || (((!((shp (((n.K)).toNat)).s)) && (!(decide (n.S = (⟨#[]⟩ : ByteArray))))) || (((shp (((n.K)).toNat)).s) && (!(nameOk n.S))))))) with q0 | q0
  ·
   have x0 := q0
   try simp only [Bool.or_eq_true, Bool.and_eq_true, Bool.not_eq_true', Bool.not_eq_false', decide_eq_true_eq, decide_eq_false_iff_not, Bool.or_eq_false_iff, Bool.and_eq_false_iff] at x0
   have x0 := t0.setb (d := 16) (b := true) rfl q0
   refine wp_cond_true (x0.ev rfl) ?_
   refine wsc (fun o0 u0 => ?_)
   refine asg x0 (fun o0 c0 => ?_)
   refine wpList_nil (x_then_n (u0 _ _ ?_))
   refine wp_ret ?_
   refine x_block_r ?_
   refine x_then_r ?_
   refine e_ret1 c0 rfl rfl rfl ?_
   refine ⟨?_, k0.fr⟩
   exact congrArg Ending.returned (ret_b (by first | exact (right_sort q0 (by assumption)).symm | exact (right_big q0).symm | (rw [right_con' q0 (by assumption)]; first | rfl | (simp <;> omega) | (simp [j0, b0, d0, q0]; done) | (rw [Bool.eq_iff_iff]; simp <;> omega)) | (rw [right_elim' q0 (by assumption)]; first | rfl | (simp <;> omega) | (simp [j0, b0, d0, q0]; done) | (rw [Bool.eq_iff_iff]; simp <;> omega)) | (rw [right_oth q0 (by omega) (by omega) (by assumption) (by assumption) (by assumption)]; first | rfl | (simp <;> omega) | (simp [j0, b0, d0, q0]; done) | (rw [Bool.eq_iff_iff]; simp <;> omega))))
  ·
   have c0 := or_fl q0
   have u0 := c0
   try simp only [Bool.or_eq_true, Bool.and_eq_true, Bool.not_eq_true', Bool.not_eq_false', decide_eq_true_eq, decide_eq_false_iff_not, Bool.or_eq_false_iff, Bool.and_eq_false_iff] at u0
   have u0 := or_fr q0
   have c0 := or_fl u0
   have o0 := c0
   try simp only [Bool.or_eq_true, Bool.and_eq_true, Bool.not_eq_true', Bool.not_eq_false', decide_eq_true_eq, decide_eq_false_iff_not, Bool.or_eq_false_iff, Bool.and_eq_false_iff] at o0
   have o0 := or_fr u0
   have u0 := or_fl o0
   have c0 := u0
   try simp only [Bool.or_eq_true, Bool.and_eq_true, Bool.not_eq_true', Bool.not_eq_false', decide_eq_true_eq, decide_eq_false_iff_not, Bool.or_eq_false_iff, Bool.and_eq_false_iff] at c0
   have c0 := or_fr o0
   have o0 := c0
   try simp only [Bool.or_eq_true, Bool.and_eq_true, Bool.not_eq_true', Bool.not_eq_false', decide_eq_true_eq, decide_eq_false_iff_not, Bool.or_eq_false_iff, Bool.and_eq_false_iff] at o0
   have o0 := t0.setb (d := 16) (b := false) rfl q0
   refine wp_cond_false (o0.ev rfl) ?_
   refine wsc (fun t0 c0 => ?_)
   refine m_field (j' := 0) sv o0 rfl rfl rfl Tryd.underlying39 rfl sz3 rfl rfl (by decide) (fun t0 u0 => ?_)
   refine m_load (i := 0) sv u0 k0 rfl rfl rfl rfl rfl Tryd.underlying3 rfl (by decide) (fun t0 o0 => ?_)
   refine r_eql sv o0 rfl rfl rfl rfl (by decide) (fun t0 u0 => ?_)
   refine asg u0 (fun t0 o0 => ?_)
   refine wpList_nil (x_then_n (c0 _ _ ?_))
   rcases Decidable.em ((n.K) = 2) with c0 | c0
   ·
    have t0 := o0.setb (d := 49) (b := true) rfl (decide_eq_true c0)
    refine wp_cond_true (t0.ev rfl) ?_
    refine wsc (fun u0 x0 => ?_)
    refine m_field (j' := 1) sv t0 rfl rfl rfl Tryd.underlying39 rfl sz3 rfl rfl (by decide) (fun u0 v0 => ?_)
    refine m_load (i := 0) sv v0 k0 rfl rfl rfl rfl rfl Tryd.underlying3 rfl (by decide) (fun u0 t0 => ?_)
    have u0 := k0.nf
    refine k_call (xs := [.tmp 54]) se t0 rfl rfl rfl (by decide) ok123 (lvCheck_calls _ _ u0.il (n.N)) ?_
    rintro t0 v0 ⟨rfl, y0⟩
    have v0 := u0.below y0.below
    refine ⟨_, rfl, fun y0 u0 => ?_⟩
    refine r_eql sv u0 rfl rfl rfl rfl (by decide) (fun y0 t0 => ?_)
    refine asg t0 (fun y0 u0 => ?_)
    refine wpList_nil (x_then_n (x0 _ _ ?_))
    refine wp_ret ?_
    refine x_block_r ?_
    refine x_then_r ?_
    refine e_ret1 u0 rfl rfl rfl ?_
    refine ⟨?_, v0.fr⟩
    exact congrArg Ending.returned (ret_b (by first | exact (right_sort q0 (by assumption)).symm | exact (right_big q0).symm | (rw [right_con' q0 (by assumption)]; first | rfl | (simp <;> omega) | (simp [j0, b0, d0, q0, c0]; done) | (rw [Bool.eq_iff_iff]; simp <;> omega)) | (rw [right_elim' q0 (by assumption)]; first | rfl | (simp <;> omega) | (simp [j0, b0, d0, q0, c0]; done) | (rw [Bool.eq_iff_iff]; simp <;> omega)) | (rw [right_oth q0 (by omega) (by omega) (by assumption) (by assumption) (by assumption)]; first | rfl | (simp <;> omega) | (simp [j0, b0, d0, q0, c0]; done) | (rw [Bool.eq_iff_iff]; simp <;> omega))))
   ·
    have v0 := o0.setb (d := 49) (b := false) rfl (decide_eq_false c0)
    refine wp_cond_false (v0.ev rfl) ?_
    refine wsc (fun o0 u0 => ?_)
    refine m_field (j' := 0) sv v0 rfl rfl rfl Tryd.underlying39 rfl sz3 rfl rfl (by decide) (fun o0 x0 => ?_)
    refine m_load (i := 0) sv x0 k0 rfl rfl rfl rfl rfl Tryd.underlying3 rfl (by decide) (fun o0 v0 => ?_)
    refine r_eql sv v0 rfl rfl rfl rfl (by decide) (fun o0 x0 => ?_)
    refine asg x0 (fun o0 v0 => ?_)
    refine wpList_nil (x_then_n (u0 _ _ ?_))
    rcases Decidable.em ((n.K) = 26) with u0 | u0
    ·
     have o0 := v0.setb (d := 57) (b := true) rfl (decide_eq_true u0)
     refine wp_cond_true (o0.ev rfl) ?_
     refine wp_seq_k (fun x0 y0 => ?_)
     obtain ⟨x0, t0, p0⟩ := k0.agree
     refine d_reg3 (n := 22) p0 2 (pB 0 0 pn) (pan_then (pan_block (pan_then pan_body))) (fun t0 x0 z0 b1 c1 f1 => ?_)
     refine dtF 0 1 x0 o0 f1 Tryd.underlying39 sz3 (fun b1 t0 => ?_)
     refine dtC 1 1 x0 t0 f1 Tryd.underlying3 (fun b1 o0 => ?_)
     refine dt 2 rfl x0 o0 (want_n rfl) (fun x hx => r_geq (sy o0) o0 rfl rfl rfl rfl (by decide) gt) f1 (fun b1 t0 => ?_)
     refine dtM 3 x0 t0 f1 (fun b1 o0 => ?_)
     rcases Decidable.em (0 ≤ (n.N)) with b1 | b1
     ·
      have t0 := o0.setb (d := 64) (b := true) rfl (decide_eq_true b1)
      refine dtF 4 1 x0 t0 f1 Tryd.underlying39 sz3 (fun p0 h1 => ?_) (hw := wt t0)
      refine dtC 5 1 x0 h1 f1 Tryd.underlying3 (fun p0 t0 => ?_) (hw := wt h1)
      refine dtF 6 0 x0 t0 f1 Tryd.underlying39 sz3 (fun p0 h1 => ?_) (hw := wt t0)
      refine dtC 7 0 x0 h1 f1 Tryd.underlying3 (fun p0 t0 => ?_) (hw := wt h1)
      refine d1 8 ?_
      have p0 := c1.nf
      refine k_call (xs := [.tmp 68]) (st_op rfl (wt t0)) t0 rfl rfl rfl (by decide) ok124 (most_calls _ _ p0.il (n.K)) ?_
      rintro t0 h1 ⟨rfl, i1⟩
      have h1 := p0.below i1.below
      refine ⟨_, rfl, fun i1 p0 => ?_⟩
      have i1 := sWI h1 2 (pB 0 0 pn)
      refine ⟨i1, ?_⟩
      refine dt 9 rfl x0 p0 (wt p0) (fun x hx => r_leq (sy p0) p0 rfl rfl rfl rfl (by decide) gt) i1 (fun t0 j1 => ?_)
      refine dt 10 rfl x0 j1 (want_n rfl) (fun x hx => r_pick_t (sy j1) j1 rfl rfl rfl rfl (by decide) gt) i1 (fun t0 p0 => ?_)
      refine dtM 11 x0 p0 i1 (fun t0 j1 => ?_)
      rcases Decidable.em ((n.N) ≤ ((most (n.K)))) with t0 | t0
      ·
       have p0 := j1.setb (d := 72) (b := true) rfl (decide_eq_true t0)
       refine dtF 12 2 x0 p0 i1 Tryd.underlying39 sz3 (fun k1 m1 => ?_) (hw := wt p0)
       refine dtC 13 2 x0 m1 i1 Tryd.underlying3 (fun k1 p0 => ?_) (hw := wt m1)
       refine dt 14 rfl x0 p0 (wt p0) (fun x hx => r_geq (sy p0) p0 rfl rfl rfl rfl (by decide) gt) i1 (fun k1 m1 => ?_)
       refine dt 15 rfl x0 m1 (want_n rfl) (fun x hx => r_pick_t (sy m1) m1 rfl rfl rfl rfl (by decide) gt) i1 (fun k1 p0 => ?_)
       refine dtM 16 x0 p0 i1 (fun k1 m1 => ?_)
       rcases Decidable.em (0 ≤ (n.M)) with k1 | k1
       ·
        have p0 := m1.setb (d := 77) (b := true) rfl (decide_eq_true k1)
        refine dtF 17 2 x0 p0 i1 Tryd.underlying39 sz3 (fun n1 o1 => ?_) (hw := wt p0)
        refine dtC 18 2 x0 o1 i1 Tryd.underlying3 (fun n1 p0 => ?_) (hw := wt o1)
        refine dt 19 rfl x0 p0 (wt p0) (fun x hx => r_leq (sy p0) p0 rfl rfl rfl rfl (by decide) gt) i1 (fun n1 o1 => ?_)
        refine dt 20 rfl x0 o1 (want_n rfl) (fun x hx => r_pick_t (sy o1) o1 rfl rfl rfl rfl (by decide) gt) i1 (fun n1 p0 => ?_)
        refine dtA 21 x0 p0 i1 (fun n1 o1 => ?_)
        refine wpAnyH_done (by kernel_rfl) (z0 _ _ ?_) _
        refine x_then_n (y0 _ _ ?_)
        refine wp_ret ?_
        refine x_block_r ?_
        refine x_then_r ?_
        refine e_ret1 o1 rfl rfl rfl ?_
        refine ⟨?_, h1.fr⟩
        exact congrArg Ending.returned (ret_b (by first | exact (right_sort q0 (by assumption)).symm | exact (right_big q0).symm | (rw [right_con' q0 (by assumption)]; first | rfl | (simp <;> omega) | (simp [j0, b0, d0, q0, c0, u0, b1, t0, k1]; done) | (rw [Bool.eq_iff_iff]; simp <;> omega)) | (rw [right_elim' q0 (by assumption)]; first | rfl | (simp <;> omega) | (simp [j0, b0, d0, q0, c0, u0, b1, t0, k1]; done) | (rw [Bool.eq_iff_iff]; simp <;> omega)) | (rw [right_oth q0 (by omega) (by omega) (by assumption) (by assumption) (by assumption)]; first | rfl | (simp <;> omega) | (simp [j0, b0, d0, q0, c0, u0, b1, t0, k1]; done) | (rw [Bool.eq_iff_iff]; simp <;> omega))))
       ·
        have o1 := m1.setb (d := 77) (b := false) rfl (decide_eq_false k1)
        refine dp 17 rfl x0 o1 (wff o1) i1 (fun m1 n1 => ?_)
        refine dp 18 rfl x0 n1 (wff n1) i1 (fun m1 o1 => ?_)
        refine dp 19 rfl x0 o1 (wff o1) i1 (fun m1 n1 => ?_)
        refine dtQ 20 x0 n1 i1 (fun m1 o1 => ?_)
        refine dtA 21 x0 o1 i1 (fun m1 n1 => ?_)
        refine wpAnyH_done (by kernel_rfl) (z0 _ _ ?_) _
        refine x_then_n (y0 _ _ ?_)
        refine wp_ret ?_
        refine x_block_r ?_
        refine x_then_r ?_
        refine e_ret1 n1 rfl rfl rfl ?_
        refine ⟨?_, h1.fr⟩
        exact congrArg Ending.returned (ret_b (by first | exact (right_sort q0 (by assumption)).symm | exact (right_big q0).symm | (rw [right_con' q0 (by assumption)]; first | rfl | (simp <;> omega) | (simp [j0, b0, d0, q0, c0, u0, b1, t0, k1]; done) | (rw [Bool.eq_iff_iff]; simp <;> omega)) | (rw [right_elim' q0 (by assumption)]; first | rfl | (simp <;> omega) | (simp [j0, b0, d0, q0, c0, u0, b1, t0, k1]; done) | (rw [Bool.eq_iff_iff]; simp <;> omega)) | (rw [right_oth q0 (by omega) (by omega) (by assumption) (by assumption) (by assumption)]; first | rfl | (simp <;> omega) | (simp [j0, b0, d0, q0, c0, u0, b1, t0, k1]; done) | (rw [Bool.eq_iff_iff]; simp <;> omega))))
      ·
       have k1 := j1.setb (d := 72) (b := false) rfl (decide_eq_false t0)
       refine dp 12 rfl x0 k1 (wff k1) i1 (fun j1 n1 => ?_)
       refine dp 13 rfl x0 n1 (wff n1) i1 (fun j1 k1 => ?_)
       refine dp 14 rfl x0 k1 (wff k1) i1 (fun j1 n1 => ?_)
       refine dtQ 15 x0 n1 i1 (fun j1 k1 => ?_)
       refine dtM 16 x0 k1 i1 (fun j1 n1 => ?_)
       refine dp 17 rfl x0 n1 (wff n1) i1 (fun j1 k1 => ?_)
       refine dp 18 rfl x0 k1 (wff k1) i1 (fun j1 n1 => ?_)
       refine dp 19 rfl x0 n1 (wff n1) i1 (fun j1 k1 => ?_)
       refine dtQ 20 x0 k1 i1 (fun j1 n1 => ?_)
       refine dtA 21 x0 n1 i1 (fun j1 k1 => ?_)
       refine wpAnyH_done (by kernel_rfl) (z0 _ _ ?_) _
       refine x_then_n (y0 _ _ ?_)
       refine wp_ret ?_
       refine x_block_r ?_
       refine x_then_r ?_
       refine e_ret1 k1 rfl rfl rfl ?_
       refine ⟨?_, h1.fr⟩
       exact congrArg Ending.returned (ret_b (by first | exact (right_sort q0 (by assumption)).symm | exact (right_big q0).symm | (rw [right_con' q0 (by assumption)]; first | rfl | (simp <;> omega) | (simp [j0, b0, d0, q0, c0, u0, b1, t0]; done) | (rw [Bool.eq_iff_iff]; simp <;> omega)) | (rw [right_elim' q0 (by assumption)]; first | rfl | (simp <;> omega) | (simp [j0, b0, d0, q0, c0, u0, b1, t0]; done) | (rw [Bool.eq_iff_iff]; simp <;> omega)) | (rw [right_oth q0 (by omega) (by omega) (by assumption) (by assumption) (by assumption)]; first | rfl | (simp <;> omega) | (simp [j0, b0, d0, q0, c0, u0, b1, t0]; done) | (rw [Bool.eq_iff_iff]; simp <;> omega))))
     ·
      have t0 := o0.setb (d := 64) (b := false) rfl (decide_eq_false b1)
      refine dp 4 rfl x0 t0 (wff t0) f1 (fun o0 h1 => ?_)
      refine dp 5 rfl x0 h1 (wff h1) f1 (fun o0 t0 => ?_)
      refine dp 6 rfl x0 t0 (wff t0) f1 (fun o0 h1 => ?_)
      refine dp 7 rfl x0 h1 (wff h1) f1 (fun o0 t0 => ?_)
      refine dp 8 rfl x0 t0 (wff t0) f1 (fun o0 h1 => ?_)
      refine dp 9 rfl x0 h1 (wff h1) f1 (fun o0 t0 => ?_)
      refine dtQ 10 x0 t0 f1 (fun o0 h1 => ?_)
      refine dtM 11 x0 h1 f1 (fun o0 t0 => ?_)
      refine dp 12 rfl x0 t0 (wff t0) f1 (fun o0 h1 => ?_)
      refine dp 13 rfl x0 h1 (wff h1) f1 (fun o0 t0 => ?_)
      refine dp 14 rfl x0 t0 (wff t0) f1 (fun o0 h1 => ?_)
      refine dtQ 15 x0 h1 f1 (fun o0 t0 => ?_)
      refine dtM 16 x0 t0 f1 (fun o0 h1 => ?_)
      refine dp 17 rfl x0 h1 (wff h1) f1 (fun o0 t0 => ?_)
      refine dp 18 rfl x0 t0 (wff t0) f1 (fun o0 h1 => ?_)
      refine dp 19 rfl x0 h1 (wff h1) f1 (fun o0 t0 => ?_)
      refine dtQ 20 x0 t0 f1 (fun o0 h1 => ?_)
      refine dtA 21 x0 h1 f1 (fun o0 t0 => ?_)
      refine wpAnyH_done (by kernel_rfl) (z0 _ _ ?_) _
      refine x_then_n (y0 _ _ ?_)
      refine wp_ret ?_
      refine x_block_r ?_
      refine x_then_r ?_
      refine e_ret1 t0 rfl rfl rfl ?_
      refine ⟨?_, c1.fr⟩
      exact congrArg Ending.returned (ret_b (by first | exact (right_sort q0 (by assumption)).symm | exact (right_big q0).symm | (rw [right_con' q0 (by assumption)]; first | rfl | (simp <;> omega) | (simp [j0, b0, d0, q0, c0, u0, b1]; done) | (rw [Bool.eq_iff_iff]; simp <;> omega)) | (rw [right_elim' q0 (by assumption)]; first | rfl | (simp <;> omega) | (simp [j0, b0, d0, q0, c0, u0, b1]; done) | (rw [Bool.eq_iff_iff]; simp <;> omega)) | (rw [right_oth q0 (by omega) (by omega) (by assumption) (by assumption) (by assumption)]; first | rfl | (simp <;> omega) | (simp [j0, b0, d0, q0, c0, u0, b1]; done) | (rw [Bool.eq_iff_iff]; simp <;> omega))))
    ·
     have b1 := v0.setb (d := 57) (b := false) rfl (decide_eq_false u0)
     refine wp_cond_false (b1.ev rfl) ?_
     refine wsc (fun v0 c1 => ?_)
     refine m_field (j' := 0) sv b1 rfl rfl rfl Tryd.underlying39 rfl sz3 rfl rfl (by decide) (fun v0 t0 => ?_)
     refine m_load (i := 0) sv t0 k0 rfl rfl rfl rfl rfl Tryd.underlying3 rfl (by decide) (fun v0 b1 => ?_)
     refine r_eql sv b1 rfl rfl rfl rfl (by decide) (fun v0 t0 => ?_)
     refine asg t0 (fun v0 b1 => ?_)
     refine wpList_nil (x_then_n (c1 _ _ ?_))
     rcases Decidable.em ((n.K) = 27) with c1 | c1
     ·
      have v0 := b1.setb (d := 82) (b := true) rfl (decide_eq_true c1)
      refine wp_cond_true (v0.ev rfl) ?_
      refine wsc (fun t0 y0 => ?_)
      refine m_field (j' := 2) sv v0 rfl rfl rfl Tryd.underlying39 rfl sz3 rfl rfl (by decide) (fun t0 z0 => ?_)
      refine m_load (i := 0) sv z0 k0 rfl rfl rfl rfl rfl Tryd.underlying3 rfl (by decide) (fun t0 v0 => ?_)
      refine r_geq sv v0 rfl rfl rfl rfl (by decide) (fun t0 z0 => ?_)
      refine mv z0 (fun t0 v0 => ?_)
      refine l_join (fun ga gw => Reg ga 110 [(1, .pointer (some ⟨i0, 0, none⟩)), (2, .bool false), (3, .pointer (some ⟨f0, 0, none⟩)), (93, .bool ((decide (0 ≤ (n.M))) && (decide ((n.M) ≤ 6)))), (1000000, .bool false)] ∧ St w0 Z none_ gw [.box i0 39 [.int .i64 (n.K), .int .i64 (n.N), .int .i64 (n.M), .string n.S], .box f0 113 [.slice h0 ((shp (((n.K)).toNat)).b.length) m0, .bool ((shp (((n.K)).toNat)).n), .bool ((shp (((n.K)).toNat)).m), .bool ((shp (((n.K)).toNat)).s)]] [dShapes, dRow 1 h0 (shp (((n.K)).toNat)).b.length m0 (encIs (shp (((n.K)).toNat)).b)]) 4 ?_ ?_
      ·
       rcases Decidable.em (0 ≤ (n.M)) with f0 | f0
       ·
        have m0 := v0.setb (d := 89) (b := true) rfl (decide_eq_true f0)
        refine m_field (j' := 2) (st_listV_w (wt m0)) m0 rfl rfl rfl Tryd.underlying39 rfl sz3 rfl rfl (by decide) (fun h0 i0 => ?_)
        refine m_load (i := 0) (st_listV_w (wt i0)) i0 k0 rfl rfl rfl rfl rfl Tryd.underlying3 rfl (by decide) (fun h0 m0 => ?_)
        refine r_leq (st_listV_w (wt m0)) m0 rfl rfl rfl rfl (by decide) (fun h0 i0 => ?_)
        refine r_pick_t sv i0 rfl rfl rfl rfl (by decide) (fun h0 m0 => ?_)
        refine wpList_nil ?_
        exact x_then_n ⟨(m0.sub (rc rfl (rc rfl (rc rfl (rc (rb rfl (by first | rfl | (simp only [decide_eq_true f0, if_pos f0, bl]; done) | (simp [f0]; done) | (simp [f0]; omega))) (rc rfl rnl)))))), k0⟩
       ·
        have m0 := v0.setb (d := 89) (b := false) rfl (decide_eq_false f0)
        refine sps m0 (wff m0) (fun v0 h0 => ?_)
        refine sps h0 (wff h0) (fun v0 m0 => ?_)
        refine sps m0 (wff m0) (fun v0 h0 => ?_)
        refine r_pick_f sv h0 rfl rfl rfl rfl (by decide) (fun v0 m0 => ?_)
        refine wpList_nil ?_
        exact x_then_n ⟨(m0.sub (rc rfl (rc rfl (rc rfl (rc (rb rfl (by first | rfl | (simp only [decide_eq_false f0, if_neg f0, bl]; done) | (simp [f0]; done) | (simp [f0]; omega))) (rc rfl rnl)))))), k0⟩
      rintro m0 f0 ⟨v0, h0⟩
      refine asg v0 (fun f0 m0 => ?_)
      refine wpList_nil (x_then_n (y0 _ _ ?_))
      refine wp_ret ?_
      refine x_block_r ?_
      refine x_then_r ?_
      refine e_ret1 m0 rfl rfl rfl ?_
      refine ⟨?_, h0.fr⟩
      exact congrArg Ending.returned (ret_b (by first | exact (right_sort q0 (by assumption)).symm | exact (right_big q0).symm | (rw [right_con' q0 (by assumption)]; first | rfl | (simp <;> omega) | (simp [j0, b0, d0, q0, c0, u0, c1]; done) | (rw [Bool.eq_iff_iff]; simp <;> omega)) | (rw [right_elim' q0 (by assumption)]; first | rfl | (simp <;> omega) | (simp [j0, b0, d0, q0, c0, u0, c1]; done) | (rw [Bool.eq_iff_iff]; simp <;> omega)) | (rw [right_oth q0 (by omega) (by omega) (by assumption) (by assumption) (by assumption)]; first | rfl | (simp <;> omega) | (simp [j0, b0, d0, q0, c0, u0, c1]; done) | (rw [Bool.eq_iff_iff]; simp <;> omega))))
     ·
      have h0 := b1.setb (d := 82) (b := false) rfl (decide_eq_false c1)
      refine wp_cond_false (h0.ev rfl) ?_
      refine wp_skip ?_
      refine x_block_n ?_
      refine x_then_n (n0 _ _ ?_)
      refine wp_seq_k (fun n0 b1 => ?_)
      obtain ⟨n0, m0, y0⟩ := k0.agree
      refine d_reg3 (n := 17) y0 2 (pB 0 0 (pB 1 0 pn)) (pan_then pan_body) (fun m0 n0 k0 f0 v0 i0 => ?_)
      refine dtF 0 1 n0 h0 i0 Tryd.underlying113 sz4 (fun f0 m0 => ?_)
      refine dtC 1 5 n0 m0 i0 Tryd.underlying4 (fun f0 h0 => ?_)
      refine dt 2 rfl n0 h0 (want_n rfl) (fun x hx => r_not (sy h0) h0 rfl rfl rfl (by decide) gt) i0 (fun f0 m0 => ?_)
      refine dtM 3 n0 m0 i0 (fun f0 h0 => ?_)
      rcases Bool.eq_false_or_eq_true ((shp (((n.K)).toNat)).n) with f0 | f0
      ·
       have m0 := h0.setb (d := 97) (b := false) rfl (by rw [f0]; rfl)
       refine dtF 4 1 n0 m0 i0 Tryd.underlying39 sz3 (fun y0 t0 => ?_) (hw := wt m0)
       refine dtC 5 1 n0 t0 i0 Tryd.underlying3 (fun y0 m0 => ?_) (hw := wt t0)
       refine dt 6 rfl n0 m0 (wt m0) (fun x hx => r_geq (sy m0) m0 rfl rfl rfl rfl (by decide) gt) i0 (fun y0 t0 => ?_)
       refine dtM 7 n0 t0 i0 (fun y0 m0 => ?_) (hw := wt t0)
       rcases Decidable.em (0 ≤ (n.N)) with y0 | y0
       ·
        have t0 := m0.setb (d := 101) (b := true) rfl (decide_eq_true y0)
        refine dtF 8 1 n0 t0 i0 Tryd.underlying39 sz3 (fun z0 o0 => ?_) (hw := wt t0)
        refine dtC 9 1 n0 o0 i0 Tryd.underlying3 (fun z0 t0 => ?_) (hw := wt o0)
        refine dtF 10 0 n0 t0 i0 Tryd.underlying39 sz3 (fun z0 o0 => ?_) (hw := wt t0)
        refine dtC 11 0 n0 o0 i0 Tryd.underlying3 (fun z0 t0 => ?_) (hw := wt o0)
        refine d1 12 ?_
        have z0 := v0.nf
        refine k_call (xs := [.tmp 105]) (st_op rfl (wt t0)) t0 rfl rfl rfl (by decide) ok124 (most_calls _ _ z0.il (n.K)) ?_
        rintro t0 o0 ⟨rfl, h1⟩
        have o0 := z0.below h1.below
        refine ⟨_, rfl, fun h1 z0 => ?_⟩
        have h1 := sWI o0 2 (pB 0 0 (pB 1 0 pn))
        refine ⟨h1, ?_⟩
        refine dt 13 rfl n0 z0 (wt z0) (fun x hx => r_leq (sy z0) z0 rfl rfl rfl rfl (by decide) gt) h1 (fun t0 f1 => ?_)
        refine dt 14 rfl n0 f1 (wt f1) (fun x hx => r_pick_t (sy f1) f1 rfl rfl rfl rfl (by decide) gt) h1 (fun t0 z0 => ?_)
        refine dtQ 15 n0 z0 h1 (fun t0 f1 => ?_)
        refine dtA 16 n0 f1 h1 (fun t0 z0 => ?_)
        refine wpAnyH_done (by kernel_rfl) (k0 _ _ ?_) _
        refine x_then_n (b1 _ _ ?_)
        refine wp_ret ?_
        refine e_ret1 z0 rfl rfl rfl ?_
        refine ⟨?_, o0.fr⟩
        exact congrArg Ending.returned (ret_b (by first | exact (right_sort q0 (by assumption)).symm | exact (right_big q0).symm | (rw [right_con' q0 (by assumption)]; first | rfl | (simp <;> omega) | (simp [j0, b0, d0, q0, c0, u0, c1, f0, y0]; done) | (rw [Bool.eq_iff_iff]; simp <;> omega)) | (rw [right_elim' q0 (by assumption)]; first | rfl | (simp <;> omega) | (simp [j0, b0, d0, q0, c0, u0, c1, f0, y0]; done) | (rw [Bool.eq_iff_iff]; simp <;> omega)) | (rw [right_oth q0 (by omega) (by omega) (by assumption) (by assumption) (by assumption)]; first | rfl | (simp <;> omega) | (simp [j0, b0, d0, q0, c0, u0, c1, f0, y0]; done) | (rw [Bool.eq_iff_iff]; simp <;> omega))))
       ·
        have o0 := m0.setb (d := 101) (b := false) rfl (decide_eq_false y0)
        refine dp 8 rfl n0 o0 (wff o0) i0 (fun m0 z0 => ?_)
        refine dp 9 rfl n0 z0 (wff z0) i0 (fun m0 o0 => ?_)
        refine dp 10 rfl n0 o0 (wff o0) i0 (fun m0 z0 => ?_)
        refine dp 11 rfl n0 z0 (wff z0) i0 (fun m0 o0 => ?_)
        refine dp 12 rfl n0 o0 (wff o0) i0 (fun m0 z0 => ?_)
        refine dp 13 rfl n0 z0 (wff z0) i0 (fun m0 o0 => ?_)
        refine dtQ 14 n0 o0 i0 (fun m0 z0 => ?_) (hw := wt o0)
        refine dtQ 15 n0 z0 i0 (fun m0 o0 => ?_)
        refine dtA 16 n0 o0 i0 (fun m0 z0 => ?_)
        refine wpAnyH_done (by kernel_rfl) (k0 _ _ ?_) _
        refine x_then_n (b1 _ _ ?_)
        refine wp_ret ?_
        refine e_ret1 z0 rfl rfl rfl ?_
        refine ⟨?_, v0.fr⟩
        exact congrArg Ending.returned (ret_b (by first | exact (right_sort q0 (by assumption)).symm | exact (right_big q0).symm | (rw [right_con' q0 (by assumption)]; first | rfl | (simp <;> omega) | (simp [j0, b0, d0, q0, c0, u0, c1, f0, y0]; done) | (rw [Bool.eq_iff_iff]; simp <;> omega)) | (rw [right_elim' q0 (by assumption)]; first | rfl | (simp <;> omega) | (simp [j0, b0, d0, q0, c0, u0, c1, f0, y0]; done) | (rw [Bool.eq_iff_iff]; simp <;> omega)) | (rw [right_oth q0 (by omega) (by omega) (by assumption) (by assumption) (by assumption)]; first | rfl | (simp <;> omega) | (simp [j0, b0, d0, q0, c0, u0, c1, f0, y0]; done) | (rw [Bool.eq_iff_iff]; simp <;> omega))))
      ·
       have y0 := h0.setb (d := 97) (b := true) rfl (by rw [f0]; rfl)
       refine dp 4 rfl n0 y0 (wff y0) i0 (fun h0 z0 => ?_)
       refine dp 5 rfl n0 z0 (wff z0) i0 (fun h0 y0 => ?_)
       refine dp 6 rfl n0 y0 (wff y0) i0 (fun h0 z0 => ?_)
       refine dp 7 rfl n0 z0 (wff z0) i0 (fun h0 y0 => ?_)
       refine dp 8 rfl n0 y0 (wu y0) i0 (fun h0 z0 => ?_)
       refine dp 9 rfl n0 z0 (wu z0) i0 (fun h0 y0 => ?_)
       refine dp 10 rfl n0 y0 (wu y0) i0 (fun h0 z0 => ?_)
       refine dp 11 rfl n0 z0 (wu z0) i0 (fun h0 y0 => ?_)
       refine dp 12 rfl n0 y0 (wu y0) i0 (fun h0 z0 => ?_)
       refine dp 13 rfl n0 z0 (wu z0) i0 (fun h0 y0 => ?_)
       refine dp 14 rfl n0 y0 (wff y0) i0 (fun h0 z0 => ?_)
       refine dt 15 rfl n0 z0 (want_n rfl) (fun x hx => r_pick_t (sy z0) z0 rfl rfl rfl rfl (by decide) gt) i0 (fun h0 y0 => ?_)
       refine dtA 16 n0 y0 i0 (fun h0 z0 => ?_)
       refine wpAnyH_done (by kernel_rfl) (k0 _ _ ?_) _
       refine x_then_n (b1 _ _ ?_)
       refine wp_ret ?_
       refine e_ret1 z0 rfl rfl rfl ?_
       refine ⟨?_, v0.fr⟩
       exact congrArg Ending.returned (ret_b (by first | exact (right_sort q0 (by assumption)).symm | exact (right_big q0).symm | (rw [right_con' q0 (by assumption)]; first | rfl | (simp <;> omega) | (simp [j0, b0, d0, q0, c0, u0, c1, f0]; done) | (rw [Bool.eq_iff_iff]; simp <;> omega)) | (rw [right_elim' q0 (by assumption)]; first | rfl | (simp <;> omega) | (simp [j0, b0, d0, q0, c0, u0, c1, f0]; done) | (rw [Bool.eq_iff_iff]; simp <;> omega)) | (rw [right_oth q0 (by omega) (by omega) (by assumption) (by assumption) (by assumption)]; first | rfl | (simp <;> omega) | (simp [j0, b0, d0, q0, c0, u0, c1, f0]; done) | (rw [Bool.eq_iff_iff]; simp <;> omega))))
end Go.Proofs.YtcfponnkfhkbdaaDoor
/- Contracts of functions, one theorem each: what the call returns, and that nothing old is changed. Printed by gen.py. -/
namespace Go.Proofs.YtcfponnkfhkbdaaDoor
open Go Go.RowKit
set_option linter.unusedSimpArgs false
set_option linter.unusedVariables false
set_option maxRecDepth 100000 in
set_option maxHeartbeats 1000000 in
theorem measured_calls (w0 : World) (Z : Nat → Prop) (hZ : ∀ k, Z k → k < w0.heap.size) (tA : Option Addr) (tc : Nat) (t : List Nd) (hShp : Shapes w0 Z) (ht : (dRow 4 tA t.length tc (encNs t)).φ w0 Z) (hl : t.length ≤ 4000 := by first | assumption | omega | (simp; done) | (simp; omega)) (hsm : sml t := by first | assumption | omega | (simp; done) | (simp; omega)) :
    Calls Tryd.prog 85 [.slice tA t.length tc].toArray w0 (fun e w' => ∃ (rA0 : Option Addr) (rc0 : Nat), e = .returned (.tuple #[.slice rA0 (measL t).length rc0, .bool (measB t)]) ∧ Fr none_ w0 w' ∧ (dRow 2 rA0 ((measL t).length) rc0 (encMs (measL t))).φ w' (nxt Z w0 w')) := by
 have b0 := s0 (M := none_) hZ (zc (d := dShapes) hShp (zc ht zn))
 refine c_enter Tryd.func85 rfl Tryd.ntmps85 rfl (fun c0 d0 => ?_)
 refine wsc (fun c0 f0 => ?_)
 refine asg d0 (fun c0 h0 => ?_)
 refine asg h0 (fun c0 d0 => ?_)
 refine wpList_nil (x_then_n (f0 _ _ ?_))
 refine wsc (fun f0 c0 => ?_)
 refine asg d0 (fun f0 h0 => ?_)
 refine asg h0 (fun f0 d0 => ?_)
 refine wpList_nil (x_then_n (c0 _ _ ?_))
 refine wp_seq_k (fun c0 f0 => ?_)
 refine wsc (fun c0 h0 => ?_)
 refine mv d0 (fun c0 i0 => ?_)
 refine r_len sv i0 rfl rfl rfl rfl Tryd.underlying22 (by decide) (fun c0 d0 => ?_)
 refine mv d0 (fun c0 i0 => ?_)
 refine wpList_nil (x_then_n (h0 _ _ ?_))
 refine wp_block ?_
 have h0 := b0.nilrow 111 2
 have b0 := h0.nilrow 111 2
 refine wp_loop_ghost (fun gn ga gw => ∃ k : Nat, ∃ st : List T, ∃ Aa : Option Addr, ∃ ca : Nat, ∃ Ao : Option Addr, ∃ co : Nat, (Reg ga 73 [(1000000, .bool false), (12, .slice tA t.length tc), (13, .int .i64 ((t.length : Nat) : Int)), (14, .int .i64 ((k : Nat) : Int)), (4, .slice Aa ((allTs 0 st).length) ca), (5, .slice Ao ((meas 0 st).length) co)]) ∧ (St w0 Z none_ gw [.row Aa ((allTs 0 st).length) ca 111 2 (encMs (allTs 0 st)), .row Ao ((meas 0 st).length) co 111 2 (encMs (meas 0 st))] [dShapes, dRow 4 tA t.length tc (encNs t)]) ∧ (k ≤ t.length) ∧ (scanT [] (t.take k) = some st) ∧ (t.length - k) = gn) _ ⟨0, [], none, 0, none, 0, (i0.sub (rc rfl (rc rfl (rc rfl (rc rfl (rc rfl (rc rfl rnl))))))), b0, by omega, rfl, rfl⟩ ?_
 rintro b0 i0 h0 ⟨k, st, Aa, ca, Ao, co, c0, d0, hk, hsc, j0⟩
 have hfl := scan_flats hsc hk
 have hml := meas_length 0 st
 have hal := allTs_length 0 st
 have hsl := flats_len_ge st
 refine wsc (fun j0 h0 => ?_)
 refine r_lss sv c0 rfl rfl rfl rfl (by decide) (fun j0 i0 => ?_)
 refine wpList_nil (x_then_n (h0 _ _ ?_))
 refine wp_seq_k (fun h0 j0 => ?_)
 rcases Decidable.em (((k : Nat) : Int) < ((t.length : Nat) : Int)) with h0 | h0
 ·
  have c0 := i0.setb (d := 15) (b := true) rfl (decide_eq_true h0)
  refine wp_cond_true (c0.ev rfl) ?_
  refine wp_skip ?_
  refine x_then_n (j0 _ _ ?_)
  refine wp_seq_k (fun j0 b0 => ?_)
  refine wp_block ?_
  refine wsc (fun j0 k0 => ?_)
  refine mv c0 (fun j0 m0 => ?_)
  refine m_index (i := k) (j := k * 4) sv m0 rfl rfl rfl rfl Tryd.underlying22 sz39 (by omega) (by omega) (nds_elem (t := t) (k := k) (d0.row (i := 1) rfl).2 (by omega)).some_ rfl (by decide) (fun j0 c0 => ?_)
  refine m_loadEN sv c0 rfl rfl rfl (nds_elem (t := t) (k := k) (d0.row (i := 1) rfl).2 (by omega)) Tryd.underlying39 rfl sz39 (by decide) (fun j0 m0 => ?_)
  refine m_alloc (cs := [.int .i64 0, .int .i64 0, .int .i64 0, .string (⟨#[]⟩ : ByteArray)]) sv m0 d0 rfl rfl ze39 rfl (by decide) (fun j0 c0 n0 o0 p0 => ?_)
  refine asg o0 (fun c0 j0 => ?_)
  refine m_store (i := 2) (cs' := [.int .i64 (((nth t k).K)), .int .i64 (((nth t k).N)), .int .i64 (((nth t k).M)), .string ((nth t k).S)]) se j0 p0 rfl rfl rfl rfl rfl sz39 rfl rfl rfl (fun c0 o0 m0 q0 => ?_)
  refine wpList_nil (x_then_n (k0 _ _ ?_))
  refine wp_seq_k (fun k0 o0 => ?_)
  refine wsc (fun k0 c0 => ?_)
  refine m_loadN (i := 2) (vs := [.int .i64 (((nth t k).K)), .int .i64 (((nth t k).N)), .int .i64 (((nth t k).M)), .string ((nth t k).S)]) sv m0 q0 rfl rfl rfl rfl rfl Tryd.underlying39 rfl sz39 (by decide) (fun k0 j0 => ?_)
  have k0 := q0.nf
  refine k_call (xs := [.tmp 19]) se j0 rfl rfl rfl (by decide) ok112 (right_calls _ _ k0.il (nth t k) (k0.g 0) (hs := (hsm _ (by omega)))) ?_
  rintro j0 q0 ⟨rfl, m0⟩
  have q0 := k0.below m0.below
  refine ⟨_, rfl, fun m0 k0 => ?_⟩
  refine r_not sv k0 rfl rfl rfl (by decide) (fun m0 j0 => ?_)
  refine mv j0 (fun m0 k0 => ?_)
  refine l_join (fun ga gw => Reg ga 73 [(4, .slice Aa ((allTs 0 st).length) ca), (5, .slice Ao ((meas 0 st).length) co), (6, .int .i64 ((k : Nat) : Int)), (7, .pointer (some ⟨n0, 0, none⟩)), (12, .slice tA t.length tc), (13, .int .i64 ((t.length : Nat) : Int)), (14, .int .i64 ((k : Nat) : Int)), (28, .bool ((!(right (nth t k))) || (decide ((((meas 0 st).length : Nat) : Int) < ((many (nth t k) : Nat) : Int))))), (1000000, .bool false)] ∧ St w0 Z none_ gw [.row Aa ((allTs 0 st).length) ca 111 2 (encMs (allTs 0 st)), .row Ao ((meas 0 st).length) co 111 2 (encMs (meas 0 st)), .box n0 39 [.int .i64 (((nth t k).K)), .int .i64 (((nth t k).N)), .int .i64 (((nth t k).M)), .string ((nth t k).S)]] [dShapes, dRow 4 tA t.length tc (encNs t)]) 6 ?_ ?_
  ·
   rcases Bool.eq_false_or_eq_true (right (nth t k)) with m0 | m0
   ·
    have j0 := k0.setb (d := 22) (b := false) rfl (by rw [m0]; rfl)
    refine m_loadN (i := 2) (vs := [.int .i64 (((nth t k).K)), .int .i64 (((nth t k).N)), .int .i64 (((nth t k).M)), .string ((nth t k).S)]) (st_listV_w (wt j0)) j0 q0 rfl rfl rfl rfl rfl Tryd.underlying39 rfl sz39 (by decide) (fun p0 t0 => ?_)
    have p0 := q0.nf
    refine k_call (xs := [.tmp 23]) (st_list_w (wt t0)) t0 rfl rfl rfl (by decide) ok58 (many_calls _ _ p0.il (nth t k) (p0.g 0)) ?_
    rintro t0 j0 ⟨rfl, u0⟩
    have j0 := p0.below u0.below
    refine ⟨_, rfl, fun u0 p0 => ?_⟩
    refine r_move (st_listV_w (wt p0)) p0 rfl rfl rfl (by decide) (fun u0 t0 => ?_)
    refine r_len (st_listV_w (wt t0)) t0 rfl rfl rfl rfl Tryd.underlying85 (by decide) (fun u0 p0 => ?_)
    refine r_gtr (st_listV_w (wt p0)) p0 rfl rfl rfl rfl (by decide) (fun u0 t0 => ?_)
    refine r_pick_f sv t0 rfl rfl rfl rfl (by decide) (fun u0 p0 => ?_)
    refine wpList_nil ?_
    exact x_then_n ⟨(p0.sub (rc rfl (rc rfl (rc rfl (rc rfl (rc rfl (rc rfl (rc rfl (rc (rb rfl (by first | rfl | (simp only [m0, bl]; done) | (simp [m0]; done) | (simp [m0]; omega))) (rc rfl rnl)))))))))), j0⟩
   ·
    have p0 := k0.setb (d := 22) (b := true) rfl (by rw [m0]; rfl)
    refine sps p0 (wff p0) (fun k0 j0 => ?_)
    refine sps j0 (wff j0) (fun k0 p0 => ?_)
    refine sps p0 (wff p0) (fun k0 j0 => ?_)
    refine sps j0 (wff j0) (fun k0 p0 => ?_)
    refine sps p0 (wff p0) (fun k0 j0 => ?_)
    refine r_pick_t sv j0 rfl rfl rfl rfl (by decide) (fun k0 p0 => ?_)
    refine wpList_nil ?_
    exact x_then_n ⟨(p0.sub (rc rfl (rc rfl (rc rfl (rc rfl (rc rfl (rc rfl (rc rfl (rc (rb rfl (by first | rfl | (simp only [m0, bl]; done) | (simp [m0]; done) | (simp [m0]; omega))) (rc rfl rnl)))))))))), q0⟩
  rintro p0 m0 ⟨q0, k0⟩
  refine wpList_nil (x_then_n (c0 _ _ ?_))
  rcases Bool.eq_false_or_eq_true (((!(right (nth t k))) || (decide ((((meas 0 st).length : Nat) : Int) < ((many (nth t k) : Nat) : Int))))) with c0 | c0
  ·
   have m0 := c0
   try simp only [Bool.or_eq_true, Bool.and_eq_true, Bool.not_eq_true', Bool.not_eq_false', decide_eq_true_eq, decide_eq_false_iff_not, Bool.or_eq_false_iff, Bool.and_eq_false_iff] at m0
   have p0 := q0.setb (d := 28) (b := true) rfl c0
   refine wp_cond_true (p0.ev rfl) ?_
   refine wsc (fun j0 u0 => ?_)
   refine asg p0 (fun j0 t0 => ?_)
   refine asg t0 (fun j0 p0 => ?_)
   refine wpList_nil (x_then_n (u0 _ _ ?_))
   refine wp_ret ?_
   refine x_then_r ?_
   refine x_block_r ?_
   refine x_then_r ?_
   refine x_then_r ?_
   refine x_block_r ?_
   refine x_then_r ?_
   refine e_ret2 p0 rfl rfl rfl rfl ?_
   have p0 : measL t = [] := (meas_bad (scan_none hsc (by omega) (push_none (by rcases m0 with h | h; exact .inl h; exact .inr (by omega))))).1
   rw [p0]
   refine ⟨none, 0, ?_, k0.fr, ⟨Nat.le_refl _, RowI.nil _ _ _ _⟩⟩
   exact ret_t2 rfl (ret_b (by exact (meas_bad (scan_none hsc (by omega) (push_none (by rcases m0 with h | h; exact .inl h; exact .inr (by omega))))).2.symm))
  ·
   have m0 := or_fl c0
   have p0 := not_f m0
   have p0 := or_fr c0
   have m0 := of_decide_eq_false p0
   have m0 := q0.setb (d := 28) (b := false) rfl c0
   refine wp_cond_false (m0.ev rfl) ?_
   refine wp_skip ?_
   refine x_then_n (o0 _ _ ?_)
   refine wsc (fun o0 c0 => ?_)
   refine mv m0 (fun o0 q0 => ?_)
   refine r_len sv q0 rfl rfl rfl rfl Tryd.underlying85 (by decide) (fun o0 m0 => ?_)
   refine m_loadN (i := 2) (vs := [.int .i64 (((nth t k).K)), .int .i64 (((nth t k).N)), .int .i64 (((nth t k).M)), .string ((nth t k).S)]) sv m0 k0 rfl rfl rfl rfl rfl Tryd.underlying39 rfl sz39 (by decide) (fun o0 q0 => ?_)
   have o0 := k0.nf
   refine k_call (xs := [.tmp 31]) se q0 rfl rfl rfl (by decide) ok58 (many_calls _ _ o0.il (nth t k) (o0.g 0)) ?_
   rintro q0 k0 ⟨rfl, m0⟩
   have k0 := o0.below m0.below
   refine ⟨_, rfl, fun m0 o0 => ?_⟩
   refine r_sub (z := ((((meas 0 st).length : Nat) : Int) - ((many (nth t k) : Nat) : Int))) sv o0 rfl rfl rfl rfl (by decide) (by omega) (by omega) (by omega) (fun m0 q0 => ?_)
   refine asg q0 (fun m0 o0 => ?_)
   refine wpList_nil (x_then_n (c0 _ _ ?_))
   refine wsc (fun c0 m0 => ?_)
   refine mv o0 (fun c0 q0 => ?_)
   refine m_build (ps := [(0, .tmp 34), (1, .const (.int .i64 1))]) (v := .agg #[.int .i64 ((k : Nat) : Int), .int .i64 1]) sv q0 rfl rfl rfl (fun _ => by kernel_rfl) (by decide) (fun c0 o0 => ?_)
   refine m_alloc (cs := [.int .i64 0, .int .i64 0]) sv o0 k0 rfl rfl ze111 rfl (by decide) (fun c0 q0 p0 u0 j0 => ?_)
   refine m_store (i := 3) (cs' := [.int .i64 ((k : Nat) : Int), .int .i64 1]) se u0 j0 rfl rfl rfl rfl rfl sz111 rfl rfl rfl (fun q0 c0 o0 k0 => ?_)
   refine wpList_nil (x_then_n (m0 _ _ ?_))
   refine wp_seq_k (fun m0 c0 => ?_)
   refine wsc (fun m0 q0 => ?_)
   refine mv o0 (fun m0 j0 => ?_)
   refine mv j0 (fun m0 o0 => ?_)
   have m0 := own_cap (k0.res (i := 1) rfl)
   refine m_sliceV (lo := some (.tmp 37)) (hi := none) (vlo := (some (.int .i64 ((((meas 0 st).length : Nat) : Int) - ((many (nth t k) : Nat) : Int))))) (vhi := none) (kd := .i64) (kd' := .i64) sv o0 rfl rfl rfl rfl rfl (((meas 0 st).length) - (many (nth t k))) (many (nth t k)) (.inl (by first | rfl | (congr 2; omega))) (.inr ⟨rfl, by omega⟩) Tryd.underlying85 sz111 (by omega) (by decide) (fun m0 j0 u0 t0 v0 x0 => ?_)
   refine r_len sv x0 rfl rfl rfl rfl Tryd.underlying85 (by decide) (fun t0 m0 => ?_)
   refine mv m0 (fun t0 x0 => ?_)
   refine wpList_nil (x_then_n (q0 _ _ ?_))
   refine wp_block ?_
   refine wp_loop_ghost (fun gn ga gw => ∃ j : Nat, (Reg ga 73 [(4, .slice Aa ((allTs 0 st).length) ca), (5, .slice Ao ((meas 0 st).length) co), (12, .slice tA t.length tc), (13, .int .i64 ((t.length : Nat) : Int)), (14, .int .i64 ((k : Nat) : Int)), (1000000, .bool false), (8, .int .i64 ((((meas 0 st).length : Nat) : Int) - ((many (nth t k) : Nat) : Int))), (9, .pointer (some ⟨p0, 0, none⟩)), (38, .slice j0 (many (nth t k)) u0), (39, .int .i64 ((many (nth t k) : Nat) : Int)), (40, .int .i64 ((j : Nat) : Int))]) ∧ (St w0 Z none_ gw [.row Aa ((allTs 0 st).length) ca 111 2 (encMs (allTs 0 st)), .row Ao ((meas 0 st).length) co 111 2 (encMs (meas 0 st)), .box n0 39 [.int .i64 (((nth t k).K)), .int .i64 (((nth t k).N)), .int .i64 (((nth t k).M)), .string ((nth t k).S)], .box p0 111 [.int .i64 ((fromQ k (meas 0 st) (((meas 0 st).length) - (many (nth t k))) j)), .int .i64 ((deepQ (meas 0 st) (((meas 0 st).length) - (many (nth t k))) j))]] [dShapes, dRow 4 tA t.length tc (encNs t)]) ∧ (j ≤ many (nth t k)) ∧ (many (nth t k) - j) = gn) _ ⟨0, (x0.sub (rc rfl (rc rfl (rc rfl (rc rfl (rc rfl (rc rfl (rc rfl (rc rfl (rc rfl (rc rfl (rc rfl rnl)))))))))))), k0, by omega, rfl⟩ ?_
   rintro x0 k0 q0 ⟨j, t0, m0, hj, o0⟩
   obtain ⟨o0, q0⟩ := deepQ_le (st := st) (b := ((meas 0 st).length) - (many (nth t k))) (q := j)
   obtain ⟨q0, o0⟩ := meas_deep_le (st := st) (i := (((meas 0 st).length) - (many (nth t k))) + j)
   refine wsc (fun o0 q0 => ?_)
   refine r_lss sv t0 rfl rfl rfl rfl (by decide) (fun o0 k0 => ?_)
   refine wpList_nil (x_then_n (q0 _ _ ?_))
   refine wp_seq_k (fun q0 o0 => ?_)
   rcases Decidable.em (((j : Nat) : Int) < ((many (nth t k) : Nat) : Int)) with q0 | q0
   ·
    have t0 := k0.setb (d := 41) (b := true) rfl (decide_eq_true q0)
    refine wp_cond_true (t0.ev rfl) ?_
    refine wp_skip ?_
    refine x_then_n (o0 _ _ ?_)
    refine wp_seq_k (fun o0 x0 => ?_)
    refine wp_block ?_
    refine wsc (fun o0 y0 => ?_)
    refine mv t0 (fun o0 z0 => ?_)
    refine m_index (i := j) (j := j * 2) sv z0 rfl rfl rfl rfl Tryd.underlying85 sz111 (by omega) (by omega) (Cut.elem v0 (by omega) (own_ms (t := meas 0 st) (k := (((meas 0 st).length) - (many (nth t k))) + j) (m0.res (i := 1) rfl) (by omega))).some_ rfl (by decide) (fun o0 t0 => ?_)
    refine m_loadEN sv t0 rfl rfl rfl (Cut.elem v0 (by omega) (own_ms (t := meas 0 st) (k := (((meas 0 st).length) - (many (nth t k))) + j) (m0.res (i := 1) rfl) (by omega))) Tryd.underlying111 rfl sz111 (by decide) (fun o0 z0 => ?_)
    refine m_alloc (cs := [.int .i64 0, .int .i64 0]) sv z0 m0 rfl rfl ze111 rfl (by decide) (fun o0 t0 v0 b1 c1 => ?_)
    refine asg b1 (fun t0 o0 => ?_)
    refine m_store (i := 4) (cs' := [.int .i64 (((nthM (meas 0 st) ((((meas 0 st).length) - (many (nth t k))) + j)).1)), .int .i64 (((nthM (meas 0 st) ((((meas 0 st).length) - (many (nth t k))) + j)).2))]) se o0 c1 rfl rfl rfl rfl rfl sz111 rfl rfl rfl (fun t0 b1 z0 f1 => ?_)
    refine wpList_nil (x_then_n (y0 _ _ ?_))
    refine c_join (fun ga gw => Reg ga 73 [(4, .slice Aa ((allTs 0 st).length) ca), (5, .slice Ao ((meas 0 st).length) co), (8, .int .i64 ((((meas 0 st).length : Nat) : Int) - ((many (nth t k) : Nat) : Int))), (9, .pointer (some ⟨p0, 0, none⟩)), (11, .pointer (some ⟨v0, 0, none⟩)), (12, .slice tA t.length tc), (13, .int .i64 ((t.length : Nat) : Int)), (14, .int .i64 ((k : Nat) : Int)), (38, .slice j0 (many (nth t k)) u0), (39, .int .i64 ((many (nth t k) : Nat) : Int)), (40, .int .i64 ((j : Nat) : Int)), (1000000, .bool false)] ∧ St w0 Z none_ gw [.row Aa ((allTs 0 st).length) ca 111 2 (encMs (allTs 0 st)), .row Ao ((meas 0 st).length) co 111 2 (encMs (meas 0 st)), .box n0 39 [.int .i64 (((nth t k).K)), .int .i64 (((nth t k).N)), .int .i64 (((nth t k).M)), .string ((nth t k).S)], .box p0 111 [.int .i64 ((if (((j : Nat) : Int) = 0) then (((nthM (meas 0 st) ((((meas 0 st).length) - (many (nth t k))) + j)).1)) else ((fromQ k (meas 0 st) (((meas 0 st).length) - (many (nth t k))) j)))), .int .i64 ((deepQ (meas 0 st) (((meas 0 st).length) - (many (nth t k))) j))], .box v0 111 [.int .i64 (((nthM (meas 0 st) ((((meas 0 st).length) - (many (nth t k))) + j)).1)), .int .i64 (((nthM (meas 0 st) ((((meas 0 st).length) - (many (nth t k))) + j)).2))]] [dShapes, dRow 4 tA t.length tc (encNs t)]) ?_ ?_
    ·
     refine wsc (fun v0 u0 => ?_)
     refine mv z0 (fun v0 j0 => ?_)
     refine r_eql sv j0 rfl rfl rfl rfl (by decide) (fun v0 z0 => ?_)
     refine wpList_nil (x_then_n (u0 _ _ ?_))
     rcases Decidable.em (((j : Nat) : Int) = 0) with u0 | u0
     ·
      have v0 := z0.setb (d := 46) (b := true) rfl (decide_eq_true u0)
      refine wp_cond_true (v0.ev rfl) ?_
      refine c_region ?_
      refine m_field (j' := 0) sv v0 rfl rfl rfl Tryd.underlying111 rfl sz3 rfl rfl (by decide) (fun j0 p0 => ?_)
      refine m_load (i := 4) sv p0 f1 rfl rfl rfl rfl rfl Tryd.underlying3 rfl (by decide) (fun j0 v0 => ?_)
      refine m_field (j' := 0) sv v0 rfl rfl rfl Tryd.underlying111 rfl sz3 rfl rfl (by decide) (fun j0 p0 => ?_)
      refine m_store (i := 3) (cs' := [.int .i64 (((nthM (meas 0 st) ((((meas 0 st).length) - (many (nth t k))) + j)).1)), .int .i64 ((deepQ (meas 0 st) (((meas 0 st).length) - (many (nth t k))) j))]) se p0 f1 rfl rfl rfl rfl rfl sz3 rfl rfl rfl (fun j0 v0 n0 y0 => ?_)
      refine wpList_nil ?_
      have hSj := y0
      exact x_then_n ⟨(n0.sub (rc rfl (rc rfl (rc rfl (rc rfl (rc rfl (rc rfl (rc rfl (rc rfl (rc rfl (rc rfl (rc rfl (rc rfl rnl))))))))))))), by rw [(show (((if (((j : Nat) : Int) = 0) then (((nthM (meas 0 st) ((((meas 0 st).length) - (many (nth t k))) + j)).1)) else ((fromQ k (meas 0 st) (((meas 0 st).length) - (many (nth t k))) j)))) : Int) = (((nthM (meas 0 st) ((((meas 0 st).length) - (many (nth t k))) + j)).1)) by first | rfl | (simp only [decide_eq_true u0, if_pos u0, bl]; done) | (simp [u0]; done) | (simp [u0]; omega))]; exact hSj⟩
     ·
      have n0 := z0.setb (d := 46) (b := false) rfl (decide_eq_false u0)
      refine wp_cond_false (n0.ev rfl) ?_
      refine wp_skip ?_
      have hSj := f1
      exact x_then_n ⟨(n0.sub (rc rfl (rc rfl (rc rfl (rc rfl (rc rfl (rc rfl (rc rfl (rc rfl (rc rfl (rc rfl (rc rfl (rc rfl rnl))))))))))))), by rw [(show (((if (((j : Nat) : Int) = 0) then (((nthM (meas 0 st) ((((meas 0 st).length) - (many (nth t k))) + j)).1)) else ((fromQ k (meas 0 st) (((meas 0 st).length) - (many (nth t k))) j)))) : Int) = ((fromQ k (meas 0 st) (((meas 0 st).length) - (many (nth t k))) j)) by first | rfl | (simp only [decide_eq_false u0, if_neg u0, bl]; done) | (simp [u0]; done) | (simp [u0]; omega))]; exact hSj⟩
    rintro n0 u0 ⟨f1, z0⟩
    refine c_region ?_
    refine m_field (j' := 1) sv f1 rfl rfl rfl Tryd.underlying111 rfl sz3 rfl rfl (by decide) (fun u0 n0 => ?_)
    refine m_load (i := 3) sv n0 z0 rfl rfl rfl rfl rfl Tryd.underlying3 rfl (by decide) (fun u0 f1 => ?_)
    refine m_field (j' := 1) sv f1 rfl rfl rfl Tryd.underlying111 rfl sz3 rfl rfl (by decide) (fun u0 n0 => ?_)
    refine m_load (i := 4) sv n0 z0 rfl rfl rfl rfl rfl Tryd.underlying3 rfl (by decide) (fun u0 f1 => ?_)
    refine r_add (z := (((nthM (meas 0 st) ((((meas 0 st).length) - (many (nth t k))) + j)).2) + 1)) sv f1 rfl rfl rfl rfl (by decide) (by omega) (by omega) (by omega) (fun u0 n0 => ?_)
    refine r_max sv n0 rfl rfl rfl rfl rfl (by decide) (fun u0 f1 => ?_)
    refine m_field (j' := 1) sv f1 rfl rfl rfl Tryd.underlying111 rfl sz3 rfl rfl (by decide) (fun u0 n0 => ?_)
    refine m_store (i := 3) (cs' := [.int .i64 ((if (((j : Nat) : Int) = 0) then (((nthM (meas 0 st) ((((meas 0 st).length) - (many (nth t k))) + j)).1)) else ((fromQ k (meas 0 st) (((meas 0 st).length) - (many (nth t k))) j)))), .int .i64 ((max ((deepQ (meas 0 st) (((meas 0 st).length) - (many (nth t k))) j)) (((nthM (meas 0 st) ((((meas 0 st).length) - (many (nth t k))) + j)).2) + 1)))]) se n0 z0 rfl rfl rfl rfl rfl sz3 rfl rfl rfl (fun u0 f1 y0 v0 => ?_)
    refine wpList_nil ?_
    refine x_block_n ?_
    refine x_then_n (x0 _ _ ?_)
    refine c_region ?_
    refine r_add (z := ((j + 1 : Nat) : Int)) sv y0 rfl rfl rfl rfl (by decide) (by omega) (by omega) (by omega) (fun x0 f1 => ?_)
    refine mv f1 (fun x0 y0 => ?_)
    refine wpList_nil ?_
    have x0 : ((if (((j : Nat) : Int) = 0) then (((nthM (meas 0 st) ((((meas 0 st).length) - (many (nth t k))) + j)).1)) else ((fromQ k (meas 0 st) (((meas 0 st).length) - (many (nth t k))) j)))) = ((fromQ k (meas 0 st) (((meas 0 st).length) - (many (nth t k))) (j + 1))) := by unfold fromQ; (repeat' split) <;> first | rfl | omega | (congr 2; omega) | (congr 3; omega)
    have f1 := v0
    rw [x0] at f1
    have x0 : ((max ((deepQ (meas 0 st) (((meas 0 st).length) - (many (nth t k))) j)) (((nthM (meas 0 st) ((((meas 0 st).length) - (many (nth t k))) + j)).2) + 1))) = ((deepQ (meas 0 st) (((meas 0 st).length) - (many (nth t k))) (j + 1))) := rfl
    have v0 := f1
    rw [x0] at v0
    have x0 := v0.erase 4
    exact ⟨_, by omega, j + 1, (y0.sub (rc rfl (rc rfl (rc rfl (rc rfl (rc rfl (rc rfl (rc rfl (rc rfl (rc rfl (rc rfl (rc rfl rnl)))))))))))), x0, by omega, rfl⟩
   ·
    have x0 := k0.setb (d := 41) (b := false) rfl (decide_eq_false q0)
    refine wp_cond_false (x0.ev rfl) ?_
    refine wp_exit ?_
    refine x_then_e ?_
    refine x_then_e ?_
    refine x_block_eq ?_
    refine x_then_n (c0 _ _ ?_)
    refine wp_seq_k (fun c0 q0 => ?_)
    obtain ⟨c0, k0, y0⟩ := m0.agree
    refine d_reg3 (n := 7) y0 2 (pB 3 0 pn) (pan_then (pan_block (pan_then (pan_then (pan_block (pan_then pan_body)))))) (fun k0 c0 m0 v0 f1 u0 => ?_)
    refine dtM 0 c0 x0 u0 (fun v0 k0 => ?_)
    refine dtM 1 c0 k0 u0 (fun v0 x0 => ?_)
    refine dt 2 rfl c0 x0 (want_n rfl) (fun x hx => m_sliceP (q := ((meas 0 st).length) - (many (nth t k))) (sy x0) x0 rfl rfl rfl rfl (by omega) Tryd.underlying85 sz111 (by omega) (by decide) gt) u0 (fun v0 k0 => ?_)
    refine dt 3 rfl c0 k0 (want_n rfl) (fun x hx => m_loadCN (sy k0) k0 rfl rfl rfl (CellsAt.cons_ (hx.c 0) (CellsAt.cons_ (hx.c 1) (CellsAt.nil _ _))) Tryd.underlying111 rfl sz111 (by decide) gt) u0 (fun v0 x0 => ?_)
    refine d1 4 ?_
    refine mbs [(0, .tmp 61)] [.int .i64 ((fromQ k (meas 0 st) (((meas 0 st).length) - (many (nth t k))) j)), .int .i64 ((deepQ (meas 0 st) (((meas 0 st).length) - (many (nth t k))) j))] (st_opV rfl (want_n rfl)) x0 f1 Tryd.underlying85 zi111 (fun v0 k0 u0 y0 n0 => ?_)
    have u0 := sWI n0 2 (pB 3 0 pn)
    refine ⟨u0, ?_⟩
    refine d1 5 ?_
    refine m_appendC (f := encM) (i := 1) (meas 0 st) ([(((fromQ k (meas 0 st) (((meas 0 st).length) - (many (nth t k))) j)), ((deepQ (meas 0 st) (((meas 0 st).length) - (many (nth t k))) j)))]) (st_opV rfl (want_n rfl)) y0 n0 rfl rfl rfl rfl rfl (by omega) encM_len (encM_one _) Tryd.underlying85 zi111 rfl rfl (own_lnews (f := encM) (n0.res (i := 4) rfl)) rfl (by first | omega | (simp only [List.length_cons, List.length_nil]; omega)) (by decide) (fun u0 k0 v0 x0 f1 z0 j0 => ?_)
    have f1 : ((meas 0 st).take (((meas 0 st).length) - (many (nth t k))) ++ ([(((fromQ k (meas 0 st) (((meas 0 st).length) - (many (nth t k))) j)), ((deepQ (meas 0 st) (((meas 0 st).length) - (many (nth t k))) j)))]) : List (Int × Int)).length = ((meas 0 st).length + 1) - (many (nth t k)) := by first | (simp only [List.length_append, List.length_take, List.length_cons, List.length_nil]; done) | (simp only [List.length_append, List.length_take, List.length_cons, List.length_nil]; omega)
    have f1 := j0.erase 4
    have j0 := sWI f1 2 (pB 3 0 pn)
    refine ⟨j0, ?_⟩
    refine dtA 6 c0 z0 j0 (fun k0 u0 => ?_)
    refine wpAnyH_done (by kernel_rfl) (m0 _ _ ?_) _
    refine x_then_n (q0 _ _ ?_)
    refine c_region ?_
    refine mv u0 (fun q0 m0 => ?_)
    refine m_loadN (i := 3) (vs := [.int .i64 ((fromQ k (meas 0 st) (((meas 0 st).length) - (many (nth t k))) j)), .int .i64 ((deepQ (meas 0 st) (((meas 0 st).length) - (many (nth t k))) j))]) sv m0 f1 rfl rfl rfl rfl rfl Tryd.underlying111 rfl sz111 (by decide) (fun q0 u0 => ?_)
    refine mbs [(0, .tmp 65)] [.int .i64 ((fromQ k (meas 0 st) (((meas 0 st).length) - (many (nth t k))) j)), .int .i64 ((deepQ (meas 0 st) (((meas 0 st).length) - (many (nth t k))) j))] sv u0 f1 Tryd.underlying85 zi111 (fun q0 m0 k0 j0 z0 => ?_)
    refine m_appendF (f := encM) (i := 0) (allTs 0 st) ([(((fromQ k (meas 0 st) (((meas 0 st).length) - (many (nth t k))) j)), ((deepQ (meas 0 st) (((meas 0 st).length) - (many (nth t k))) j)))]) sv j0 z0 rfl rfl rfl rfl rfl encM_len (encM_one _) Tryd.underlying85 zi111 rfl rfl (own_lnews (f := encM) (z0.res (i := 4) rfl)) rfl (by first | omega | (simp only [List.length_cons, List.length_nil]; omega)) (by decide) (fun k0 m0 q0 u0 f1 c0 n0 => ?_)
    have f1 : ((allTs 0 st) ++ ([(((fromQ k (meas 0 st) (((meas 0 st).length) - (many (nth t k))) j)), ((deepQ (meas 0 st) (((meas 0 st).length) - (many (nth t k))) j)))]) : List (Int × Int)).length = (allTs 0 st).length + 1 := by first | (simp only [List.length_append, List.length_take, List.length_cons, List.length_nil]; done) | (simp only [List.length_append, List.length_take, List.length_cons, List.length_nil]; omega)
    have f1 := n0.erase 4
    refine asg c0 (fun n0 m0 => ?_)
    refine wpList_nil ?_
    refine x_block_n ?_
    refine x_then_n (b0 _ _ ?_)
    refine c_region ?_
    refine r_add (z := ((k + 1 : Nat) : Int)) sv m0 rfl rfl rfl rfl (by decide) (by omega) (by omega) (by omega) (fun b0 n0 => ?_)
    refine mv n0 (fun b0 m0 => ?_)
    refine wpList_nil ?_
    obtain ⟨st', hp, hpl⟩ := push_some (st := st) (n := nth t k) (by assumption) (by omega)
    obtain ⟨hm1, hm2⟩ := push_meas hp hfl
    have hjq : j = many (nth t k) := by omega
    have b0 : (allTs 0 st) ++ ([(((fromQ k (meas 0 st) (((meas 0 st).length) - (many (nth t k))) j)), ((deepQ (meas 0 st) (((meas 0 st).length) - (many (nth t k))) j)))]) = allTs 0 st' := by rw [hm2, hjq]; try simp only [meas_length]
    have n0 := m0
    have m0 := f1
    rw [b0] at n0 m0
    have b0 : (meas 0 st).take (((meas 0 st).length) - (many (nth t k))) ++ ([(((fromQ k (meas 0 st) (((meas 0 st).length) - (many (nth t k))) j)), ((deepQ (meas 0 st) (((meas 0 st).length) - (many (nth t k))) j)))]) = meas 0 st' := by rw [hm1, hjq]; try simp only [meas_length]
    have f1 := n0
    have n0 := m0
    rw [b0] at f1 n0
    have b0 := n0.erase 3
    have n0 := b0.erase 2
    have b0 := n0.forget 2
    exact ⟨_, by omega, k + 1, st', q0, u0, v0, x0, (f1.sub (rc rfl (rc rfl (rc rfl (rc rfl (rc rfl (rc rfl rnl))))))), b0, by omega, (scan_step hsc (by omega)).trans hp, rfl⟩
 ·
  have b0 := i0.setb (d := 15) (b := false) rfl (decide_eq_false h0)
  refine wp_cond_false (b0.ev rfl) ?_
  refine wp_exit ?_
  refine x_then_e ?_
  refine x_then_e ?_
  refine x_block_eq ?_
  refine x_then_n (f0 _ _ ?_)
  refine wsc (fun f0 i0 => ?_)
  refine mv b0 (fun f0 f1 => ?_)
  refine mv f1 (fun f0 b0 => ?_)
  refine r_len sv b0 rfl rfl rfl rfl Tryd.underlying85 (by decide) (fun f0 f1 => ?_)
  refine r_eql sv f1 rfl rfl rfl rfl (by decide) (fun f0 b0 => ?_)
  refine asg b0 (fun f0 f1 => ?_)
  refine asg f1 (fun f0 b0 => ?_)
  refine wpList_nil (x_then_n (i0 _ _ ?_))
  refine wp_ret ?_
  refine e_ret2 b0 rfl rfl rfl rfl ?_
  have b0 : measL t = allTs 0 st := measL_end (by rw [← hsc, List.take_of_length_le (by omega)])
  rw [b0]
  have b0 := own_cap (d0.res (i := 0) rfl)
  obtain ⟨i0, f0⟩ := d0.row_data (i := 0) rfl (fun _ h => h)
  have d0 := i0.data (dRow 2 Aa ((allTs 0 st).length) ca (encMs (allTs 0 st))) ⟨b0, f0⟩
  refine ⟨Aa, ca, ?_, d0.fr, d0.rx 2⟩
  exact ret_t2 rfl (ret_b (by first | (rw [measB_end (by rw [← hsc, List.take_of_length_le (by omega)]), meas_length]; done) | (rw [measB_end (by rw [← hsc, List.take_of_length_le (by omega)]), meas_length]; simp [h0]; done)))
set_option maxRecDepth 100000 in
set_option maxHeartbeats 1000000 in
theorem look_calls (w0 : World) (Z : Nat → Prop) (hZ : ∀ k, Z k → k < w0.heap.size) (tA : Option Addr) (tc : Nat) (t : List Nd) (hShp : Shapes w0 Z) (ht : (dRow 4 tA t.length tc (encNs t)).φ w0 Z) (hsm : sml t := by first | assumption | omega | (simp; done) | (simp; omega)) (hl : t.length ≤ 1000000 := by first | assumption | omega | (simp; done) | (simp; omega)) :
    Calls Tryd.prog 57 [.slice tA t.length tc].toArray w0 (fun e w' => ∃ (rA0 : Option Addr) (rc0 : Nat), e = .returned (.tuple #[.slice rA0 (lookL t).length rc0, .int .i64 (chk t)]) ∧ Fr none_ w0 w' ∧ (dRow 2 rA0 ((lookL t).length) rc0 (encMs (lookL t))).φ w' (nxt Z w0 w')) := by
 have b0 := s0 (M := none_) hZ (zc (d := dShapes) hShp (zc ht zn))
 refine c_enter Tryd.func57 rfl Tryd.ntmps57 rfl (fun c0 d0 => ?_)
 refine wsc (fun c0 f0 => ?_)
 refine asg d0 (fun c0 h0 => ?_)
 refine asg h0 (fun c0 d0 => ?_)
 refine wpList_nil (x_then_n (f0 _ _ ?_))
 refine wp_seq_k (fun f0 c0 => ?_)
 refine wsc (fun f0 h0 => ?_)
 refine mv d0 (fun f0 i0 => ?_)
 refine r_len sv i0 rfl rfl rfl rfl Tryd.underlying22 (by decide) (fun f0 d0 => ?_)
 refine r_gtr sv d0 rfl rfl rfl rfl (by decide) (fun f0 i0 => ?_)
 refine wpList_nil (x_then_n (h0 _ _ ?_))
 rcases Decidable.em (4000 < ((t.length : Nat) : Int)) with h0 | h0
 ·
  have f0 := i0.setb (d := 8) (b := true) rfl (decide_eq_true h0)
  refine wp_cond_true (f0.ev rfl) ?_
  refine wsc (fun d0 j0 => ?_)
  refine asg f0 (fun d0 k0 => ?_)
  refine asg k0 (fun d0 f0 => ?_)
  refine wpList_nil (x_then_n (j0 _ _ ?_))
  refine wp_ret ?_
  refine x_then_r ?_
  refine e_ret2 f0 rfl rfl rfl rfl ?_
  have f0 : lookL t = [] := lookL_bad (by first | rw [chk_size (by omega)]; omega | (rw [chk_form (by omega) (by assumption)]; omega) | (rw [chk_deep (by omega) (by assumption) (by assumption)]; omega))
  rw [f0]
  refine ⟨none, 0, ?_, b0.fr, ⟨Nat.le_refl _, RowI.nil _ _ _ _⟩⟩
  exact ret_t2 rfl (ret_i (by first | exact (chk_size (by omega)).symm))
 ·
  have f0 := i0.setb (d := 8) (b := false) rfl (decide_eq_false h0)
  refine wp_cond_false (f0.ev rfl) ?_
  refine wp_skip ?_
  refine x_then_n (c0 _ _ ?_)
  refine wsc (fun c0 h0 => ?_)
  refine mv f0 (fun c0 i0 => ?_)
  have c0 := b0.nf
  refine k_call (xs := [.tmp 10]) se i0 rfl rfl rfl (by decide) ok85 (measured_calls _ _ c0.il _ _ _ (c0.g 0) (c0.g 1)) ?_
  rintro i0 b0 ⟨f0, j0, rfl, d0, k0⟩
  have b0 := c0.below d0.below
  have d0 := c0.dN b0 k0
  refine ⟨_, rfl, fun b0 k0 => ?_⟩
  refine mv k0 (fun b0 c0 => ?_)
  refine r_extract sv c0 rfl rfl rfl rfl (by decide) (fun b0 k0 => ?_)
  refine r_extract sv k0 rfl rfl rfl rfl (by decide) (fun b0 c0 => ?_)
  refine asg c0 (fun b0 k0 => ?_)
  refine asg k0 (fun b0 c0 => ?_)
  refine wpList_nil (x_then_n (h0 _ _ ?_))
  refine wp_seq_k (fun h0 b0 => ?_)
  refine wp_block ?_
  refine wsc (fun h0 k0 => ?_)
  refine mv c0 (fun h0 i0 => ?_)
  refine r_not sv i0 rfl rfl rfl (by decide) (fun h0 c0 => ?_)
  refine asg c0 (fun h0 i0 => ?_)
  refine wpList_nil (x_then_n (k0 _ _ ?_))
  rcases Bool.eq_false_or_eq_true (measB t) with k0 | k0
  ·
   have hpos := measL_pos k0
   have hml := measL_length k0
   have h0 := i0.setb (d := 14) (b := false) rfl (by rw [k0]; rfl)
   refine wp_cond_false (h0.ev rfl) ?_
   refine wsc (fun c0 m0 => ?_)
   refine mv h0 (fun c0 n0 => ?_)
   refine mv n0 (fun c0 h0 => ?_)
   refine r_len sv h0 rfl rfl rfl rfl Tryd.underlying85 (by decide) (fun c0 n0 => ?_)
   refine r_sub (z := ((((measL t).length : Nat) : Int) - 1)) sv n0 rfl rfl rfl rfl (by decide) (by omega) (by omega) (by omega) (fun c0 h0 => ?_)
   refine m_index (i := ((measL t).length) - (1)) (j := (((measL t).length) - (1)) * 2) sv h0 rfl rfl rfl rfl Tryd.underlying85 sz111 (by omega) (by omega) (ms_elem (t := measL t) (k := ((measL t).length) - (1)) (d0.row (i := 2) rfl).2 (by omega)).some_ rfl (by decide) (fun c0 n0 => ?_)
   refine m_fieldE (j' := (((measL t).length) - (1)) * 2 + 1) sv n0 rfl rfl rfl (ms_elem (t := measL t) (k := ((measL t).length) - (1)) (d0.row (i := 2) rfl).2 (by omega)).some_ Tryd.underlying111 rfl sz3 rfl rfl (by decide) (fun c0 h0 => ?_)
   refine m_loadE sv h0 rfl rfl rfl 1 ((((measL t).length) - (1)) * 2) (ms_elem (t := measL t) (k := ((measL t).length) - (1)) (d0.row (i := 2) rfl).2 (by omega)) rfl rfl Tryd.underlying3 rfl (by decide) (fun c0 n0 => ?_)
   refine r_gtr sv n0 rfl rfl rfl rfl (by decide) (fun c0 h0 => ?_)
   refine asg h0 (fun c0 n0 => ?_)
   refine wpList_nil (x_then_n (m0 _ _ ?_))
   rcases Decidable.em (60 < (((nthM (measL t) (((measL t).length) - (1))).2))) with m0 | m0
   ·
    have c0 := n0.setb (d := 17) (b := true) rfl (decide_eq_true m0)
    refine wp_cond_true (c0.ev rfl) ?_
    refine wsc (fun h0 o0 => ?_)
    refine asg c0 (fun h0 p0 => ?_)
    refine asg p0 (fun h0 c0 => ?_)
    refine wpList_nil (x_then_n (o0 _ _ ?_))
    refine wp_ret ?_
    refine x_block_r ?_
    refine x_then_r ?_
    refine e_ret2 c0 rfl rfl rfl rfl ?_
    have c0 : lookL t = [] := lookL_bad (by first | rw [chk_size (by omega)]; omega | (rw [chk_form (by omega) (by assumption)]; omega) | (rw [chk_deep (by omega) (by assumption) (by assumption)]; omega))
    rw [c0]
    refine ⟨none, 0, ?_, d0.fr, ⟨Nat.le_refl _, RowI.nil _ _ _ _⟩⟩
    exact ret_t2 rfl (ret_i (by first | exact (chk_deep (by omega) (by assumption) (by assumption)).symm))
   ·
    have c0 := n0.setb (d := 17) (b := false) rfl (decide_eq_false m0)
    refine wp_cond_false (c0.ev rfl) ?_
    refine wp_skip ?_
    refine x_block_n ?_
    refine x_then_n (b0 _ _ ?_)
    refine wsc (fun b0 m0 => ?_)
    refine mv c0 (fun b0 n0 => ?_)
    refine asg n0 (fun b0 c0 => ?_)
    refine asg c0 (fun b0 n0 => ?_)
    refine wpList_nil (x_then_n (m0 _ _ ?_))
    refine wp_ret ?_
    refine e_ret2 n0 rfl rfl rfl rfl ?_
    have n0 : lookL t = measL t := lookL_good (chk_good (by omega) (by assumption) (by assumption))
    rw [n0]
    refine ⟨f0, j0, ?_, d0.fr, d0.rx 2⟩
    exact ret_t2 rfl (ret_i (by first | exact (chk_good (by omega) (by assumption) (by assumption)).symm))
  ·
   have j0 := i0.setb (d := 14) (b := true) rfl (by rw [k0]; rfl)
   refine wp_cond_true (j0.ev rfl) ?_
   refine wsc (fun k0 i0 => ?_)
   refine asg j0 (fun k0 f0 => ?_)
   refine asg f0 (fun k0 j0 => ?_)
   refine wpList_nil (x_then_n (i0 _ _ ?_))
   refine wp_ret ?_
   refine x_block_r ?_
   refine x_then_r ?_
   refine e_ret2 j0 rfl rfl rfl rfl ?_
   have j0 : lookL t = [] := lookL_bad (by first | rw [chk_size (by omega)]; omega | (rw [chk_form (by omega) (by assumption)]; omega) | (rw [chk_deep (by omega) (by assumption) (by assumption)]; omega))
   rw [j0]
   refine ⟨none, 0, ?_, d0.fr, ⟨Nat.le_refl _, RowI.nil _ _ _ _⟩⟩
   exact ret_t2 rfl (ret_i (by first | exact (chk_form (by omega) (by assumption)).symm))
set_option maxRecDepth 100000 in
set_option maxHeartbeats 1000000 in
theorem check_calls (w0 : World) (Z : Nat → Prop) (hZ : ∀ k, Z k → k < w0.heap.size) (tA : Option Addr) (tc : Nat) (t : List Nd) (hShp : Shapes w0 Z) (ht : (dRow 4 tA t.length tc (encNs t)).φ w0 Z) (hsm : sml t := by first | assumption | omega | (simp; done) | (simp; omega)) (hl : t.length ≤ 1000000 := by first | assumption | omega | (simp; done) | (simp; omega)) :
    Calls Tryd.prog 40 [.slice tA t.length tc].toArray w0 (fun e w' => e = .returned (.int .i64 (chk t)) ∧ Fr none_ w0 w') := by
 have b0 := s0 (M := none_) hZ (zc (d := dShapes) hShp (zc ht zn))
 refine c_enter Tryd.func40 rfl Tryd.ntmps40 rfl (fun c0 d0 => ?_)
 refine wsc (fun c0 f0 => ?_)
 refine asg d0 (fun c0 h0 => ?_)
 refine wpList_nil (x_then_n (f0 _ _ ?_))
 refine wsc (fun f0 c0 => ?_)
 refine mv h0 (fun f0 d0 => ?_)
 have f0 := b0.nf
 refine k_call (xs := [.tmp 6]) se d0 rfl rfl rfl (by decide) ok57 (look_calls _ _ f0.il _ _ _ (f0.g 0) (f0.g 1)) ?_
 rintro d0 b0 ⟨h0, i0, rfl, j0, k0⟩
 have i0 := f0.below j0.below
 have j0 := f0.dN i0 k0
 refine ⟨_, rfl, fun i0 k0 => ?_⟩
 refine mv k0 (fun i0 f0 => ?_)
 refine r_extract sv f0 rfl rfl rfl rfl (by decide) (fun i0 k0 => ?_)
 refine r_extract sv k0 rfl rfl rfl rfl (by decide) (fun i0 f0 => ?_)
 refine asg f0 (fun i0 k0 => ?_)
 refine asg k0 (fun i0 f0 => ?_)
 refine wpList_nil (x_then_n (c0 _ _ ?_))
 refine wsc (fun c0 i0 => ?_)
 refine mv f0 (fun c0 k0 => ?_)
 refine asg k0 (fun c0 f0 => ?_)
 refine wpList_nil (x_then_n (i0 _ _ ?_))
 refine wp_ret ?_
 refine e_ret1 f0 rfl rfl rfl ?_
 refine ⟨?_, j0.fr⟩
 exact congrArg Ending.returned (ret_i (by first | rfl | omega | assumption | exact decide_eq_true (by assumption) | ( omega) | (simp []; done) | (simp [] at *; done) | (simp [] <;> omega) | (rw [Bool.eq_iff_iff]; simp [] <;> omega) | (rw [Bool.eq_iff_iff]; simp [] at * <;> omega)))
end Go.Proofs.YtcfponnkfhkbdaaDoor
/- Contracts of functions, one theorem each: what the call returns, and that nothing old is changed. Printed by gen.py. -/
namespace Go.Proofs.YtcfponnkfhkbdaaDoor
open Go Go.RowKit
set_option linter.unusedSimpArgs false
set_option linter.unusedVariables false
set_option maxRecDepth 100000 in
set_option maxHeartbeats 1000000 in
theorem cloneN_calls (w0 : World) (Z : Nat → Prop) (hZ : ∀ k, Z k → k < w0.heap.size) (tA : Option Addr) (tc : Nat) (t : List Nd) (ht : (dRow 4 tA t.length tc (encNs t)).φ w0 Z) (hl : t.length ≤ 1000000 := by first | assumption | omega | (simp; done) | (simp; omega)) :
    Calls Tryd.prog 60 [.slice tA t.length tc].toArray w0 (fun e w' => ∃ (rA0 : Option Addr) (rc0 : Nat), e = .returned (.slice rA0 (t).length rc0) ∧ Fr none_ w0 w' ∧ (Res.row rA0 (t).length rc0 39 4 (encNs t)).holds w' ∧ (∀ k, (Res.row rA0 (t).length rc0 39 4 (encNs t)).blk = some k → w0.heap.size ≤ k)) := by
 have b0 := s0 (M := none_) hZ (zc ht zn)
 refine c_enter Tryd.func60 rfl Tryd.ntmps60 rfl (fun c0 d0 => ?_)
 refine wsc (fun c0 f0 => ?_)
 refine asg d0 (fun c0 h0 => ?_)
 refine wpList_nil (x_then_n (f0 _ _ ?_))
 refine wp_seq_k (fun f0 c0 => ?_)
 refine wsc (fun f0 d0 => ?_)
 refine mv h0 (fun f0 i0 => ?_)
 refine r_eqlNil sv i0 rfl rfl rfl rfl Tryd.underlying22 (by decide) (fun f0 h0 => ?_)
 refine wpList_nil (x_then_n (d0 _ _ ?_))
 rcases Bool.eq_false_or_eq_true (Option.isNone tA) with d0 | d0
 ·
  have f0 := h0.setb (d := 4) (b := true) rfl d0
  refine wp_cond_true (f0.ev rfl) ?_
  refine wsc (fun i0 j0 => ?_)
  refine asg f0 (fun i0 k0 => ?_)
  refine wpList_nil (x_then_n (j0 _ _ ?_))
  refine wp_ret ?_
  refine x_then_r ?_
  refine e_ret1 k0 rfl rfl rfl ?_
  have k0 : t = [] := List.eq_nil_of_length_eq_zero (nil_len ht (by assumption))
  rw [k0]
  refine ⟨none, 0, ?_, b0.fr, nil_row1, nil_row2⟩
  exact congrArg Ending.returned rfl
 ·
  have k0 := h0.setb (d := 4) (b := false) rfl d0
  refine wp_cond_false (k0.ev rfl) ?_
  refine wp_skip ?_
  refine x_then_n (c0 _ _ ?_)
  refine wsc (fun c0 d0 => ?_)
  refine mbs [] [] sv k0 b0 Tryd.underlying22 zi39 (fun c0 h0 j0 i0 f0 => ?_)
  refine mv i0 (fun j0 h0 => ?_)
  refine m_appendF (f := encN) (i := 0) ([]) (t) sv h0 f0 rfl rfl rfl rfl rfl encN_len (encN_one _) Tryd.underlying22 zi39 rfl rfl (f0.row (i := 0) rfl).2.news rfl (by first | omega | (simp only [List.length_cons, List.length_nil]; omega)) (by decide) (fun j0 i0 c0 k0 b0 m0 n0 => ?_)
  have b0 : (([]) ++ t : List Nd).length = t.length := by first | (simp only [List.length_append, List.length_take, List.length_cons, List.length_nil]; done) | (simp only [List.length_append, List.length_take, List.length_cons, List.length_nil]; omega)
  refine asg m0 (fun b0 i0 => ?_)
  refine wpList_nil (x_then_n (d0 _ _ ?_))
  refine wp_ret ?_
  refine e_ret1 i0 rfl rfl rfl ?_
  have i0 : t = ([]) ++ t := by simp
  rw [i0]
  refine ⟨c0, k0, ?_, n0.fr, (n0.res (i := 0) rfl), (n0.fresh (i := 0) rfl)⟩
  exact congrArg Ending.returned rfl
end Go.Proofs.YtcfponnkfhkbdaaDoor
/- The parts of a term by its measures, as term.backward hands them over; slices of slices made. -/
namespace Go.Proofs.YtcfponnkfhkbdaaDoor
set_option linter.unusedSimpArgs false
set_option linter.unusedVariables false
open Go Go.RowKit
theorem allTs_pre {st st' : List T} {t : List Nd} : ∀ (_ : scanT st t = some st'), ∃ r, allTs 0 st' = allTs 0 st ++ r := by
 induction t generalizing st with
 | nil =>
  intro h
  simp only [scanT] at h
  obtain rfl := Option.some.inj h
  exact ⟨[], by simp⟩
 | cons n t ih =>
  intro h
  simp only [scanT] at h
  cases hp : pushT st n with
  | none => simp [hp] at h
  | some s =>
   simp only [hp] at h
   obtain ⟨r, hr⟩ := ih h
   have := (push_meas hp rfl).2
   exact ⟨_, by rw [hr, this, List.append_assoc]⟩
theorem measL_from {t : List Nd} {e : Nat} (h : measB t = true) (he : e < t.length) : (nthM (measL t) e).1 = (frL t e : Int) := by
 obtain ⟨x, hs, h2, _, hf⟩ := measB_tree h
 obtain ⟨st, hst⟩ := meas_scan h e
 obtain ⟨hr, hm⟩ := meas_at h he hst
 have h3 := scan_step hst he
 obtain ⟨st', hp, _⟩ := push_some hr hm
 rw [hp] at h3
 have hfl := scan_flats hst (by omega)
 have h4 := (push_meas hp hfl).2
 have h5 : scanT st' (t.drop (e + 1)) = some [x] := by
  have := hs
  rw [show t = t.take (e + 1) ++ t.drop (e + 1) from (List.take_append_drop _ _).symm, scanT_append, h3] at this
  simpa using this
 obtain ⟨r, hr2⟩ := allTs_pre h5
 have hal : (allTs 0 st).length = e := by rw [allTs_length, hfl]
 have h6 : measL t = allTs 0 st ++ ((fromQ e (meas 0 st) (st.length - many (nth t e)) (many (nth t e)), deepQ (meas 0 st) (st.length - many (nth t e)) (many (nth t e))) :: r) := by
  rw [h2]
  have : allTs 0 [x] = allT 0 x := by simp [allTs]
  rw [← this, hr2, h4, List.append_assoc]
  rfl
 have h7 : nthM (measL t) e = (fromQ e (meas 0 st) (st.length - many (nth t e)) (many (nth t e)), deepQ (meas 0 st) (st.length - many (nth t e)) (many (nth t e))) := by
  rw [h6, nthM, List.getD_eq_getElem?_getD, List.getElem?_append_right (by omega), hal]
  simp
 rw [h7, ← posL_end h he]
 unfold posL
 rw [hst]
 simp only
 unfold fromQ
 split
 ·
  rename_i h0
  rw [h0, Nat.sub_zero, List.take_length, hfl]
 ·
  obtain ⟨o, h8, h9⟩ := nthM_meas (st := st) (i := st.length - many (nth t e)) (by omega)
  rw [h8, h9]
theorem ps_step {t : List Nd} {j : Nat} (h : measB t = true) (hj : j < many (nth t (t.length - 1))) : 0 < posL t (t.length - 1) j ∧ posL t (t.length - 1) j ≤ t.length - 1 ∧ (nthM (measL t) (posL t (t.length - 1) j - 1)).1 = (posL t (t.length - 1) (j + 1) : Int) ∧ posL t (t.length - 1) (j + 1) < posL t (t.length - 1) j := by
 have hp := meas_pos h
 obtain ⟨h1, h2, h3, h4⟩ := posL_step h (show t.length - 1 < t.length by omega) hj
 refine ⟨h1, h2, ?_, h4⟩
 rw [measL_from h (by omega), h3]
def bkAt (A : Option Addr) (c : Nat) (t : List Nd) (k : Nat) : Int × Sl :=
 (((many (nth t (t.length - 1)) - 1 - k : Nat) : Int), ((if c = posL t (t.length - 1) (k + 1) then A else A.map (·.add (posL t (t.length - 1) (k + 1) * 4))), c - posL t (t.length - 1) (k + 1), (t.drop (posL t (t.length - 1) (k + 1))).take (posL t (t.length - 1) k - posL t (t.length - 1) (k + 1))))
def bkS (A : Option Addr) (c : Nat) (t : List Nd) : List (Int × Sl) := (List.range (many (nth t (t.length - 1)))).map (bkAt A c t)
theorem bkS_step {A : Option Addr} {c : Nat} {t : List Nd} {k : Nat} (h : k < many (nth t (t.length - 1))) : (bkS A c t).take k ++ [bkAt A c t k] = (bkS A c t).take (k + 1) := by
 rw [List.take_add_one]
 have : (bkS A c t)[k]? = some (bkAt A c t k) := by simp [bkS, h]
 rw [this]
 rfl
theorem bkS_len (A : Option Addr) (c : Nat) (t : List Nd) : (bkS A c t).length = many (nth t (t.length - 1)) := by simp [bkS]
theorem bkS_all {A : Option Addr} {c : Nat} {t : List Nd} {k : Nat} (h : many (nth t (t.length - 1)) ≤ k) : (bkS A c t).take k = bkS A c t := List.take_of_length_le (by rw [bkS_len]; exact h)
theorem bkS_pre {A : Option Addr} {c : Nat} {t : List Nd} {k : Nat} {x : Int × Sl} (h : k < many (nth t (t.length - 1))) (hx : x = bkAt A c t k) : (bkS A c t).take k ++ [x] <+: bkS A c t := by
 rw [hx, bkS_step h]
 exact List.take_prefix _ _
theorem bk_eq {A : Option Addr} {c : Nat} {t : List Nd} {k f : Nat} {i : Int} (hi : i = ((many (nth t (t.length - 1)) - 1 - k : Nat) : Int)) (hf : f = posL t (t.length - 1) (k + 1)) :
  ((i, ((if c = f then A else A.map (·.add (f * 4))), c - f, (t.drop f).take (posL t (t.length - 1) k - f))) : Int × Sl) = bkAt A c t k := by
 subst hi hf
 rfl
theorem bkS_next {A : Option Addr} {c : Nat} {t : List Nd} {pre : List (Int × Sl)} {k : Nat} {x : Int × Sl} (hk : pre.length = k) (h : pre ++ [x] <+: bkS A c t) : k < many (nth t (t.length - 1)) ∧ x = bkAt A c t k := by
 obtain ⟨r, hr⟩ := h
 have hl := congrArg List.length hr
 rw [List.length_append, List.length_append, List.length_singleton, bkS_len, hk] at hl
 have hlt : k < many (nth t (t.length - 1)) := by omega
 have h1 : (bkS A c t)[k]? = some x := by
  rw [← hr, List.append_assoc, List.getElem?_append_right (by omega), hk]
  simp
 refine ⟨hlt, ?_⟩
 simp [bkS, hlt] at h1
 exact h1.symm
theorem bk_row {A : Option Addr} {c : Nat} {t : List Nd} {w : World} {I : Nat → Prop} {k : Nat} (hb : measB t = true) (h : (dRow 4 A t.length c (encNs t)).φ w I) (hk : k < many (nth t (t.length - 1))) :
  (dRow 4 (bkAt A c t k).2.1 (bkAt A c t k).2.2.2.length (bkAt A c t k).2.2.1 (encNs (bkAt A c t k).2.2.2)).φ w I := by
 obtain ⟨h1, h2, _, h4⟩ := ps_step hb hk
 exact cut_row (f := encN) (L := t) h encN_len (by omega)
theorem arg_step {t : List Nd} {Ls : List Sl} {k : Nat} {A : Option Addr} {c : Nat} {A' : Option Addr} {c' : Nat} (hb : measB t = true) (hL : lsts Ls.reverse = ptD t k) (hk : k < many (nth t (t.length - 1))) : lsts (Ls ++ [((A', c', (bkAt A c t k).2.2.2) : Sl)]).reverse = ptD t (k + 1) := by
 rw [List.reverse_append]
 exact parts_step hb hL hk rfl rfl
theorem rep_set {n k i : Nat} {Ls : List Sl} {x : Sl} (h : k < n) (hi : i = n - 1 - k) : (List.replicate (n - k) slz ++ Ls.reverse).set i x = List.replicate (n - (k + 1)) slz ++ (Ls ++ [x]).reverse := by
 subst hi
 rw [List.set_append_left _ _ (by rw [List.length_replicate]; omega), show n - k = (n - 1 - k) + 1 by omega, List.replicate_succ', List.set_append_right _ _ (by rw [List.length_replicate]; omega)]
 simp
 omega
theorem all_rep {w : World} {I : Nat → Prop} (n : Nat) : (dAll (List.replicate n slz)).φ w I := fun s hs => by
 rw [List.eq_of_mem_replicate hs]
 exact ⟨Nat.le_refl _, RowI.nil _ _ _ _⟩
def agA (t : List Nd) : List (List Nd) := if chk t = 0 then ptL t else []
theorem agA_ok {t : List Nd} (h : chk t = 0) : agA t = ptL t := if_pos h
theorem agA_no {t : List Nd} (h : ¬ chk t = 0) : agA t = [] := if_neg h
theorem zeros_encS (n : Nat) : (List.replicate n slz).flatMap encS = List.replicate n (.slice none 0 0) := by
 induction n with
 | zero => rfl
 | succ n ih => rw [List.replicate_succ, List.flatMap_cons, ih]; rfl
section
variable {P : Program} {X : Prop} {Next : Act → World → Prop} {o : Oper} {a : Act} {w w0 : World} {N : Nat} {l : List (Nat × Value)} {d : Nat} {Z M : Nat → Prop} {m : List Res} {ds : List Dat}
theorem m_makeSs {t e : TypeId} {n by_ : Nat} {x y : Operand} {p q : Int} {kx ky : IntKind} (hs : SteV P X Next o a w) (hR : Reg a N l) (hS : St w0 Z M w m ds) (hd : o.dst = some d) (ho : o.op = .makeSlice t x y) (hx : ev l x = some (.int kx p)) (hy : ev l y = some (.int ky q))
  (hp : p = (n : Int)) (hq' : q = (n : Int)) (ht : P.underlying t = some (.slice e)) (hi : (P.info? e).map (fun i => (i.zero, i.size, i.bytes)) = some (some (.slice none 0 0), 1, by_)) (hby : by_ ≤ 100) (hn : n ≤ 1000) (hdN : d < N)
  (k : ∀ a' w' g, Reg a' N ((d, .slice (some ⟨g, 0, none⟩) (List.replicate n slz).length (List.replicate n slz).length) :: l) → St w0 Z M w' (m ++ [.row (some ⟨g, 0, none⟩) (List.replicate n slz).length (List.replicate n slz).length e 1 (encSs (List.replicate n slz))]) ds → Next a' w') : X :=
 m_makeSlice hs hR hS hd ho hx hy hp hq' ht hi rfl rfl (decide_eq_true (by omega)) (by omega) hdN (fun a' w' g hR' hS' => k a' w' g (by rw [List.length_replicate]; exact hR') (by rw [List.length_replicate, encSs, zeros_encS]; exact hS'))
end
end Go.Proofs.YtcfponnkfhkbdaaDoor
/- What makers make, behind an error nothing. -/
namespace Go.Proofs.YtcfponnkfhkbdaaDoor
set_option linter.unusedSimpArgs false
set_option linter.unusedVariables false
open Go Go.RowKit
def noL (e : Int) (n : Nd) (p : List (List Nd)) : List Nd := if e = 0 then p.flatten ++ [n] else []
theorem noL_len {e : Int} {n : Nd} {p : List (List Nd)} : (noL e n p).length ≤ p.flatten.length + 1 := by
 unfold noL
 split <;> simp
theorem noL_sml {e : Int} {n : Nd} {p : List (List Nd)} (hn : n.S.size < 1000000) (hp : ∀ x ∈ p, sml x) : sml (noL e n p) := by
 rw [sml_mem]
 unfold noL
 split
 ·
  intro m hm
  rcases List.mem_append.1 hm with h | h
  ·
   obtain ⟨x, hx, h⟩ := List.mem_flatten.1 h
   exact sml_mem.1 (hp x hx) m h
  ·
   simp only [List.mem_singleton] at h
   rw [h]; exact hn
 · intro m hm; simp at hm
section
variable {r : List Nd} {e : Int}
end
end Go.Proofs.YtcfponnkfhkbdaaDoor
/- Contracts of functions, one theorem each: what the call returns, and that nothing old is changed. Printed by gen.py. -/
namespace Go.Proofs.YtcfponnkfhkbdaaDoor
open Go Go.RowKit
set_option linter.unusedSimpArgs false
set_option linter.unusedVariables false
set_option maxRecDepth 100000 in
set_option maxHeartbeats 1000000 in
theorem done_calls (w0 : World) (Z : Nat → Prop) (hZ : ∀ k, Z k → k < w0.heap.size) (mg : Nat) (mt : TypeId) (me : Int) (mr : List Value) (tA : Option Addr) (tc : Nat) (t : List Nd) (hShp : Shapes w0 Z) (hm : (Res.box mg mt (.int .i64 me :: mr)).holds w0) (hmz : ¬ Z mg) (ht : (dRow 4 tA t.length tc (encNs t)).φ w0 Z) (hsm : sml t := by first | assumption | omega | (simp; done) | (simp; omega)) (hl : t.length ≤ 1000000 := by first | assumption | omega | (simp; done) | (simp; omega)) :
    Calls Tryd.prog 36 [.pointer (some ⟨mg, 0, none⟩), .slice tA t.length tc].toArray w0 (fun e w' => ∃ (rA0 : Option Addr) (rc0 : Nat), e = .returned (.tuple #[.slice rA0 ((if (if me = 0 then chk t else me) = 0 then t else [])).length rc0, .int .i64 ((if me = 0 then chk t else me))]) ∧ Fr (· = mg) w0 w' ∧ (Res.box mg mt (.int .i64 (if me = 0 then chk t else me) :: mr)).holds w' ∧ (dRow 4 rA0 (((if (if me = 0 then chk t else me) = 0 then t else [])).length) rc0 (encNs (if (if me = 0 then chk t else me) = 0 then t else []))).φ w' (nxt Z w0 w')) := by
 have b0 := sM hm hmz hZ (zc (d := dShapes) hShp (zc ht zn))
 refine c_enter Tryd.func36 rfl Tryd.ntmps36 rfl (fun c0 d0 => ?_)
 refine wsc (fun c0 f0 => ?_)
 refine asg d0 (fun c0 h0 => ?_)
 refine asg h0 (fun c0 d0 => ?_)
 refine wpList_nil (x_then_n (f0 _ _ ?_))
 refine c_join (fun ga gw => Reg ga 26 [(0, .pointer (some ⟨mg, 0, none⟩)), (1, .slice tA t.length tc), (4, .slice none 0 0), (5, .int .i64 0), (1000000, .bool false)] ∧ St w0 Z (· = mg) gw [.box mg mt (.int .i64 ((if ((me) = 0) then ((chk t)) else (me))) :: mr)] [dShapes, dRow 4 tA t.length tc (encNs t)]) ?_ ?_
 ·
  refine wsc (fun f0 c0 => ?_)
  refine mv d0 (fun f0 h0 => ?_)
  refine r_nilCheck sv h0 rfl rfl rfl (by decide) (fun f0 d0 => ?_)
  refine m_field (j' := 0) sv d0 rfl rfl rfl Tryd.underlying59 rfl sz27 rfl rfl (by decide) (fun f0 h0 => ?_)
  refine m_load (i := 0) sv h0 b0 rfl rfl rfl rfl rfl Tryd.underlying27 rfl (by decide) (fun f0 d0 => ?_)
  refine r_eql sv d0 rfl rfl rfl rfl (by decide) (fun f0 h0 => ?_)
  refine wpList_nil (x_then_n (c0 _ _ ?_))
  rcases Decidable.em ((me) = 0) with c0 | c0
  ·
   have f0 := h0.setb (d := 10) (b := true) rfl (decide_eq_true c0)
   refine wp_cond_true (f0.ev rfl) ?_
   refine c_region ?_
   refine mv f0 (fun d0 i0 => ?_)
   refine mv i0 (fun d0 f0 => ?_)
   have d0 := b0.nf
   refine k_call (xs := [.tmp 12]) se f0 rfl rfl rfl (by decide) ok40 (check_calls _ _ d0.il _ _ _ (d0.g 0) (d0.g 1)) ?_
   rintro f0 i0 ⟨rfl, j0⟩
   have i0 := d0.below j0.below
   refine ⟨_, rfl, fun j0 d0 => ?_⟩
   refine r_nilCheck sv d0 rfl rfl rfl (by decide) (fun j0 f0 => ?_)
   refine m_field (j' := 0) sv f0 rfl rfl rfl Tryd.underlying59 rfl sz27 rfl rfl (by decide) (fun j0 d0 => ?_)
   refine m_store (i := 0) (cs' := (.int .i64 ((chk t)) :: mr)) se d0 i0 rfl rfl rfl rfl rfl sz27 rfl rfl rfl (fun j0 f0 k0 m0 => ?_)
   refine wpList_nil ?_
   have hSj := m0
   exact x_then_n ⟨(k0.sub (rc rfl (rc rfl (rc rfl (rc rfl (rc rfl rnl)))))), by rw [(show (((if ((me) = 0) then ((chk t)) else (me))) : Int) = ((chk t)) by first | rfl | (simp only [decide_eq_true c0, if_pos c0, bl]; done) | (simp [c0]; done) | (simp [c0]; omega))]; exact hSj⟩
  ·
   have k0 := h0.setb (d := 10) (b := false) rfl (decide_eq_false c0)
   refine wp_cond_false (k0.ev rfl) ?_
   refine wp_skip ?_
   have hSj := b0
   exact x_then_n ⟨(k0.sub (rc rfl (rc rfl (rc rfl (rc rfl (rc rfl rnl)))))), by rw [(show (((if ((me) = 0) then ((chk t)) else (me))) : Int) = (me) by first | rfl | (simp only [decide_eq_false c0, if_neg c0, bl]; done) | (simp [c0]; done) | (simp [c0]; omega))]; exact hSj⟩
 rintro k0 c0 ⟨b0, h0⟩
 refine wp_seq_k (fun c0 k0 => ?_)
 refine wsc (fun c0 m0 => ?_)
 refine mv b0 (fun c0 f0 => ?_)
 refine r_nilCheck sv f0 rfl rfl rfl (by decide) (fun c0 b0 => ?_)
 refine m_field (j' := 0) sv b0 rfl rfl rfl Tryd.underlying59 rfl sz27 rfl rfl (by decide) (fun c0 f0 => ?_)
 refine m_load (i := 0) sv f0 h0 rfl rfl rfl rfl rfl Tryd.underlying27 rfl (by decide) (fun c0 b0 => ?_)
 refine r_neq sv b0 rfl rfl rfl rfl (by decide) (fun c0 f0 => ?_)
 refine wpList_nil (x_then_n (m0 _ _ ?_))
 rcases Decidable.em (((if ((me) = 0) then ((chk t)) else (me))) = 0) with m0 | m0
 ·
  have c0 := f0.setb (d := 20) (b := false) rfl (by rw [(decide_eq_true m0)]; rfl)
  refine wp_cond_false (c0.ev rfl) ?_
  refine wp_skip ?_
  refine x_then_n (k0 _ _ ?_)
  refine wsc (fun k0 b0 => ?_)
  refine mv c0 (fun k0 j0 => ?_)
  refine asg j0 (fun k0 c0 => ?_)
  refine asg c0 (fun k0 j0 => ?_)
  refine wpList_nil (x_then_n (b0 _ _ ?_))
  refine wp_ret ?_
  refine e_ret2 j0 rfl rfl rfl rfl ?_
  have j0 : (if (if me = 0 then chk t else me) = 0 then t else []) = t := by simp [m0]
  rw [j0]
  refine ⟨tA, tc, ?_, h0.fr, (by rw [show (if me = 0 then chk t else me : Int) = ((if ((me) = 0) then ((chk t)) else (me))) by first | (simp [m0]; done) | (have j0 := m0; (try simp at j0);  simp_all; done) | omega]; exact h0.res (i := 0) rfl), h0.rx 1⟩
  exact ret_t2 rfl (ret_i (by first | (simp [m0]; done) | (have j0 := m0; (try simp at j0);  simp_all; done) | omega))
 ·
  have b0 := f0.setb (d := 20) (b := true) rfl (by rw [(decide_eq_false m0)]; rfl)
  refine wp_cond_true (b0.ev rfl) ?_
  refine wp_seq_k (fun f0 k0 => ?_)
  obtain ⟨f0, c0, d0⟩ := h0.agree
  refine d_reg3 (n := 6) d0 2 (pc 0 0 pn) (pan_then (pan_then pan_body)) (fun c0 f0 h0 i0 n0 o0 => ?_)
  refine dtM 0 f0 b0 o0 (fun i0 c0 => ?_)
  refine dtN 1 f0 c0 o0 (fun i0 b0 => ?_)
  refine dtF 2 0 f0 b0 o0 Tryd.underlying59 sz27 (fun i0 c0 => ?_)
  refine dtC 3 0 f0 c0 o0 Tryd.underlying27 (fun i0 b0 => ?_)
  refine dtA 4 f0 b0 o0 (fun i0 c0 => ?_)
  refine dtA 5 f0 c0 o0 (fun i0 b0 => ?_)
  refine wpAnyH_done (by kernel_rfl) (h0 _ _ ?_) _
  refine x_then_n (k0 _ _ ?_)
  refine wp_ret ?_
  refine x_then_r ?_
  refine e_ret2 b0 rfl rfl rfl rfl ?_
  have b0 : (if (if me = 0 then chk t else me) = 0 then t else []) = [] := by simp [m0]
  rw [b0]
  refine ⟨none, 0, ?_, n0.fr, (by rw [show (if me = 0 then chk t else me : Int) = ((if ((me) = 0) then ((chk t)) else (me))) by first | (simp [m0]; done) | (have j0 := m0; (try simp at j0);  simp_all; done) | omega]; exact n0.res (i := 0) rfl), ⟨Nat.le_refl _, RowI.nil _ _ _ _⟩⟩
  exact ret_t2 rfl (ret_i (by first | (simp [m0]; done) | (have j0 := m0; (try simp at j0);  simp_all; done) | omega))
set_option maxRecDepth 100000 in
set_option maxHeartbeats 1000000 in
theorem node_calls (w0 : World) (Z : Nat → Prop) (hZ : ∀ k, Z k → k < w0.heap.size) (mg : Nat) (mt : TypeId) (me : Int) (mr : List Value) (n : Nd) (pA : Option Addr) (pc : Nat) (p : List Sl) (hm : (Res.box mg mt (.int .i64 me :: mr)).holds w0) (hmz : ¬ Z mg) (hp : (dRow 1 pA p.length pc (encSs p)).φ w0 Z) (hps : (dAll p).φ w0 Z) (hl : p.length ≤ 100 := by first | assumption | omega | (simp; done) | (simp; omega)) (hb : ∀ s ∈ p, s.2.2.length ≤ 100000 := by first | assumption | omega | (simp; done) | (simp; omega)) :
    Calls Tryd.prog 72 [.pointer (some ⟨mg, 0, none⟩), .agg #[.int .i64 (n.K), .int .i64 (n.N), .int .i64 (n.M), .string n.S], .slice pA p.length pc].toArray w0 (fun e w' => ∃ (rA0 : Option Addr) (rc0 : Nat) (rL0 : List Nd), e = .returned (.slice rA0 rL0.length rc0) ∧ Fr (· = mg) w0 w' ∧ (Res.box mg mt (.int .i64 (me) :: mr)).holds w' ∧ (dRow 4 rA0 rL0.length rc0 (encNs rL0)).φ w' (nxt Z w0 w') ∧ rL0 = noL me n (lsts p)) := by
 have b0 := sM hm hmz hZ (zc hp (zc hps zn))
 refine c_enter Tryd.func72 rfl Tryd.ntmps72 rfl (fun c0 d0 => ?_)
 refine wsc (fun c0 f0 => ?_)
 refine m_box (cs := [.int .i64 (n.K), .int .i64 (n.N), .int .i64 (n.M), .string n.S]) sv d0 b0 rfl rfl rfl rfl (by decide) (fun c0 h0 i0 j0 k0 => ?_)
 refine asg j0 (fun h0 c0 => ?_)
 refine wpList_nil (x_then_n (f0 _ _ ?_))
 refine wp_seq_k (fun f0 h0 => ?_)
 refine wsc (fun f0 j0 => ?_)
 refine mv c0 (fun f0 d0 => ?_)
 refine r_nilCheck sv d0 rfl rfl rfl (by decide) (fun f0 c0 => ?_)
 refine m_field (j' := 0) sv c0 rfl rfl rfl Tryd.underlying59 rfl sz27 rfl rfl (by decide) (fun f0 d0 => ?_)
 refine m_load (i := 0) sv d0 k0 rfl rfl rfl rfl rfl Tryd.underlying27 rfl (by decide) (fun f0 c0 => ?_)
 refine r_neq sv c0 rfl rfl rfl rfl (by decide) (fun f0 d0 => ?_)
 refine wpList_nil (x_then_n (j0 _ _ ?_))
 rcases Decidable.em ((me) = 0) with j0 | j0
 ·
  have f0 := d0.setb (d := 14) (b := false) rfl (by rw [(decide_eq_true j0)]; rfl)
  refine wp_cond_false (f0.ev rfl) ?_
  refine wp_skip ?_
  refine x_then_n (h0 _ _ ?_)
  refine wsc (fun h0 c0 => ?_)
  refine asg f0 (fun h0 b0 => ?_)
  refine wpList_nil (x_then_n (c0 _ _ ?_))
  refine wp_seq_k (fun c0 h0 => ?_)
  refine wsc (fun c0 f0 => ?_)
  refine mv b0 (fun c0 m0 => ?_)
  refine r_len sv m0 rfl rfl rfl rfl Tryd.underlying42 (by decide) (fun c0 b0 => ?_)
  refine mv b0 (fun c0 m0 => ?_)
  refine wpList_nil (x_then_n (f0 _ _ ?_))
  refine wp_block ?_
  have f0 := k0.nilrow 39 4
  refine wp_loop_ghost (fun gn ga gw => ∃ k : Nat, ∃ Ao : Option Addr, ∃ co : Nat, (Reg ga 29 [(1000000, .bool false), (4, .pointer (some ⟨i0, 0, none⟩)), (6, .slice none 0 0), (15, .slice pA p.length pc), (16, .int .i64 ((p.length : Nat) : Int)), (17, .int .i64 ((k : Nat) : Int)), (7, .slice Ao (((lsts (p.take k)).flatten).length) co)]) ∧ (St w0 Z (· = mg) gw [.box mg mt (.int .i64 (me) :: mr), .box i0 39 [.int .i64 (n.K), .int .i64 (n.N), .int .i64 (n.M), .string n.S], .row Ao (((lsts (p.take k)).flatten).length) co 39 4 (encNs ((lsts (p.take k)).flatten))] [dRow 1 pA p.length pc (encSs p), dAll p]) ∧ (k ≤ p.length) ∧ (p.length - k) = gn) _ ⟨0, none, 0, (m0.sub (rc rfl (rc rfl (rc rfl (rc rfl (rc rfl (rc rfl (rc rfl rnl)))))))), f0, by omega, rfl⟩ ?_
  rintro f0 m0 i0 ⟨k, Ao, co, c0, b0, hk, n0⟩
  have hfl := flat_le hb hk
  refine wsc (fun n0 i0 => ?_)
  refine r_lss sv c0 rfl rfl rfl rfl (by decide) (fun n0 m0 => ?_)
  refine wpList_nil (x_then_n (i0 _ _ ?_))
  refine wp_seq_k (fun i0 n0 => ?_)
  rcases Decidable.em (((k : Nat) : Int) < ((p.length : Nat) : Int)) with i0 | i0
  ·
   have c0 := m0.setb (d := 18) (b := true) rfl (decide_eq_true i0)
   refine wp_cond_true (c0.ev rfl) ?_
   refine wp_skip ?_
   refine x_then_n (n0 _ _ ?_)
   refine wp_seq_k (fun n0 f0 => ?_)
   refine wp_block ?_
   refine wsc (fun n0 o0 => ?_)
   refine m_index (i := k) (j := k * 1) sv c0 rfl rfl rfl rfl Tryd.underlying42 sz22 (by omega) (by omega) (ss_elem (t := p) (k := k) (b0.row (i := 0) rfl).2 (by omega)).some_ rfl (by decide) (fun n0 p0 => ?_)
   refine m_loadE sv p0 rfl rfl rfl 0 (k * 1) (ss_elem (t := p) (k := k) (b0.row (i := 0) rfl).2 (by omega)) rfl rfl Tryd.underlying22 rfl (by decide) (fun n0 c0 => ?_)
   have n0 := b0.data (dRow 4 ((nthS p k).1) ((nthS p k).2.2.length) ((nthS p k).2.1) (encNs ((nthS p k).2.2))) (all_at (t := p) (k := k) (b0.get (i := 1) rfl) (by omega))
   refine asg c0 (fun p0 q0 => ?_)
   refine wpList_nil (x_then_n (o0 _ _ (c_region ?_)))
   refine mv q0 (fun o0 p0 => ?_)
   refine mv p0 (fun o0 q0 => ?_)
   refine m_appendF (f := encN) (i := 2) ((lsts (p.take k)).flatten) ((nthS p k).2.2) sv q0 n0 rfl rfl rfl rfl rfl encN_len (encN_one _) Tryd.underlying22 zi39 rfl rfl (n0.row (i := 2) rfl).2.news rfl (by first | omega | (simp only [List.length_cons, List.length_nil]; omega)) (by decide) (fun o0 p0 c0 s0 t0 u0 v0 => ?_)
   have t0 : (((lsts (p.take k)).flatten) ++ ((nthS p k).2.2)).length = ((lsts (p.take k)).flatten).length + (nthS p k).2.2.length := by first | (simp only [List.length_append, List.length_take, List.length_cons, List.length_nil]; done) | (simp only [List.length_append, List.length_take, List.length_cons, List.length_nil]; omega)
   refine asg u0 (fun t0 p0 => ?_)
   refine wpList_nil ?_
   refine x_block_n ?_
   refine x_then_n (f0 _ _ ?_)
   refine c_region ?_
   refine r_add (z := ((k + 1 : Nat) : Int)) sv p0 rfl rfl rfl rfl (by decide) (by omega) (by omega) (by omega) (fun f0 t0 => ?_)
   refine mv t0 (fun f0 p0 => ?_)
   refine wpList_nil ?_
   have f0 : ((lsts (p.take k)).flatten) ++ ((nthS p k).2.2) = (lsts (p.take (k + 1))).flatten := (flat_step (by omega)).symm
   have t0 := p0
   have p0 := v0
   rw [f0] at t0 p0
   have f0 := p0.forget 2
   exact ⟨_, by omega, k + 1, c0, s0, (t0.sub (rc rfl (rc rfl (rc rfl (rc rfl (rc rfl (rc rfl (rc rfl rnl)))))))), f0, by omega, rfl⟩
  ·
   have f0 := m0.setb (d := 18) (b := false) rfl (decide_eq_false i0)
   refine wp_cond_false (f0.ev rfl) ?_
   refine wp_exit ?_
   refine x_then_e ?_
   refine x_then_e ?_
   refine x_block_eq ?_
   refine x_then_n (h0 _ _ ?_)
   refine wsc (fun h0 i0 => ?_)
   refine mv f0 (fun h0 m0 => ?_)
   refine m_loadN (i := 1) (vs := [.int .i64 (n.K), .int .i64 (n.N), .int .i64 (n.M), .string n.S]) sv m0 b0 rfl rfl rfl rfl rfl Tryd.underlying39 rfl sz39 (by decide) (fun h0 f0 => ?_)
   refine mbs [(0, .tmp 26)] [.int .i64 (n.K), .int .i64 (n.N), .int .i64 (n.M), .string n.S] sv f0 b0 Tryd.underlying22 zi39 (fun h0 m0 t0 s0 c0 => ?_)
   refine m_appendF (f := encN) (i := 2) ((lsts (p.take k)).flatten) ([n]) sv s0 c0 rfl rfl rfl rfl rfl encN_len (encN_one _) Tryd.underlying22 zi39 rfl rfl (own_lnews (f := encN) (c0.res (i := 3) rfl)) rfl (by first | omega | (simp only [List.length_cons, List.length_nil]; omega)) (by decide) (fun t0 m0 h0 f0 b0 p0 v0 => ?_)
   have b0 : (((lsts (p.take k)).flatten) ++ ([n]) : List Nd).length = ((lsts (p.take k)).flatten).length + 1 := by first | (simp only [List.length_append, List.length_take, List.length_cons, List.length_nil]; done) | (simp only [List.length_append, List.length_take, List.length_cons, List.length_nil]; omega)
   have b0 := v0.erase 3
   refine asg p0 (fun v0 m0 => ?_)
   refine wpList_nil (x_then_n (i0 _ _ ?_))
   refine wp_ret ?_
   refine e_ret1 m0 rfl rfl rfl ?_
   have m0 := own_cap (b0.res (i := 2) rfl)
   obtain ⟨i0, v0⟩ := b0.row_dataM (i := 2) rfl (j := 0) rfl (by decide)
   have b0 := i0.data (dRow 4 h0 ((((lsts (p.take k)).flatten) ++ ([n]) : List Nd).length) f0 (encNs (((lsts (p.take k)).flatten) ++ ([n])))) ⟨m0, v0⟩
   refine ⟨h0, f0, (((lsts (p.take k)).flatten) ++ ([n])), ?_, b0.fr, b0.res (i := 0) rfl, b0.rx 2, (by unfold noL; rw [if_pos (by assumption), List.take_of_length_le (by omega)])⟩
   exact congrArg Ending.returned (ret_s (by first | rfl | (simp; done)))
 ·
  have b0 := d0.setb (d := 14) (b := true) rfl (by rw [(decide_eq_false j0)]; rfl)
  refine wp_cond_true (b0.ev rfl) ?_
  refine wsc (fun j0 d0 => ?_)
  refine asg b0 (fun j0 f0 => ?_)
  refine wpList_nil (x_then_n (d0 _ _ ?_))
  refine wp_ret ?_
  refine x_then_r ?_
  refine e_ret1 f0 rfl rfl rfl ?_
  refine ⟨none, 0, [], ?_, k0.fr, k0.res (i := 0) rfl, ⟨Nat.le_refl _, RowI.nil _ _ _ _⟩, (by unfold noL; rw [if_neg (by assumption)])⟩
  exact congrArg Ending.returned (ret_s (by first | rfl | (simp; done)))
end Go.Proofs.YtcfponnkfhkbdaaDoor
/- Contracts of functions, one theorem each: what the call returns, and that nothing old is changed. Printed by gen.py. -/
namespace Go.Proofs.YtcfponnkfhkbdaaDoor
open Go Go.RowKit
set_option linter.unusedSimpArgs false
set_option linter.unusedVariables false
set_option maxRecDepth 100000 in
set_option maxHeartbeats 1000000 in
theorem fail_calls (w0 : World) (Z : Nat → Prop) (hZ : ∀ k, Z k → k < w0.heap.size) (mg : Nat) (mt : TypeId) (me : Int) (mr : List Value) (ee : Int) (hm : (Res.box mg mt (.int .i64 me :: mr)).holds w0) (hmz : ¬ Z mg) :
    Calls Tryd.prog 88 [.pointer (some ⟨mg, 0, none⟩), .int .i64 ee].toArray w0 (fun e w' => ∃ (rA0 : Option Addr) (rc0 : Nat), e = .returned (.slice rA0 (([] : List Nd)).length rc0) ∧ Fr (· = mg) w0 w' ∧ (Res.box mg mt (.int .i64 (if me = 0 then ee else me) :: mr)).holds w' ∧ (dRow 4 rA0 ((([] : List Nd)).length) rc0 (encNs ([] : List Nd))).φ w' (nxt Z w0 w')) := by
 have b0 := sM hm hmz hZ zn
 refine c_enter Tryd.func88 rfl Tryd.ntmps88 rfl (fun c0 d0 => ?_)
 refine wsc (fun c0 f0 => ?_)
 refine asg d0 (fun c0 h0 => ?_)
 refine wpList_nil (x_then_n (f0 _ _ ?_))
 refine wp_seq_k (fun f0 c0 => ?_)
 refine wsc (fun f0 d0 => ?_)
 refine mv h0 (fun f0 i0 => ?_)
 refine r_nilCheck sv i0 rfl rfl rfl (by decide) (fun f0 h0 => ?_)
 refine m_field (j' := 0) sv h0 rfl rfl rfl Tryd.underlying59 rfl sz27 rfl rfl (by decide) (fun f0 i0 => ?_)
 refine m_load (i := 0) sv i0 b0 rfl rfl rfl rfl rfl Tryd.underlying27 rfl (by decide) (fun f0 h0 => ?_)
 refine r_eql sv h0 rfl rfl rfl rfl (by decide) (fun f0 i0 => ?_)
 refine wpList_nil (x_then_n (d0 _ _ ?_))
 rcases Decidable.em ((me) = 0) with d0 | d0
 ·
  have f0 := i0.setb (d := 9) (b := true) rfl (decide_eq_true d0)
  refine wp_cond_true (f0.ev rfl) ?_
  refine c_region ?_
  refine mv f0 (fun h0 j0 => ?_)
  refine mv j0 (fun h0 f0 => ?_)
  refine r_nilCheck sv f0 rfl rfl rfl (by decide) (fun h0 j0 => ?_)
  refine m_field (j' := 0) sv j0 rfl rfl rfl Tryd.underlying59 rfl sz27 rfl rfl (by decide) (fun h0 f0 => ?_)
  refine m_store (i := 0) (cs' := (.int .i64 (ee) :: mr)) se f0 b0 rfl rfl rfl rfl rfl sz27 rfl rfl rfl (fun h0 j0 k0 m0 => ?_)
  refine wpList_nil (x_then_n (c0 _ _ ?_))
  refine wsc (fun j0 h0 => ?_)
  refine asg k0 (fun j0 f0 => ?_)
  refine wpList_nil (x_then_n (h0 _ _ ?_))
  refine wp_ret ?_
  refine e_ret1 f0 rfl rfl rfl ?_
  have f0 : ([] : List Nd) = [] := rfl
  rw [f0]
  refine ⟨none, 0, ?_, m0.fr, (by rw [show (if me = 0 then ee else me : Int) = (ee) by first | rfl | omega | assumption | exact decide_eq_true (by assumption) | (have f0 := d0; (try simp at f0);  omega) | (simp [d0]; done) | (simp [] at *; done) | (simp [d0] <;> omega) | (rw [Bool.eq_iff_iff]; simp [d0] <;> omega) | (rw [Bool.eq_iff_iff]; simp [d0] at * <;> omega)]; exact m0.res (i := 0) rfl), ⟨Nat.le_refl _, RowI.nil _ _ _ _⟩⟩
  exact congrArg Ending.returned rfl
 ·
  have m0 := i0.setb (d := 9) (b := false) rfl (decide_eq_false d0)
  refine wp_cond_false (m0.ev rfl) ?_
  refine wp_skip ?_
  refine x_then_n (c0 _ _ ?_)
  refine wsc (fun c0 i0 => ?_)
  refine asg m0 (fun c0 h0 => ?_)
  refine wpList_nil (x_then_n (i0 _ _ ?_))
  refine wp_ret ?_
  refine e_ret1 h0 rfl rfl rfl ?_
  have h0 : ([] : List Nd) = [] := rfl
  rw [h0]
  refine ⟨none, 0, ?_, b0.fr, (by rw [show (if me = 0 then ee else me : Int) = (me) by first | rfl | omega | assumption | exact decide_eq_true (by assumption) | (have f0 := d0; (try simp at f0);  omega) | (simp [d0]; done) | (simp [] at *; done) | (simp [d0] <;> omega) | (rw [Bool.eq_iff_iff]; simp [d0] <;> omega) | (rw [Bool.eq_iff_iff]; simp [d0] at * <;> omega)]; exact b0.res (i := 0) rfl), ⟨Nat.le_refl _, RowI.nil _ _ _ _⟩⟩
  exact congrArg Ending.returned rfl
end Go.Proofs.YtcfponnkfhkbdaaDoor
/- Contracts of functions, one theorem each: what the call returns, and that nothing old is changed. Printed by gen.py. -/
namespace Go.Proofs.YtcfponnkfhkbdaaDoor
open Go Go.RowKit
set_option linter.unusedSimpArgs false
set_option linter.unusedVariables false
set_option maxRecDepth 100000 in
set_option maxHeartbeats 1000000 in
theorem tback_yields (w0 : World) (Z : Nat → Prop) (tg : Nat) (tA : Option Addr) (tc : Nat) (t : List Nd) (msg : Nat) (msA : Option Addr) (msc : Nat) (ms : List (Int × Int)) (hShp : Shapes w0 Z) (ht : (dRow 4 tA t.length tc (encNs t)).φ w0 Z) (htb : (dBox tg [.slice tA t.length tc]).φ w0 Z) (hms : (dRow 2 msA ms.length msc (encMs ms)).φ w0 Z) (hmsb : (dBox msg [.slice msA ms.length msc]).φ w0 Z) (hl : t.length ≤ 1000000) (hsm : sml t) (hc : chk t = 0) (hmq : ms = measL t) :
    Yields Tryd.prog 86 [.pointer (some ⟨tg, 0, none⟩), .pointer (some ⟨msg, 0, none⟩)].toArray (fun x : Int × Sl => #[.int .i64 x.1, .slice x.2.1 x.2.2.2.length x.2.2.1]) (bkS tA tc t) Z w0 := by
 refine yields_of Tryd.func86 rfl Tryd.ntmps86 rfl [dShapes, dRow 4 tA t.length tc (encNs t), dBox tg [.slice tA t.length tc], dRow 2 msA ms.length msc (encMs ms), dBox msg [.slice msA ms.length msc]] (by
  intro d hd
  simp only [List.mem_cons, List.not_mem_nil, or_false] at hd
  rcases hd with rfl | rfl | rfl | rfl | rfl
  · exact hShp
  · exact ht
  · exact htb
  · exact hms
  · exact hmsb
  ) (fun lp jf jx w0 C0 M0 hY hds b0 c0 d0 => ?_)
 have hb := meas_chk hc
 have hp0 := meas_pos hb
 have hrt := right_at hb (show t.length - 1 < t.length by omega)
 have hm8 := many_le hrt
 have hml : ms.length = t.length := by rw [hmq]; exact measL_length hb
 refine wsc (fun b0 f0 => ?_)
 refine m_loadC sv c0 rfl rfl rfl (dbox_cell (d0.get (i := 3) rfl) rfl) Tryd.underlying22 rfl (by decide) (fun b0 h0 => ?_)
 refine r_len sv h0 rfl rfl rfl rfl Tryd.underlying22 (by decide) (fun b0 c0 => ?_)
 refine r_sub (z := (((t.length : Nat) : Int) - 1)) sv c0 rfl rfl rfl rfl (by decide) (by omega) (by omega) (by omega) (fun b0 h0 => ?_)
 refine asg h0 (fun b0 c0 => ?_)
 refine wpList_nil (x_then_n (f0 _ _ ?_))
 refine wsc (fun f0 b0 => ?_)
 refine m_loadC sv c0 rfl rfl rfl (dbox_cell (d0.get (i := 3) rfl) rfl) Tryd.underlying22 rfl (by decide) (fun f0 h0 => ?_)
 refine mv h0 (fun f0 c0 => ?_)
 refine m_index (i := (t.length) - (1)) (j := ((t.length) - (1)) * 4) sv c0 rfl rfl rfl rfl Tryd.underlying22 sz39 (by omega) (by omega) (nds_elem (t := t) (k := (t.length) - (1)) (d0.row (i := 2) rfl).2 (by omega)).some_ rfl (by decide) (fun f0 h0 => ?_)
 refine m_loadEN sv h0 rfl rfl rfl (nds_elem (t := t) (k := (t.length) - (1)) (d0.row (i := 2) rfl).2 (by omega)) Tryd.underlying39 rfl sz39 (by decide) (fun f0 c0 => ?_)
 have f0 := d0.nf
 refine k_call (xs := [.tmp 13]) se c0 rfl rfl rfl (by decide) ok58 (many_calls _ _ f0.il (nth t ((t.length) - (1))) (f0.g 1)) ?_
 rintro c0 d0 ⟨rfl, h0⟩
 have d0 := f0.below h0.below
 refine ⟨_, rfl, fun h0 f0 => ?_⟩
 refine r_sub (z := (((many (nth t ((t.length) - (1))) : Nat) : Int) - 1)) sv f0 rfl rfl rfl rfl (by decide) (by omega) (by omega) (by omega) (fun h0 c0 => ?_)
 refine asg c0 (fun h0 f0 => ?_)
 refine wpList_nil (x_then_n (b0 _ _ ?_))
 refine wp_block ?_
 refine wp_loop_ghost (fun gn ga gw => ∃ k : Nat, (Reg ga 35 [(1000000, .bool false), (0, .func (.yield lp) #[] #[]), (1, .pointer (some ⟨tg, 0, none⟩)), (2, .pointer (some ⟨msg, 0, none⟩)), (4, .int .i64 ((posL t (t.length - 1) k : Nat) : Int)), (5, .int .i64 (((many (nth t (t.length - 1)) : Nat) : Int) - ((k : Nat) : Int) - 1))]) ∧ (St w0 (oldB w0) M0 gw [] [dJ jf ((bkS tA tc t).take k) C0 M0 w0.heap.size, dShapes, dRow 4 tA t.length tc (encNs t), dBox tg [.slice tA t.length tc], dRow 2 msA ms.length msc (encMs ms), dBox msg [.slice msA ms.length msc]]) ∧ (k ≤ many (nth t (t.length - 1))) ∧ (many (nth t (t.length - 1)) - k) = gn) _ ⟨0, (f0.sub (rc rfl (rc rfl (rc rfl (rc rfl (rc (ri rfl (by rw [posL_zero hb (by omega)]; omega)) (rc (ri rfl (by omega)) rnl))))))), d0, by omega, rfl⟩ ?_
 rintro f0 d0 b0 ⟨k, h0, c0, hk, i0⟩
 refine wp_seq_k (fun i0 b0 => ?_)
 refine wsc (fun i0 d0 => ?_)
 refine mv h0 (fun i0 f0 => ?_)
 refine r_geq sv f0 rfl rfl rfl rfl (by decide) (fun i0 h0 => ?_)
 refine wpList_nil (x_then_n (d0 _ _ ?_))
 rcases Decidable.em (0 ≤ (((many (nth t (t.length - 1)) : Nat) : Int) - ((k : Nat) : Int) - 1)) with d0 | d0
 ·
  obtain ⟨hps1, hps2, hps3, hps4⟩ := ps_step hb (show k < many (nth t (t.length - 1)) by omega)
  rw [← hmq] at hps3
  have i0 := h0.setb (d := 17) (b := true) rfl (decide_eq_true d0)
  refine wp_cond_true (i0.ev rfl) ?_
  refine wp_skip ?_
  refine x_then_n (b0 _ _ ?_)
  refine wp_seq_k (fun b0 f0 => ?_)
  refine wp_block ?_
  refine wsc (fun b0 j0 => ?_)
  refine m_loadC sv i0 rfl rfl rfl (dbox_cell (c0.get (i := 5) rfl) rfl) Tryd.underlying85 rfl (by decide) (fun b0 k0 => ?_)
  refine mv k0 (fun b0 i0 => ?_)
  refine r_sub (z := (((posL t (t.length - 1) k : Nat) : Int) - 1)) sv i0 rfl rfl rfl rfl (by decide) (by omega) (by omega) (by omega) (fun b0 k0 => ?_)
  refine m_index (i := (posL t (t.length - 1) k) - (1)) (j := ((posL t (t.length - 1) k) - (1)) * 2) sv k0 rfl rfl rfl rfl Tryd.underlying85 sz111 (by omega) (by omega) (ms_elem (t := ms) (k := (posL t (t.length - 1) k) - (1)) (c0.row (i := 4) rfl).2 (by omega)).some_ rfl (by decide) (fun b0 i0 => ?_)
  refine m_fieldE (j' := ((posL t (t.length - 1) k) - (1)) * 2) sv i0 rfl rfl rfl (ms_elem (t := ms) (k := (posL t (t.length - 1) k) - (1)) (c0.row (i := 4) rfl).2 (by omega)).some_ Tryd.underlying111 rfl sz3 rfl rfl (by decide) (fun b0 k0 => ?_)
  refine m_loadE sv k0 rfl rfl rfl 0 (((posL t (t.length - 1) k) - (1)) * 2) (ms_elem (t := ms) (k := (posL t (t.length - 1) k) - (1)) (c0.row (i := 4) rfl).2 (by omega)) rfl rfl Tryd.underlying3 rfl (by decide) (fun b0 i0 => ?_)
  refine asg i0 (fun b0 k0 => ?_)
  have b0 := Reg.cons k0 k0 (ri (i := 6) (b := ((posL t (t.length - 1) (k + 1) : Nat) : Int)) rfl (hps3.symm))
  refine wpList_nil (x_then_n (j0 _ _ ?_))
  refine wp_seq_k (fun j0 k0 => ?_)
  refine wp_seq_k (fun j0 i0 => ?_)
  refine cy_region ?_
  refine r_move (st_listInV rfl rfl) b0 rfl rfl rfl (by decide) (fun j0 m0 => ?_)
  refine r_move (st_listInV rfl rfl) m0 rfl rfl rfl (by decide) (fun j0 b0 => ?_)
  refine m_loadC (st_listInV rfl rfl) b0 rfl rfl rfl (dbox_cell (c0.get (i := 3) rfl) rfl) Tryd.underlying22 rfl (by decide) (fun j0 m0 => ?_)
  refine r_move (st_listInV rfl rfl) m0 rfl rfl rfl (by decide) (fun j0 b0 => ?_)
  refine r_move (st_listInV rfl rfl) b0 rfl rfl rfl (by decide) (fun j0 m0 => ?_)
  have j0 : (((t).drop (posL t (t.length - 1) (k + 1))).take ((posL t (t.length - 1) k) - (posL t (t.length - 1) (k + 1)))).length = (posL t (t.length - 1) k) - (posL t (t.length - 1) (k + 1)) := by simp only [List.length_drop, List.length_take]; omega
  have j0 := c0.data (dRow 4 (if tc = posL t (t.length - 1) (k + 1) then tA else (tA).map (·.add ((posL t (t.length - 1) (k + 1)) * 4))) ((((t).drop (posL t (t.length - 1) (k + 1))).take ((posL t (t.length - 1) k) - (posL t (t.length - 1) (k + 1)))).length) (tc - (posL t (t.length - 1) (k + 1))) (encNs (((t).drop (posL t (t.length - 1) (k + 1))).take ((posL t (t.length - 1) k) - (posL t (t.length - 1) (k + 1)))))) (cut_row (f := encN) (L := t) (c0.get (i := 2) rfl) encN_len (by omega))
  have b0 := (j0.get (i := 2) rfl).1
  refine m_sliceA (lo := some (.tmp 29)) (hi := some (.tmp 30)) (vlo := (some (.int .i64 ((posL t (t.length - 1) (k + 1) : Nat) : Int)))) (vhi := (some (.int .i64 ((posL t (t.length - 1) k : Nat) : Int)))) (kd := .i64) (kd' := .i64) (st_listInV rfl rfl) m0 rfl rfl rfl rfl rfl (posL t (t.length - 1) (k + 1)) ((((t).drop (posL t (t.length - 1) (k + 1))).take ((posL t (t.length - 1) k) - (posL t (t.length - 1) (k + 1)))).length) (.inl (by first | rfl | (congr 2; omega))) (.inl (by first | rfl | (congr 2; omega))) Tryd.underlying22 sz39 (by omega) (by decide) (fun b0 n0 => ?_)
  have b0 := j0.nf
  refine y_call (t := .tmp 26) (xs := [.tmp 27, .tmp 31]) (pre := (bkS tA tc t).take k) (i := 0) (ds0 := [dShapes, dRow 4 tA t.length tc (encNs t), dBox tg [.slice tA t.length tc], dRow 2 msA ms.length msc (encMs ms), dBox msg [.slice msA ms.length msc]]) hY rfl n0 b0 rfl rfl rfl rfl (by decide) ((((((many (nth t (t.length - 1)) : Nat) : Int) - ((k : Nat) : Int) - 1), (((if tc = posL t (t.length - 1) (k + 1) then tA else (tA).map (·.add ((posL t (t.length - 1) (k + 1)) * 4))), (tc - (posL t (t.length - 1) (k + 1))), ((t).drop (posL t (t.length - 1) (k + 1))).take ((posL t (t.length - 1) k) - (posL t (t.length - 1) (k + 1)))) : Sl)) : Int × Sl)) rfl rfl (bkS_pre (k := k) (by omega) (bk_eq (k := k) (by omega) rfl)) hds (fun j0 m0 o0 p0 => ?_) (fun j0 m0 o0 p0 => ?_)
  ·
   refine r_not (st_listInV rfl rfl) o0 rfl rfl rfl (by decide) (fun m0 j0 => ?_)
   refine li_nil ?_
   refine x_then_n (i0 _ _ ?_)
   refine wp_cond_false (j0.ev rfl) ?_
   refine wp_skip ?_
   refine x_then_n (k0 _ _ ?_)
   refine c_region ?_
   refine mv j0 (fun k0 m0 => ?_)
   refine asg m0 (fun k0 j0 => ?_)
   refine wpList_nil ?_
   refine x_block_n ?_
   refine x_then_n (f0 _ _ ?_)
   refine c_region ?_
   refine mv j0 (fun f0 k0 => ?_)
   refine r_sub (z := (((many (nth t (t.length - 1)) : Nat) : Int) - ((k : Nat) : Int) - 2)) sv k0 rfl rfl rfl rfl (by decide) (by omega) (by omega) (by omega) (fun f0 j0 => ?_)
   refine asg j0 (fun f0 k0 => ?_)
   refine wpList_nil ?_
   have f0 : (bkS tA tc t).take k ++ [((((((many (nth t (t.length - 1)) : Nat) : Int) - ((k : Nat) : Int) - 1), (((if tc = posL t (t.length - 1) (k + 1) then tA else (tA).map (·.add ((posL t (t.length - 1) (k + 1)) * 4))), (tc - (posL t (t.length - 1) (k + 1))), ((t).drop (posL t (t.length - 1) (k + 1))).take ((posL t (t.length - 1) k) - (posL t (t.length - 1) (k + 1)))) : Sl)) : Int × Sl))] = (bkS tA tc t).take (k + 1) := by rw [← bkS_step (show k < many (nth t (t.length - 1)) by omega)]; exact congrArg (fun z => (bkS tA tc t).take k ++ [z]) (bk_eq (k := k) (by omega) rfl)
   have j0 := p0
   rw [f0] at j0
   exact ⟨_, by omega, k + 1, (k0.sub (rc rfl (rc rfl (rc rfl (rc rfl (rc rfl (rc (ri rfl (by omega)) rnl))))))), j0, by omega, rfl⟩
  ·
   refine r_not (st_listInV rfl rfl) o0 rfl rfl rfl (by decide) (fun j0 k0 => ?_)
   refine li_nil ?_
   refine x_then_n (i0 _ _ ?_)
   refine wp_cond_true (k0.ev rfl) ?_
   refine wp_ret ?_
   refine x_then_r ?_
   refine x_block_r ?_
   refine x_then_r ?_
   refine x_then_r ?_
   refine x_block_r ?_
   refine e_ret0 k0 rfl rfl ?_
   exact it_stop p0 (i := 0) rfl (bkS_pre (k := k) (by omega) (bk_eq (k := k) (by omega) rfl))
 ·
  have p0 := h0.setb (d := 17) (b := false) rfl (decide_eq_false d0)
  refine wp_cond_false (p0.ev rfl) ?_
  refine wp_exit ?_
  refine x_then_e ?_
  refine x_then_e ?_
  refine x_block_eq ?_
  refine e_end0 p0 rfl rfl ?_
  exact it_all c0 (i := 0) rfl (bkS_all (by omega))
set_option maxRecDepth 100000 in
set_option maxHeartbeats 1000000 in
theorem tbackMk_calls (w0 : World) (Z : Nat → Prop) (hZ : ∀ k, Z k → k < w0.heap.size) (tA : Option Addr) (tc : Nat) (t : List Nd) (msA : Option Addr) (msc : Nat) (ms : List (Int × Int)) (ht : (dRow 4 tA t.length tc (encNs t)).φ w0 Z) (hms : (dRow 2 msA ms.length msc (encMs ms)).φ w0 Z) (hl : t.length ≤ 1000000 := by first | assumption | omega | (simp; done) | (simp; omega)) :
    Calls Tryd.prog 59 [.slice tA t.length tc, .slice msA ms.length msc].toArray w0 (fun e w' => ∃ q0_0 : Nat, ∃ q0_1 : Nat, e = .returned (.func (.func 86) #[] #[.pointer (some ⟨q0_0, 0, none⟩), .pointer (some ⟨q0_1, 0, none⟩)]) ∧ Fr none_ w0 w' ∧ (dBox q0_0 [.slice tA t.length tc]).φ w' (nxt Z w0 w') ∧ (dBox q0_1 [.slice msA ms.length msc]).φ w' (nxt Z w0 w')) := by
 have b0 := s0 (M := none_) hZ (zc ht (zc hms zn))
 refine c_enter Tryd.func59 rfl Tryd.ntmps59 rfl (fun c0 d0 => ?_)
 refine wsc (fun c0 f0 => ?_)
 refine m_box (cs := [.slice tA t.length tc]) sv d0 b0 rfl rfl rfl rfl (by decide) (fun c0 h0 i0 j0 k0 => ?_)
 refine m_box (cs := [.slice msA ms.length msc]) sv j0 k0 rfl rfl rfl rfl (by decide) (fun h0 c0 d0 b0 m0 => ?_)
 refine asg b0 (fun c0 h0 => ?_)
 refine wpList_nil (x_then_n (f0 _ _ ?_))
 refine wsc (fun f0 c0 => ?_)
 refine r_makeFunc sv h0 rfl rfl rfl (by decide) (fun f0 b0 => ?_)
 refine asg b0 (fun f0 h0 => ?_)
 refine wpList_nil (x_then_n (c0 _ _ ?_))
 refine wp_ret ?_
 refine e_ret1 h0 rfl rfl rfl ?_
 obtain ⟨h0, c0⟩ := m0.box_data (i := 0) rfl (fun _ h => h)
 have m0 := h0.data (dBox i0 [.slice tA t.length tc]) c0
 obtain ⟨c0, h0⟩ := m0.box_data (i := 0) rfl (fun _ h => h)
 have m0 := c0.data (dBox d0 [.slice msA ms.length msc]) h0
 refine ⟨i0, d0, ?_, m0.fr, ((m0.get (i := 2) rfl).imp imm_nxt id), ((m0.get (i := 3) rfl).imp imm_nxt id)⟩
 exact congrArg Ending.returned rfl
end Go.Proofs.YtcfponnkfhkbdaaDoor
/- Contracts of functions, one theorem each: what the call returns, and that nothing old is changed. Printed by gen.py. -/
namespace Go.Proofs.YtcfponnkfhkbdaaDoor
open Go Go.RowKit
set_option linter.unusedSimpArgs false
set_option linter.unusedVariables false
set_option maxRecDepth 100000 in
set_option maxHeartbeats 1000000 in
theorem args_calls (w0 : World) (Z : Nat → Prop) (hZ : ∀ k, Z k → k < w0.heap.size) (tA : Option Addr) (tc : Nat) (t : List Nd) (hShp : Shapes w0 Z) (ht : (dRow 4 tA t.length tc (encNs t)).φ w0 Z) (hsm : sml t := by first | assumption | omega | (simp; done) | (simp; omega)) (hl : t.length ≤ 1000000 := by first | assumption | omega | (simp; done) | (simp; omega)) :
    Calls Tryd.prog 33 [.slice tA t.length tc].toArray w0 (fun e w' => ∃ (rA0 : Option Addr) (rc0 : Nat) (rL0 : List Sl), e = .returned (.tuple #[.slice rA0 rL0.length rc0, .int .i64 (chk t)]) ∧ Fr none_ w0 w' ∧ (dRow 1 rA0 rL0.length rc0 (encSs rL0)).φ w' (nxt Z w0 w') ∧ (dAll rL0).φ w' (nxt Z w0 w') ∧ lsts rL0 = agA t) := by
 have b0 := s0 (M := none_) hZ (zc (d := dShapes) hShp (zc ht zn))
 refine c_enterM Tryd.func33 rfl Tryd.ntmps33 rfl (fun c0 d0 => ?_)
 refine wsc (fun c0 f0 => ?_)
 refine asg d0 (fun c0 h0 => ?_)
 refine asg h0 (fun c0 d0 => ?_)
 refine wpList_nil (x_then_n (f0 _ _ ?_))
 refine wsc (fun f0 c0 => ?_)
 refine mv d0 (fun f0 h0 => ?_)
 have f0 := b0.nf
 refine k_call (xs := [.tmp 10]) se h0 rfl rfl rfl (by decide) ok57 (look_calls _ _ f0.il _ _ _ (f0.g 0) (f0.g 1)) ?_
 rintro h0 b0 ⟨d0, i0, rfl, j0, k0⟩
 have b0 := f0.below j0.below
 have j0 := f0.dN b0 k0
 refine ⟨_, rfl, fun b0 k0 => ?_⟩
 refine mv k0 (fun b0 f0 => ?_)
 refine r_extract sv f0 rfl rfl rfl rfl (by decide) (fun b0 k0 => ?_)
 refine r_extract sv k0 rfl rfl rfl rfl (by decide) (fun b0 f0 => ?_)
 refine asg f0 (fun b0 k0 => ?_)
 refine asg k0 (fun b0 f0 => ?_)
 refine wpList_nil (x_then_n (c0 _ _ ?_))
 refine wp_seq_k (fun c0 b0 => ?_)
 refine wsc (fun c0 k0 => ?_)
 refine mv f0 (fun c0 h0 => ?_)
 refine r_neq sv h0 rfl rfl rfl rfl (by decide) (fun c0 f0 => ?_)
 refine wpList_nil (x_then_n (k0 _ _ ?_))
 rcases Decidable.em (((chk t)) = 0) with k0 | k0
 ·
  have hc := k0
  have hb := meas_chk hc
  have hp0 := meas_pos hb
  have hrt := right_at hb (show t.length - 1 < t.length by omega)
  have hm8 := many_le hrt
  have c0 := f0.setb (d := 15) (b := false) rfl (by rw [(decide_eq_true k0)]; rfl)
  refine wp_cond_false (c0.ev rfl) ?_
  refine wp_skip ?_
  refine x_then_n (b0 _ _ ?_)
  refine wsc (fun b0 h0 => ?_)
  refine mv c0 (fun b0 m0 => ?_)
  refine mv m0 (fun b0 c0 => ?_)
  refine r_len sv c0 rfl rfl rfl rfl Tryd.underlying22 (by decide) (fun b0 m0 => ?_)
  refine r_sub (z := (((t.length : Nat) : Int) - 1)) sv m0 rfl rfl rfl rfl (by decide) (by omega) (by omega) (by omega) (fun b0 c0 => ?_)
  refine m_index (i := (t.length) - (1)) (j := ((t.length) - (1)) * 4) sv c0 rfl rfl rfl rfl Tryd.underlying22 sz39 (by omega) (by omega) (nds_elem (t := t) (k := (t.length) - (1)) (j0.row (i := 1) rfl).2 (by omega)).some_ rfl (by decide) (fun b0 m0 => ?_)
  refine m_loadEN sv m0 rfl rfl rfl (nds_elem (t := t) (k := (t.length) - (1)) (j0.row (i := 1) rfl).2 (by omega)) Tryd.underlying39 rfl sz39 (by decide) (fun b0 c0 => ?_)
  have b0 := j0.nf
  refine k_call (xs := [.tmp 22]) se c0 rfl rfl rfl (by decide) ok58 (many_calls _ _ b0.il (nth t ((t.length) - (1))) (b0.g 0) (hr := hrt)) ?_
  rintro c0 m0 ⟨rfl, n0⟩
  have m0 := b0.below n0.below
  refine ⟨_, rfl, fun n0 b0 => ?_⟩
  have n0 : ((many (nth t ((t.length) - (1))) : Nat) : Int) = ((many (nth t ((t.length) - (1))) : Nat) : Int) := by omega
  refine m_makeSs (n := many (nth t ((t.length) - (1)))) sv b0 m0 rfl rfl rfl rfl n0 n0 Tryd.underlying42 zi22 (by decide) (by omega) (by decide) (fun c0 o0 p0 t0 u0 => ?_)
  have o0 : (List.replicate (many (nth t ((t.length) - (1)))) slz).length = many (nth t ((t.length) - (1))) := by simp
  refine m_alloc (cs := [.slice none 0 0]) sv t0 u0 rfl rfl ze42 rfl (by decide) (fun o0 c0 n0 b0 m0 => ?_)
  refine m_store (i := 1) (cs' := [.slice (some ⟨p0, 0, none⟩) ((List.replicate (many (nth t ((t.length) - (1)))) slz).length) ((List.replicate (many (nth t ((t.length) - (1)))) slz).length)]) se b0 m0 rfl rfl rfl rfl rfl sz42 rfl rfl rfl (fun c0 o0 u0 t0 => ?_)
  refine wpList_nil (x_then_n (h0 _ _ ?_))
  refine wp_seq_k (fun h0 o0 => ?_)
  refine wsc (fun h0 c0 => ?_)
  refine mv u0 (fun h0 m0 => ?_)
  refine mv m0 (fun h0 u0 => ?_)
  have h0 := t0.nf
  refine k_call (xs := [.tmp 25, .tmp 26]) se u0 rfl rfl rfl (by decide) ok59 (tbackMk_calls _ _ h0.il _ _ _ _ _ (lookL t) (h0.g 1) (h0.g 2)) ?_
  rintro u0 t0 ⟨m0, b0, rfl, v0, x0, y0⟩
  have t0 := h0.below v0.below
  have v0 := h0.dN t0 x0
  have t0 := h0.dN v0 y0
  refine ⟨_, rfl, fun v0 y0 => ?_⟩
  refine wpList_nil (x_then_n (c0 _ _ ?_))
  refine wp_block ?_
  have c0 := t0.nf
  have t0 : Reg v0 36 [(1000000, .bool false), (2, .slice none 0 0), (3, .int .i64 0), (6, .pointer (some ⟨n0, 0, none⟩)), (27, .func (.func 86) #[] #[.pointer (some ⟨m0, 0, none⟩), .pointer (some ⟨b0, 0, none⟩)])] := (y0.sub (rc rfl (rc rfl (rc rfl (rc rfl (rc rfl rnl))))))
  refine w_range (xs := bkS tA tc t) (encs := (fun x : Int × Sl => #[.int .i64 x.1, .slice x.2.1 x.2.2.2.length x.2.2.1])) (t0.ev rfl) ok86 (tback_yields _ (imm Z w0 [.row (some ⟨p0, 0, none⟩) ((List.replicate (many (nth t ((t.length) - (1)))) slz).length) ((List.replicate (many (nth t ((t.length) - (1)))) slz).length) 22 1 (encSs (List.replicate (many (nth t ((t.length) - (1)))) slz)), .box n0 42 [.slice (some ⟨p0, 0, none⟩) ((List.replicate (many (nth t ((t.length) - (1)))) slz).length) ((List.replicate (many (nth t ((t.length) - (1)))) slz).length)]] _) m0 tA tc t b0 d0 i0 (lookL t) (c0.get (i := 0) rfl) (c0.get (i := 1) rfl) (c0.get (i := 3) rfl) (c0.get (i := 2) rfl) (c0.get (i := 4) rfl) hl hsm hc (lookL_good hc)) (fun _ => rfl) c0 (fun _ h => h) (fun (pre : List (Int × Sl)) (mm : List Res) => ∃ k : Nat, ∃ Ao : Option Addr, ∃ co : Nat, ∃ Ls : List Sl, mm = ([.row Ao ((List.replicate (many (nth t (t.length - 1)) - k) slz ++ Ls.reverse).length) co 22 1 (encSs (List.replicate (many (nth t (t.length - 1)) - k) slz ++ Ls.reverse)), .box n0 42 [.slice Ao ((List.replicate (many (nth t (t.length - 1)) - k) slz ++ Ls.reverse).length) co]] ++ (Ls).map (rowOf 39)) ∧ (k ≤ many (nth t (t.length - 1))) ∧ (pre.length = k) ∧ (Ls.length = k) ∧ (lsts Ls.reverse = ptD t k)) (fun _ _ _ => False) ⟨0, (some ⟨p0, 0, none⟩), (List.replicate (many (nth t ((t.length) - (1)))) slz).length, [], (by rw [List.reverse_nil, List.append_nil, Nat.sub_zero]; rfl), by omega, rfl, rfl, (ptD_zero t).symm⟩ ?_ ?_ ?_
  ·
   rintro c0 pre x p0 m1 hp ⟨k, Ao, co, Ls, rfl, hk, hpk, hLn, hL⟩ y0
   obtain ⟨hkm, rfl⟩ := bkS_next hpk hp
   have hal : (bkAt tA tc t k).2.2.2.length ≤ t.length := by show ((t.drop _).take _).length ≤ t.length; rw [List.length_take, List.length_drop]; omega
   have hrl : (List.replicate (many (nth t (t.length - 1)) - k) slz ++ Ls.reverse).length = many (nth t (t.length - 1)) := by simp; omega
   refine (?_ : ∀ v0, Reg v0 36 [(29, .slice ((bkAt tA tc t k).2.1) ((bkAt tA tc t k).2.2.2.length) ((bkAt tA tc t k).2.2.1)), (28, .int .i64 ((many (nth t (t.length - 1)) - 1 - k : Nat) : Int)), (1000000, .bool false), (2, .slice none 0 0), (3, .int .i64 0), (6, .pointer (some ⟨n0, 0, none⟩)), (27, .func (.func 86) #[] #[.pointer (some ⟨m0, 0, none⟩), .pointer (some ⟨b0, 0, none⟩)])] → Code.wpIn (rI c0) 0 _ _ _ v0 p0) _ (Reg.round2n t0 (by decide) (by decide) rfl)
   intro v0 c0
   refine wpIn_seq_k (fun v0 h0 => ?_)
   refine ci_region (by kernel_rfl) (out_then (out_then (fun _ _ h => h))) ?_
   refine asg c0 (fun v0 x0 => ?_)
   refine wpList_nil (x_then_n (h0 _ _ ?_))
   refine ci_region (by kernel_rfl) (out_then (fun _ _ h => h)) ?_
   refine asg x0 (fun h0 v0 => ?_)
   refine wpList_nil ?_
   have h0 : St w0 Z none_ p0 ([.row Ao ((List.replicate (many (nth t (t.length - 1)) - k) slz ++ Ls.reverse).length) co 22 1 (encSs (List.replicate (many (nth t (t.length - 1)) - k) slz ++ Ls.reverse)), .box n0 42 [.slice Ao ((List.replicate (many (nth t (t.length - 1)) - k) slz ++ Ls.reverse).length) co]] ++ (Ls).map (rowOf 39)) [dShapes, dRow 4 tA t.length tc (encNs t), dRow 2 d0 ((lookL t).length) i0 (encMs (lookL t)), dBox m0 [.slice tA t.length tc], dBox b0 [.slice d0 ((lookL t).length) i0], dAg p0 (imm Z w0 ([.row Ao ((List.replicate (many (nth t (t.length - 1)) - k) slz ++ Ls.reverse).length) co 22 1 (encSs (List.replicate (many (nth t (t.length - 1)) - k) slz ++ Ls.reverse)), .box n0 42 [.slice Ao ((List.replicate (many (nth t (t.length - 1)) - k) slz ++ Ls.reverse).length) co]] ++ (Ls).map (rowOf 39)) p0)] := y0
   refine x_then_n ⟨_, _, 5, h0, rfl, (fun _ h => False.elim h), (fun _ h => False.elim h), fun y0 p0 => ?_⟩
   have h0 := p0.data (dRow 4 ((bkAt tA tc t k).2.1) ((bkAt tA tc t k).2.2.2.length) ((bkAt tA tc t k).2.2.1) (encNs ((bkAt tA tc t k).2.2.2))) (bk_row hb (p0.get (i := 1) rfl) hkm)
   refine wpIn_block ?_
   obtain ⟨p0, x0, c0⟩ := h0.agree
   refine dli_region2 (S := (sW y0 p0 [cel n0 0 (.slice Ao ((List.replicate (many (nth t (t.length - 1)) - k) slz ++ Ls.reverse).length) co), (Res.row Ao ((List.replicate (many (nth t (t.length - 1)) - k) slz ++ Ls.reverse).length) co 22 1 (encSs (List.replicate (many (nth t (t.length - 1)) - k) slz ++ Ls.reverse))).holds])) (k := 6) [5] mixed rfl (by kernel_rfl) c0 (pan_block pan_rPost) (out_block out_rPost) (fun x0 h0 u0 z0 b1 => ?_)
   have x0 := sWI b1 7 (pc 1 0 (pr 0 pn))
   refine dl_take (i := 0) rfl (by kernel_rfl) (by kernel_rfl) (by kernel_rfl) (by kernel_rfl) (fun c a w h => h0 c _ _ _ _ h) rfl (by decide) v0 (want_n rfl) (fun x hx => m_loadC (sy v0) v0 rfl rfl rfl (hx.c 0) Tryd.underlying42 rfl (by decide) gt) x0 (fun c0 c1 => ?_)
   refine dl_takeA (i := 1) rfl (by kernel_rfl) (by kernel_rfl) (by kernel_rfl) (fun c a w h => h0 c _ _ _ _ h) rfl (by decide) c1 (want_n rfl) (fun x => r_move (sy c1) c1 rfl rfl rfl (by decide) gt) (fun c0 x0 => ?_)
   refine dl_takeA (i := 2) rfl (by kernel_rfl) (by kernel_rfl) (by kernel_rfl) (fun c a w h => h0 c _ _ _ _ h) rfl (by decide) x0 (want_n rfl) (fun x => r_move (sy x0) x0 rfl rfl rfl (by decide) gt) (fun c0 c1 => ?_)
   refine dl_one (i := 3) (by kernel_rfl) ?_
   have c0 : St w0 Z none_ z0 ([.row Ao ((List.replicate (many (nth t (t.length - 1)) - k) slz ++ Ls.reverse).length) co 22 1 (encSs (List.replicate (many (nth t (t.length - 1)) - k) slz ++ Ls.reverse)), .box n0 42 [.slice Ao ((List.replicate (many (nth t (t.length - 1)) - k) slz ++ Ls.reverse).length) co]] ++ (Ls).map (rowOf 39)) [dShapes, dRow 4 tA t.length tc (encNs t), dRow 2 d0 ((lookL t).length) i0 (encMs (lookL t)), dBox m0 [.slice tA t.length tc], dBox b0 [.slice d0 ((lookL t).length) i0], dAg y0 (imm Z w0 ([.row Ao ((List.replicate (many (nth t (t.length - 1)) - k) slz ++ Ls.reverse).length) co 22 1 (encSs (List.replicate (many (nth t (t.length - 1)) - k) slz ++ Ls.reverse)), .box n0 42 [.slice Ao ((List.replicate (many (nth t (t.length - 1)) - k) slz ++ Ls.reverse).length) co]] ++ (Ls).map (rowOf 39)) y0), dRow 4 ((bkAt tA tc t k).2.1) ((bkAt tA tc t k).2.2.2.length) ((bkAt tA tc t k).2.2.1) (encNs ((bkAt tA tc t k).2.2.2)), dAg y0 p0] := b1
   refine k_call (xs := [.tmp 32]) (st_op rfl (want_n rfl)) c1 rfl rfl rfl (by decide) ok60 (cloneN_calls _ _ c0.il _ _ ((bkAt tA tc t k).2.2.2) (c0.g 6)) ?_
   rintro c1 b1 ⟨z0, x0, rfl, v0, d1, f1⟩
   have b1 := c0.callO v0 d1 f1
   have f1 := St.rot (A := [.row Ao ((List.replicate (many (nth t (t.length - 1)) - k) slz ++ Ls.reverse).length) co 22 1 (encSs (List.replicate (many (nth t (t.length - 1)) - k) slz ++ Ls.reverse)), .box n0 42 [.slice Ao ((List.replicate (many (nth t (t.length - 1)) - k) slz ++ Ls.reverse).length) co]]) (T := (Ls).map (rowOf 39)) b1
   refine ⟨_, rfl, fun b1 d1 => ?_⟩
   have b1 := sWI f1 7 (pc 1 0 (pr 0 pn))
   refine ⟨fun _ _ => b1, ?_⟩
   refine dl_takeA (i := 4) rfl (by kernel_rfl) (by kernel_rfl) (by kernel_rfl) (fun c a w h => h0 c _ _ _ _ h) rfl (by decide) d1 (want_n rfl) (fun x => m_index (i := many (nth t (t.length - 1)) - 1 - k) (j := (many (nth t (t.length - 1)) - 1 - k) * 1) (sy d1) d1 rfl rfl rfl rfl Tryd.underlying42 sz22 (by omega) (by omega) (own_ss (t := List.replicate (many (nth t (t.length - 1)) - k) slz ++ Ls.reverse) (k := many (nth t (t.length - 1)) - 1 - k) (f1.res (i := 0) rfl) (by omega)).some_ rfl (by decide) gt) (fun b1 v0 => ?_)
   refine dl_one (i := 5) (by kernel_rfl) ?_
   have b1 := St.absorb (e := 39) (A := [.row Ao ((List.replicate (many (nth t (t.length - 1)) - k) slz ++ Ls.reverse).length) co 22 1 (encSs (List.replicate (many (nth t (t.length - 1)) - k) slz ++ Ls.reverse)), .box n0 42 [.slice Ao ((List.replicate (many (nth t (t.length - 1)) - k) slz ++ Ls.reverse).length) co]]) (Ls := Ls) (B := z0) (c := x0) (L := ((bkAt tA tc t k).2.2.2)) f1
   refine m_storeE (f := encS) (i := 0) (k := many (nth t (t.length - 1)) - 1 - k) (L := (List.replicate (many (nth t (t.length - 1)) - k) slz ++ Ls.reverse)) (z := ((z0, x0, ((bkAt tA tc t k).2.2.2)) : Sl)) (st_op rfl (want_n rfl)) v0 b1 rfl rfl rfl rfl rfl rfl (by omega) encS_len (one1 (f := encS) encS_one) rfl sz22 (fun f1 d1 h0 c0 => ?_)
   have h0 : ((List.replicate (many (nth t (t.length - 1)) - k) slz ++ Ls.reverse).set (many (nth t (t.length - 1)) - 1 - k) ((z0, x0, ((bkAt tA tc t k).2.2.2)) : Sl) : List Sl).length = (List.replicate (many (nth t (t.length - 1)) - k) slz ++ Ls.reverse).length := by simp
   refine ⟨fun h => absurd h (by decide), ?_⟩
   refine dl_done (by kernel_rfl) (u0 _ _ ?_) _
   refine x_block_n ?_
   have u0 : St w0 Z none_ d1 ([.row Ao (((List.replicate (many (nth t (t.length - 1)) - k) slz ++ Ls.reverse).set (many (nth t (t.length - 1)) - 1 - k) ((z0, x0, ((bkAt tA tc t k).2.2.2)) : Sl) : List Sl).length) co 22 1 (encSs ((List.replicate (many (nth t (t.length - 1)) - k) slz ++ Ls.reverse).set (many (nth t (t.length - 1)) - 1 - k) ((z0, x0, ((bkAt tA tc t k).2.2.2)) : Sl))), .box n0 42 [.slice Ao ((List.replicate (many (nth t (t.length - 1)) - k) slz ++ Ls.reverse).length) co]] ++ (Ls ++ [((z0, x0, ((bkAt tA tc t k).2.2.2)) : Sl)]).map (rowOf 39)) [dShapes, dRow 4 tA t.length tc (encNs t), dRow 2 d0 ((lookL t).length) i0 (encMs (lookL t)), dBox m0 [.slice tA t.length tc], dBox b0 [.slice d0 ((lookL t).length) i0], dAg y0 (imm Z w0 ([.row Ao ((List.replicate (many (nth t (t.length - 1)) - k) slz ++ Ls.reverse).length) co 22 1 (encSs (List.replicate (many (nth t (t.length - 1)) - k) slz ++ Ls.reverse)), .box n0 42 [.slice Ao ((List.replicate (many (nth t (t.length - 1)) - k) slz ++ Ls.reverse).length) co]] ++ (Ls).map (rowOf 39)) y0), dRow 4 ((bkAt tA tc t k).2.1) ((bkAt tA tc t k).2.2.2.length) ((bkAt tA tc t k).2.2.1) (encNs ((bkAt tA tc t k).2.2.2)), dAg y0 p0] := c0
   exact ⟨_, _, 5, u0, rfl, k + 1, _, _, Ls ++ [((z0, x0, ((bkAt tA tc t k).2.2.2)) : Sl)], (by rw [← rep_set (Ls := Ls) hkm rfl, List.length_set]), by omega, by simp [hpk], by simp [hLn], arg_step hb hL hkm⟩
  ·
   rintro u0 m1 x0 ⟨k, Ao, co, Ls, rfl, hk, hpk, hLn, hL⟩ z0
   have x0 := Reg.marked t0 u0
   have u0 := St.tail_data (e := 39) (A := [.row Ao ((List.replicate (many (nth t (t.length - 1)) - k) slz ++ Ls.reverse).length) co 22 1 (encSs (List.replicate (many (nth t (t.length - 1)) - k) slz ++ Ls.reverse)), .box n0 42 [.slice Ao ((List.replicate (many (nth t (t.length - 1)) - k) slz ++ Ls.reverse).length) co]]) (Ls := Ls) z0 (fun _ h => h)
   have hkm : k = many (nth t (t.length - 1)) := by rw [← hpk]; exact bkS_len tA tc t
   have z0 := u0.data (dAll (List.replicate (many (nth t (t.length - 1)) - k) slz ++ Ls.reverse)) (all_append (all_rep _) (all_rev (u0.get (i := 6) rfl)))
   refine x_block_n ?_
   refine x_then_n (o0 _ _ ?_)
   refine wsc (fun o0 u0 => ?_)
   refine m_load (i := 1) sv x0 z0 rfl rfl rfl rfl rfl Tryd.underlying42 rfl (by decide) (fun o0 n0 => ?_)
   refine asg n0 (fun o0 x0 => ?_)
   refine asg x0 (fun o0 n0 => ?_)
   refine wpList_nil (x_then_n (u0 _ _ ?_))
   refine wp_ret ?_
   have u0 := own_cap (z0.res (i := 0) rfl)
   obtain ⟨o0, x0⟩ := z0.row_data (i := 0) rfl (fun _ h => h)
   have z0 := o0.data (dRow 1 Ao ((List.replicate (many (nth t (t.length - 1)) - k) slz ++ Ls.reverse).length) co (encSs (List.replicate (many (nth t (t.length - 1)) - k) slz ++ Ls.reverse))) ⟨u0, x0⟩
   have x0 := z0.nf
   obtain ⟨z0, o0⟩ := x0.shut (i := 5) rfl [dRow 1 Ao ((List.replicate (many (nth t (t.length - 1)) - k) slz ++ Ls.reverse).length) co (encSs (List.replicate (many (nth t (t.length - 1)) - k) slz ++ Ls.reverse)), dAll (List.replicate (many (nth t (t.length - 1)) - k) slz ++ Ls.reverse)] (by intro d hd; simp only [List.mem_cons, List.not_mem_nil, or_false] at hd; rcases hd with rfl | rfl; exact ⟨List.mem_of_getElem? (i := 8) rfl, datC_row (by decide) _ _ _ _⟩; exact ⟨List.mem_of_getElem? (i := 7) rfl, datC_all _⟩)
   refine m_mark (.inl rfl) n0 rfl z0 (res2 n0 rfl rfl rfl _) ?_
   refine ⟨Ao, co, (List.replicate (many (nth t (t.length - 1)) - k) slz ++ Ls.reverse), ?_, o0.fr, o0.rx 0, o0.rx 1, (by rw [agA_ok hc, lsts_app, hkm, Nat.sub_self, hL, ← ptD_all hb, hkm]; rfl)⟩
   exact ret_t2 (ret_s (by first | rfl | (simp; done))) (ret_i (by first | rfl | omega | assumption | exact decide_eq_true (by assumption) | (have o0 := k0; (try simp at o0);  omega) | (simp [k0]; done) | (simp [] at *; done) | (simp [k0] <;> omega) | (rw [Bool.eq_iff_iff]; simp [k0] <;> omega) | (rw [Bool.eq_iff_iff]; simp [k0] at * <;> omega)))
  ·
   rintro _ _ _ _ _ _ h _
   exact h.elim
 ·
  have z0 := f0.setb (d := 15) (b := true) rfl (by rw [(decide_eq_false k0)]; rfl)
  refine wp_cond_true (z0.ev rfl) ?_
  refine wsc (fun f0 n0 => ?_)
  refine mv z0 (fun f0 x0 => ?_)
  refine asg x0 (fun f0 z0 => ?_)
  refine asg z0 (fun f0 x0 => ?_)
  refine wpList_nil (x_then_n (n0 _ _ ?_))
  refine wp_ret ?_
  refine x_then_r ?_
  refine m_none (.inl rfl) x0 rfl (res2 x0 rfl rfl rfl _) ?_
  refine ⟨none, 0, [], ?_, j0.fr, ⟨Nat.le_refl _, RowI.nil _ _ _ _⟩, all_nil, (agA_no (by assumption)).symm⟩
  exact ret_t2 (ret_s (by first | rfl | (simp; done))) (ret_i (by first | rfl | omega | assumption | exact decide_eq_true (by assumption) | (have o0 := k0; (try simp at o0);  omega) | (simp [k0]; done) | (simp [] at *; done) | (simp [k0] <;> omega) | (rw [Bool.eq_iff_iff]; simp [k0] <;> omega) | (rw [Bool.eq_iff_iff]; simp [k0] at * <;> omega)))
end Go.Proofs.YtcfponnkfhkbdaaDoor
/- Contracts of functions, one theorem each: what the call returns, and that nothing old is changed. Printed by gen.py. -/
namespace Go.Proofs.YtcfponnkfhkbdaaDoor
open Go Go.RowKit
set_option linter.unusedSimpArgs false
set_option linter.unusedVariables false
set_option maxRecDepth 100000 in
set_option maxHeartbeats 1000000 in
theorem parts_calls (w0 : World) (Z : Nat → Prop) (hZ : ∀ k, Z k → k < w0.heap.size) (mg : Nat) (mt : TypeId) (me : Int) (mr : List Value) (tA : Option Addr) (tc : Nat) (t : List Nd) (hShp : Shapes w0 Z) (hm : (Res.box mg mt (.int .i64 me :: mr)).holds w0) (hmz : ¬ Z mg) (ht : (dRow 4 tA t.length tc (encNs t)).φ w0 Z) (hsm : sml t := by first | assumption | omega | (simp; done) | (simp; omega)) (hl : t.length ≤ 1000000 := by first | assumption | omega | (simp; done) | (simp; omega)) (hc : chk t = 0 := by first | assumption | omega | (simp; done) | (simp; omega)) :
    Calls Tryd.prog 95 [.pointer (some ⟨mg, 0, none⟩), .slice tA t.length tc].toArray w0 (fun e w' => ∃ (rA0 : Option Addr) (rc0 : Nat) (rL0 : List Sl), e = .returned (.slice rA0 rL0.length rc0) ∧ Fr (· = mg) w0 w' ∧ (Res.box mg mt (.int .i64 (me) :: mr)).holds w' ∧ (dRow 1 rA0 rL0.length rc0 (encSs rL0)).φ w' (nxt Z w0 w') ∧ (dAll rL0).φ w' (nxt Z w0 w') ∧ lsts rL0 = agA t) := by
 have b0 := sM hm hmz hZ (zc (d := dShapes) hShp (zc ht zn))
 refine c_enter Tryd.func95 rfl Tryd.ntmps95 rfl (fun c0 d0 => ?_)
 refine wsc (fun c0 f0 => ?_)
 refine asg d0 (fun c0 h0 => ?_)
 refine wpList_nil (x_then_n (f0 _ _ ?_))
 refine wsc (fun f0 c0 => ?_)
 refine mv h0 (fun f0 d0 => ?_)
 have f0 := b0.nf
 refine k_call (xs := [.tmp 8]) se d0 rfl rfl rfl (by decide) ok33 (args_calls _ _ f0.il _ _ _ (f0.g 0) (f0.g 1)) ?_
 rintro d0 b0 ⟨h0, i0, j0, rfl, k0, m0, n0, o0⟩
 have b0 := f0.below k0.below
 have k0 := f0.dN b0 m0
 have b0 := f0.dN k0 n0
 refine ⟨_, rfl, fun k0 n0 => ?_⟩
 refine mv n0 (fun k0 f0 => ?_)
 refine r_extract sv f0 rfl rfl rfl rfl (by decide) (fun k0 n0 => ?_)
 refine r_extract sv n0 rfl rfl rfl rfl (by decide) (fun k0 f0 => ?_)
 refine asg f0 (fun k0 n0 => ?_)
 refine asg n0 (fun k0 f0 => ?_)
 refine wpList_nil (x_then_n (c0 _ _ ?_))
 refine wp_seq_k (fun c0 k0 => ?_)
 refine wsc (fun c0 n0 => ?_)
 refine mv f0 (fun c0 m0 => ?_)
 refine r_neq sv m0 rfl rfl rfl rfl (by decide) (fun c0 f0 => ?_)
 refine wpList_nil (x_then_n (n0 _ _ ?_))
 have n0 : ((chk t)) = 0 := hc
 have c0 := f0.setb (d := 13) (b := false) rfl (by rw [(decide_eq_true n0)]; rfl)
 refine wp_cond_false (c0.ev rfl) ?_
 refine wp_skip ?_
 refine x_then_n (k0 _ _ ?_)
 refine wsc (fun k0 n0 => ?_)
 refine mv c0 (fun k0 f0 => ?_)
 refine asg f0 (fun k0 c0 => ?_)
 refine wpList_nil (x_then_n (n0 _ _ ?_))
 refine wp_ret ?_
 refine e_ret1 c0 rfl rfl rfl ?_
 refine ⟨h0, i0, j0, ?_, b0.fr, b0.res (i := 0) rfl, b0.rx 2, b0.rx 3, o0⟩
 exact congrArg Ending.returned (ret_s (by first | rfl | (simp; done)))
end Go.Proofs.YtcfponnkfhkbdaaDoor
/- Maps from numbers to functions: made, looked into. -/
namespace Go.Proofs.YtcfponnkfhkbdaaDoor
set_option linter.unusedSimpArgs false
set_option linter.unusedVariables false
open Go.RowKit Go.MapKept
def dMap (b : Nat) (es : List MapEntry) (c : Nat) : Dat := ⟨fun w I => I b ∧ w.heap[b]? = some (.map es.toArray c), fun _ _ _ _ _ h hk => ⟨(hk b h.1).1, (hk b h.1).2.trans h.2⟩⟩
section
variable {P : Program} {X : Prop} {Next : Act → World → Prop} {o : Oper} {a : Act} {w w1 : World} {N : Nat} {l : List (Nat × Value)} {d : Nat} {t kt et : TypeId} {es : List MapEntry} {c b i : Nat} {z : Int} {u : Value} {x y m : Operand}
theorem m_makeMap (hs : SteV P X Next o a w) (hR : Reg a N l) (hd : o.dst = some d) (ho : o.op = .makeMap t none) (hdN : d < N)
  (k : ∀ a', Reg a' N ((d, .map (some w.heap.size)) :: l) → Next a' (w.alloc (.map ([] : List MapEntry).toArray 0))) : X := by
 refine hs.val (.map (some w.heap.size)) (w.alloc (.map #[] 0)) ?_ (by rw [hd]; exact k _ (hR.put hdN _))
 unfold execOp; rw [ho]
 simp [Instr.makeMap, Sem.run_bind]
theorem set_push (h : Array Obj) (o o' : Obj) : (h.push o).setIfInBounds h.size o' = h.push o' := by
 apply Array.ext'
 simp [List.set_append]
theorem m_insert (hs : Ste P X Next o a (w.alloc (.map es.toArray c))) (hR : Reg a N l) (hd : o.dst = none) (ho : o.op = .insert t m x y) (hm : ev l m = some (.map (some w.heap.size))) (hx : ev l x = some (.int .i64 z)) (hy : ev l y = some u)
  (ht : P.underlying t = some (.map kt et)) (hkt : P.underlying kt = some (.int .i64)) (hf : Instr.findNow (.int .i64) (.int .i64 z) es 0 = some none)
  (k : ∀ a', Reg a' N l → Next a' (w.alloc (.map (es ++ [(⟨.int .i64 z, u, c⟩ : MapEntry)]).toArray (c + 1)))) : X := by
 have hb : (w.alloc (.map es.toArray c)).heap[w.heap.size]? = some (.map es.toArray c) := (heap_alloc w _).1
 have hk : IsKey (.int .i64) (.int .i64 z) := rfl
 refine hs.skip (w.alloc (.map (es ++ [(⟨.int .i64 z, u, c⟩ : MapEntry)]).toArray (c + 1))) ?_ (by rw [hd]; exact k _ (hR.put_none _))
 unfold execOp; rw [ho]
 simp only [hR.ev hm, hR.ev hx, hR.ev hy, Instr.mapUpdate, Sem.run_bind, run_underlying ht, Result.andThen_ok, Go.MapKept.run_getObj_map hb, run_checkKey hkt hk, run_findKey hkt hf, run_setObj_map _ hb]
 have e : (w.alloc (.map es.toArray c)).heap.setIfInBounds w.heap.size (.map (es.toArray.push ⟨.int .i64 z, u, c⟩) (c + 1)) = (w.alloc (.map (es ++ [(⟨.int .i64 z, u, c⟩ : MapEntry)]).toArray (c + 1))).heap := by
  rw [← List.push_toArray]
  exact set_push _ _ _
 rw [e]
 rfl
theorem m_lookup (hs : SteV P X Next o a w) (hR : Reg a N l) (hd : o.dst = some d) (ho : o.op = .lookup t x y false) (hx : ev l x = some (.map (some b))) (hy : ev l y = some (.int .i64 z)) (hb : w.heap[b]? = some (.map es.toArray c))
  (ht : P.underlying t = some (.map kt et)) (hkt : P.underlying kt = some (.int .i64)) (hf : Instr.findNow (.int .i64) (.int .i64 z) es 0 = some (some (i, u))) (hdN : d < N) (k : ∀ a', Reg a' N ((d, u) :: l) → Next a' w) : X := by
 have hk : IsKey (.int .i64) (.int .i64 z) := rfl
 refine hs.val u w ?_ (by rw [hd]; exact k _ (hR.put hdN _))
 unfold execOp; rw [ho]
 simp [hR.ev hx, hR.ev hy, Instr.lookup, Sem.run_bind, run_underlying ht, Result.andThen_ok, Go.MapKept.run_getObj_map hb, run_checkKey hkt hk, run_findKey hkt hf]
theorem eq_nofunc {f : FuncId} {fs : Array Value} {ps rs : Array TypeId} {vr : Bool} (ht : P.underlying t = some (.func ps rs vr)) (w : World) : (Op.equal t (.func (.func f) fs #[]) .nilFunc).run P w = .ok false w := by
 unfold Op.equal Op.maxDepth Op.equalIn
 simp [Sem.run_bind, run_underlying ht, Result.andThen_ok]
theorem r_nofunc {f : FuncId} {fs : Array Value} {t2 : TypeId} {ps rs : Array TypeId} {vr : Bool} (hs : SteV P X Next o a w) (hR : Reg a N l) (hd : o.dst = some d) (ho : o.op = .binOp .eql t x y t2) (hx : ev l x = some (.func (.func f) fs #[])) (hy : ev l y = some .nilFunc)
  (ht : P.underlying t = some (.func ps rs vr)) (hdN : d < N) (k : ∀ a', Reg a' N ((d, .bool false) :: l) → Next a' w) : X := by
 refine hs.val (.bool false) w ?_ (by rw [hd]; exact k _ (hR.put hdN _))
 unfold execOp; rw [ho]
 have h1 : (eqGuard .eql t x y (.func (.func f) fs #[]) .nilFunc).run P w = .ok () w := rfl
 have h2 : binOp .eql t (.func (.func f) fs #[]) .nilFunc = (do pure (.bool (← Op.equal t (.func (.func f) fs #[]) .nilFunc))) := rfl
 simp only [hR.ev hx, hR.ev hy, Sem.run_bind, h1, Result.andThen_ok, h2, eq_nofunc ht, Sem.run_pure]
theorem map_dat {Z : Nat → Prop} (w : World) : Fr none_ w (w.alloc (.map es.toArray c)) ∧ (dMap w.heap.size es c).φ (w.alloc (.map es.toArray c)) (nxt Z w (w.alloc (.map es.toArray c))) := by
 have hsz : (w.alloc (.map es.toArray c)).heap.size = w.heap.size + 1 := by show (w.heap.push _).size = _; simp
 refine ⟨⟨rfl, rfl, rfl, by omega, fun k hk _ => (heap_alloc w _).2 k hk⟩, ⟨by show w.heap.size < _; omega, fun h => absurd h (by omega)⟩, (heap_alloc w _).1⟩
end
end Go.Proofs.YtcfponnkfhkbdaaDoor
/- The map of equal's rules. -/
namespace Go.Proofs.YtcfponnkfhkbdaaDoor
set_option linter.unusedSimpArgs false
set_option linter.unusedVariables false
open Go.RowKit
def rulesM : List MapEntry := [⟨.int .i64 3, .func (.func 73) #[] #[], 0⟩, ⟨.int .i64 6, .func (.func 74) #[] #[], 1⟩, ⟨.int .i64 10, .func (.func 75) #[] #[], 2⟩, ⟨.int .i64 25, .func (.func 76) #[] #[], 3⟩, ⟨.int .i64 22, .func (.func 77) #[] #[], 4⟩, ⟨.int .i64 2, .func (.func 78) #[] #[], 5⟩]
set_option maxRecDepth 100000 in
theorem rules_calls (w0 : World) (Z : Nat → Prop) (hZ : ∀ k, Z k → k < w0.heap.size) : Calls Tryd.prog 53 ([] : List Value).toArray w0 (fun e w' => ∃ b, e = .returned (.map (some b)) ∧ Fr none_ w0 w' ∧ (dMap b rulesM 6).φ w' (nxt Z w0 w')) := by
 refine c_enter Tryd.func53 rfl Tryd.ntmps53 rfl (fun a1 hR0 => ?_)
 refine wsc (fun K4 hK5 => ?_)
 refine asg hR0 (fun a1 hR0 => ?_)
 refine wpList_nil (x_then_n (hK5 _ _ ?_))
 refine wsc (fun K8 hK9 => ?_)
 refine m_makeMap sv hR0 rfl rfl (by decide) (fun a1 hR0 => ?_)
 refine m_insert se hR0 rfl rfl rfl rfl rfl Tryd.underlying77 Tryd.underlying3 rfl (fun a1 hR0 => ?_)
 refine m_insert se hR0 rfl rfl rfl rfl rfl Tryd.underlying77 Tryd.underlying3 rfl (fun a1 hR0 => ?_)
 refine m_insert se hR0 rfl rfl rfl rfl rfl Tryd.underlying77 Tryd.underlying3 rfl (fun a1 hR0 => ?_)
 refine m_insert se hR0 rfl rfl rfl rfl rfl Tryd.underlying77 Tryd.underlying3 rfl (fun a1 hR0 => ?_)
 refine m_insert se hR0 rfl rfl rfl rfl rfl Tryd.underlying77 Tryd.underlying3 rfl (fun a1 hR0 => ?_)
 refine m_insert se hR0 rfl rfl rfl rfl rfl Tryd.underlying77 Tryd.underlying3 rfl (fun a1 hR0 => ?_)
 refine mv hR0 (fun a1 hR0 => ?_)
 refine asg hR0 (fun a1 hR0 => ?_)
 refine wpList_nil (x_then_n (hK9 _ _ ?_))
 refine wp_ret ?_
 refine e_ret1 hR0 rfl rfl rfl ?_
 have h := map_dat (es := rulesM) (c := 6) (Z := Z) w0
 exact ⟨_, rfl, h.1, h.2⟩
end Go.Proofs.YtcfponnkfhkbdaaDoor
/- Terms that are built of parts: whether they are terms, what their parts are, and which errors there may be. -/
namespace Go.Proofs.YtcfponnkfhkbdaaDoor
set_option linter.unusedSimpArgs false
set_option linter.unusedVariables false
theorem chk_meas {t : List Nd} (h : measB t = true) : chk t = 0 ∨ chk t = 21 ∨ chk t = 22 := by
 by_cases hl : t.length ≤ 4000
 ·
  by_cases hd : 60 < (nthM (measL t) ((measL t).length - 1)).2
  · exact .inr (.inr (chk_deep hl h hd))
  · exact .inl (chk_good hl h hd)
 · exact .inr (.inl (chk_size (by omega)))
def dpL (t : List Nd) : Nat := (treeOf t).deep
theorem chk_of {t : List Nd} (h : measB t = true) (hl : t.length ≤ 4000) (hd : dpL t ≤ 60) : chk t = 0 := by
 obtain ⟨hw, hf⟩ := treeOf_meas h
 rw [← hf]
 exact chk_flat hw hd (by rw [hf]; exact hl)
theorem chk_le {t : List Nd} (h : chk t = 0) : t.length ≤ 4000 := (treeOf_ok h).2.2.2
theorem deeps_bd {l : List T} {b : Nat} (h : ∀ t ∈ l, t.deep ≤ b) : T.deeps l ≤ b := by
 induction l with
 | nil => simp [T.deeps]
 | cons t l ih =>
  simp only [T.deeps]
  have h1 := h t (by simp)
  have h2 := ih (fun x hx => h x (by simp [hx]))
  omega
theorem built {n : Nd} {p : List (List Nd)} (hr : right n = true) (hm : many n = p.length) (hp : ∀ x ∈ p, measB x = true) :
  measB (p.flatten ++ [n]) = true ∧ treeOf (p.flatten ++ [n]) = .mk n (p.map treeOf) ∧ ptL (p.flatten ++ [n]) = p ∧ nth (p.flatten ++ [n]) ((p.flatten ++ [n]).length - 1) = n := by
 have e1 : (p.map treeOf).map T.flat = p := by
  rw [List.map_map]
  have : p.map (T.flat ∘ treeOf) = p.map id := List.map_congr_left fun x hx => (treeOf_meas (hp x hx)).2
  rw [this, List.map_id]
 have e2 : T.flats (p.map treeOf) = p.flatten := by rw [← flats_flatten, e1]
 have hw : (T.mk n (p.map treeOf)).wf = true := by
  rw [T.wf_mk]
  simp only [Bool.and_eq_true, beq_iff_eq, List.length_map]
  refine ⟨⟨hr, hm⟩, (T.wfs_iff _).2 ?_⟩
  intro t ht
  obtain ⟨x, hx, rfl⟩ := List.mem_map.1 ht
  exact (treeOf_meas (hp x hx)).1
 have e3 : (T.mk n (p.map treeOf)).flat = p.flatten ++ [n] := by rw [T.flat_mk, e2]
 have e4 : treeOf (p.flatten ++ [n]) = .mk n (p.map treeOf) := by rw [← e3, treeOf_flat hw]
 refine ⟨by rw [← e3]; exact meas_flat hw, e4, ?_, ?_⟩
 ·
  unfold ptL
  rw [e4]
  exact e1
 · simp [nth]
theorem built_deep {n : Nd} {p : List (List Nd)} {b : Nat} (hr : right n = true) (hm : many n = p.length) (hp : ∀ x ∈ p, measB x = true) (hb : ∀ x ∈ p, dpL x ≤ b) : dpL (p.flatten ++ [n]) ≤ b + 1 := by
 unfold dpL
 rw [(built hr hm hp).2.1]
 simp only [T.deep]
 have := deeps_bd (l := p.map treeOf) (b := b) (by
  intro t ht
  obtain ⟨x, hx, rfl⟩ := List.mem_map.1 ht
  exact hb x hx)
 omega
theorem right_lit {k : Nat} (h : k < 30 ∧ k ≠ 1 ∧ k ≠ 25 ∧ k ≠ 26 ∧ k ≠ 27) : right ⟨(k : Int), 0, 0, ⟨#[]⟩⟩ = true ∧ many ⟨(k : Int), 0, 0, ⟨#[]⟩⟩ = (shp k).b.length := by
 obtain ⟨h0, h1, h2, h3, h4⟩ := h
 have : ∀ k : Fin 30, k.val ≠ 1 → k.val ≠ 25 → k.val ≠ 26 → k.val ≠ 27 → right ⟨(k.val : Int), 0, 0, ⟨#[]⟩⟩ = true ∧ many ⟨(k.val : Int), 0, 0, ⟨#[]⟩⟩ = (shp k.val).b.length := by decide
 exact this ⟨k, h0⟩ h1 h2 h3 h4
def GE (e : Int) : Prop := e = 0 ∨ e = 2 ∨ e = 21 ∨ e = 22
theorem GE.zero : GE 0 := .inl rfl
theorem GE.meas {t : List Nd} (h : measB t = true) : GE (chk t) := by
 rcases chk_meas h with q | q | q
 · exact .inl q
 · exact .inr (.inr (.inl q))
 · exact .inr (.inr (.inr q))
theorem ag_part {t : List Nd} (hc : chk t = 0) {k : Nat} (hk : k < many (nth t (t.length - 1))) : chk (nthL (agA t) k) = 0 ∧ nthL (agA t) k ∈ agA t := by
 have hb := meas_chk hc
 rw [agA_ok hc]
 have hm := nthL_mem (l := ptL t) (k := k) (by rw [ptL_length hb]; exact hk)
 exact ⟨ptL_chk hc hm, hm⟩
theorem sml_nil : sml [] := fun k hk => by simp at hk
theorem ag_sml {t : List Nd} (hs : sml t) : ∀ x ∈ agA t, sml x ∧ x.length ≤ t.length := by
 intro x hx
 by_cases hc : chk t = 0
 ·
  rw [agA_ok hc] at hx
  obtain ⟨_, h2, h3⟩ := ptL_mem (meas_chk hc) hx
  exact ⟨sml_sub hs h3, by omega⟩
 · rw [agA_no hc] at hx; cases hx
end Go.Proofs.YtcfponnkfhkbdaaDoor
/- Redexes of pairs, of functions, of numbers. -/
namespace Go.Proofs.YtcfponnkfhkbdaaDoor
set_option linter.unusedSimpArgs false
set_option linter.unusedVariables false
def ofL (k : Nat) (p : List (List Nd)) : List Nd := p.flatten ++ [⟨(k : Int), 0, 0, ⟨#[]⟩⟩]
theorem ofL_ok {k : Nat} {p : List (List Nd)} {b : Nat} (hk : k < 30 ∧ k ≠ 1 ∧ k ≠ 25 ∧ k ≠ 26 ∧ k ≠ 27) (hm : (shp k).b.length = p.length) (hp : ∀ x ∈ p, chk x = 0 ∧ dpL x ≤ b) (hb : b < 60) (hl : p.flatten.length < 4000) :
  chk (ofL k p) = 0 ∧ dpL (ofL k p) ≤ b + 1 ∧ ptL (ofL k p) = p ∧ nth (ofL k p) ((ofL k p).length - 1) = ⟨(k : Int), 0, 0, ⟨#[]⟩⟩ ∧ (ofL k p).length = p.flatten.length + 1 := by
 obtain ⟨hr, hn⟩ := right_lit hk
 have hp' : ∀ x ∈ p, measB x = true := fun x hx => meas_chk (hp x hx).1
 obtain ⟨h1, _, h3, h4⟩ := built hr (hn.trans hm) hp'
 have h5 : dpL (ofL k p) ≤ b + 1 := built_deep hr (hn.trans hm) hp' (fun x hx => (hp x hx).2)
 have hl' : (ofL k p).length = p.flatten.length + 1 := by simp [ofL]
 exact ⟨chk_of (t := ofL k p) h1 (by omega) (by omega), h5, h3, h4, hl'⟩
theorem ofL_sml {k : Nat} {p : List (List Nd)} (hp : ∀ x ∈ p, sml x) : sml (ofL k p) := noL_sml (e := 0) (n := ⟨(k : Int), 0, 0, ⟨#[]⟩⟩) (p := p) (show (⟨#[]⟩ : ByteArray).size < 1000000 by decide) hp
def PU (x : List Nd) : Prop := chk x = 0 ∧ dpL x ≤ 50
section
variable {s a b : List Nd} (hs : PU s) (ha : PU a) (hb : PU b) (hls : s.length ≤ 120) (hla : a.length ≤ 120) (hlb : b.length ≤ 120)
include hs ha hb hls hla hlb
end
def numL (k : Nat) : List Nd := ⟨11, 0, 0, ⟨#[]⟩⟩ :: List.replicate k ⟨12, 0, 0, ⟨#[]⟩⟩
theorem num_succ (k : Nat) : numL (k + 1) = ofL 12 [numL k] := by
 unfold numL ofL
 rw [List.replicate_succ']
 simp
theorem num_ok : ∀ k, k ≤ 50 → chk (numL k) = 0 ∧ dpL (numL k) ≤ k + 1 ∧ (numL k).length = k + 1
 | 0, _ => by
  have e : numL 0 = ofL 11 [] := rfl
  obtain ⟨h1, h2, _, _, h5⟩ := ofL_ok (k := 11) (p := []) (b := 0) (by decide) rfl (fun x hx => by cases hx) (by decide) (by decide)
  rw [e]
  exact ⟨h1, h2, h5⟩
 | k + 1, hk => by
  obtain ⟨a, b, c⟩ := num_ok k (by omega)
  obtain ⟨h1, h2, _, _, h5⟩ := ofL_ok (k := 12) (p := [numL k]) (b := k + 1) (by decide) rfl (by
   intro x hx
   simp only [List.mem_cons, List.not_mem_nil, or_false] at hx
   rw [hx]; exact ⟨a, b⟩) (by omega) (by simp; omega)
  rw [num_succ]
  refine ⟨h1, h2, ?_⟩
  rw [h5]
  simp
  omega
theorem dp_small {t : List Nd} (h : chk t = 0) : dpL t ≤ t.length := by
 have := deep_flat (treeOf t)
 rw [(treeOf_meas (meas_chk h)).2] at this
 exact this
theorem num_len (k : Nat) : (numL k).length = k + 1 := by simp [numL]
theorem num_app {k : Nat} : numL k ++ [⟨12, 0, 0, ⟨#[]⟩⟩] = numL (k + 1) := by
 unfold numL
 rw [List.replicate_succ']
 rfl
end Go.Proofs.YtcfponnkfhkbdaaDoor
/- What the walks of redexes ask: parts of roots, sizes, strings. -/
namespace Go.Proofs.YtcfponnkfhkbdaaDoor
set_option linter.unusedSimpArgs false
set_option linter.unusedVariables false
theorem ag_nth {t : List Nd} {Ls : List Sl} {k : Nat} (hc : chk t = 0) (hL : lsts Ls = agA t) (hs : sml t) (hk : k < many (nth t (t.length - 1))) : (nthS Ls k).2.2.length ≤ 4000 ∧ sml (nthS Ls k).2.2 ∧ chk (nthS Ls k).2.2 = 0 := by
 obtain ⟨h1, h2⟩ := ag_part hc hk
 obtain ⟨h3, h4⟩ := ag_sml hs _ h2
 rw [lsts_nth, hL]
 exact ⟨chk_le h1, h3, h1⟩
theorem ag_len {t : List Nd} {Ls : List Sl} (hc : chk t = 0) (hL : lsts Ls = agA t) : Ls.length = many (nth t (t.length - 1)) ∧ Ls.length ≤ 8 := by
 have h1 : Ls.length = many (nth t (t.length - 1)) := by rw [← lsts_len, hL, agA_ok hc, ptL_length (meas_chk hc)]
 have h2 := many_le (right_at (meas_chk hc) (show t.length - 1 < t.length by have := chk_pos hc; omega))
 exact ⟨h1, by omega⟩
theorem many_12 {n : Nd} (h : n.K = 12) : many n = 1 := by simp [many, binds, h, shp]
theorem lsts_cons1 {s : Sl} {l : List Sl} : lsts (s :: l) = s.2.2 :: lsts l := rfl
theorem lsts_nil1 : lsts [] = [] := rfl
end Go.Proofs.YtcfponnkfhkbdaaDoor
/- Equality of numbers: what it comes to. -/
namespace Go.Proofs.YtcfponnkfhkbdaaDoor
set_option linter.unusedSimpArgs false
set_option linter.unusedVariables false
def numK (t : List Nd) : Int := if (nth t (t.length - 1)).K = 11 then 1 else if (nth t (t.length - 1)).K = 12 then 2 else 0
def ntE (e : Int) (t u : List Nd) : Int := if numK t * numK u = 0 then (if e = 0 then 120 else e) else e
def ntL (e : Int) (a t u : List Nd) : List Nd :=
 if numK t * numK u = 0 then [] else if ¬ numK t = numK u then noL e ⟨14, 0, 0, ⟨#[]⟩⟩ [] else if numK t = 1 then noL e ⟨16, 0, 0, ⟨#[]⟩⟩ []
 else noL e ⟨18, 0, 0, ⟨#[]⟩⟩ [a, nthL (agA t) 0, nthL (agA u) 0]
theorem numK_bd (t : List Nd) : numK t = 0 ∨ numK t = 1 ∨ numK t = 2 := by
 unfold numK
 (repeat' split) <;> simp
theorem numK_mul (t u : List Nd) : -1000000000000000 ≤ numK t * numK u ∧ numK t * numK u ≤ 1000000000000000 := by
 rcases numK_bd t with h | h | h <;> rcases numK_bd u with k | k | k <;> rw [h, k] <;> decide
theorem numK_two {t u : List Nd} (h0 : ¬ numK t * numK u = 0) (h : numK t = numK u) (h1 : ¬ numK t = 1) : (nth t (t.length - 1)).K = 12 ∧ (nth u (u.length - 1)).K = 12 := by
 have ht : numK t = 2 := by
  rcases numK_bd t with k | k | k
  · exact absurd (by rw [k]; simp) h0
  · exact absurd k h1
  · exact k
 have hu : numK u = 2 := h ▸ ht
 have q : ∀ {v : List Nd}, numK v = 2 → (nth v (v.length - 1)).K = 12 := by
  intro v hv
  unfold numK at hv
  split at hv
  · omega
  ·
   split at hv
   · assumption
   · omega
 exact ⟨q ht, q hu⟩
def nrE (a t u : List Nd) : Int := if ntE 0 t u = 0 then chk (ntL 0 a t u) else ntE 0 t u
def nrA (a t u : List Nd) : List Nd := if nrE a t u = 0 then ntL 0 a t u else []
theorem nt_sz {a t u : List Nd} (ha : sml a) (hla : a.length ≤ 1000) (hct : chk t = 0) (hcu : chk u = 0) (ht : sml t) (hu : sml u) (hlt : t.length ≤ 5000) (hlu : u.length ≤ 5000) : sml (ntL 0 a t u) ∧ (ntL 0 a t u).length ≤ 100000 := by
 unfold ntL
 split
 · exact ⟨sml_nil, by simp⟩
 ·
  rename_i h0
  split
  · exact ⟨noL_sml (by decide) (by intro x hx; cases hx), Nat.le_trans noL_len (by decide)⟩
  ·
   rename_i h1
   split
   · exact ⟨noL_sml (by decide) (by intro x hx; cases hx), Nat.le_trans noL_len (by decide)⟩
   ·
    rename_i h2
    obtain ⟨k1, k2⟩ := numK_two h0 (Classical.not_not.1 h1) h2
    obtain ⟨_, p2⟩ := ag_part hct (k := 0) (by rw [many_12 k1]; decide)
    obtain ⟨_, q2⟩ := ag_part hcu (k := 0) (by rw [many_12 k2]; decide)
    obtain ⟨p3, p4⟩ := ag_sml ht _ p2
    obtain ⟨q3, q4⟩ := ag_sml hu _ q2
    refine ⟨noL_sml (by decide) ?_, Nat.le_trans noL_len ?_⟩
    ·
     intro x hx
     simp only [List.mem_cons, List.not_mem_nil, or_false] at hx
     rcases hx with rfl | rfl | rfl
     · exact ha
     · exact p3
     · exact q3
    ·
     simp
     omega
end Go.Proofs.YtcfponnkfhkbdaaDoor
/- Contracts of functions, one theorem each: what the call returns, and that nothing old is changed. Printed by gen.py. -/
namespace Go.Proofs.YtcfponnkfhkbdaaDoor
open Go Go.RowKit
set_option linter.unusedSimpArgs false
set_option linter.unusedVariables false
set_option maxRecDepth 100000 in
set_option maxHeartbeats 1000000 in
theorem eroot_calls (w0 : World) (Z : Nat → Prop) (hZ : ∀ k, Z k → k < w0.heap.size) (tA : Option Addr) (tc : Nat) (t : List Nd) (ht : (dRow 4 tA t.length tc (encNs t)).φ w0 Z) (hl : t.length ≤ 1000000 := by first | assumption | omega | (simp; done) | (simp; omega)) (h0 : 0 < t.length := by first | assumption | omega | (simp; done) | (simp; omega)) :
    Calls Tryd.prog 50 [.slice tA t.length tc].toArray w0 (fun e w' => e = .returned (.agg #[.int .i64 (((nth t (t.length - 1)).K)), .int .i64 (((nth t (t.length - 1)).N)), .int .i64 (((nth t (t.length - 1)).M)), .string ((nth t (t.length - 1)).S)]) ∧ Fr none_ w0 w') := by
 have b0 := s0 (M := none_) hZ (zc ht zn)
 refine c_enter Tryd.func50 rfl Tryd.ntmps50 rfl (fun c0 d0 => ?_)
 refine wsc (fun c0 f0 => ?_)
 refine m_alloc (cs := [.int .i64 0, .int .i64 0, .int .i64 0, .string (⟨#[]⟩ : ByteArray)]) sv d0 b0 rfl rfl ze39 rfl (by decide) (fun c0 i0 j0 k0 m0 => ?_)
 refine wpList_nil (x_then_n (f0 _ _ ?_))
 refine wsc (fun f0 j0 => ?_)
 refine mv k0 (fun f0 i0 => ?_)
 refine mv i0 (fun f0 k0 => ?_)
 refine r_len sv k0 rfl rfl rfl rfl Tryd.underlying22 (by decide) (fun f0 i0 => ?_)
 refine r_sub (z := (((t.length : Nat) : Int) - 1)) sv i0 rfl rfl rfl rfl (by decide) (by omega) (by omega) (by omega) (fun f0 k0 => ?_)
 refine m_index (i := (t.length) - (1)) (j := ((t.length) - (1)) * 4) sv k0 rfl rfl rfl rfl Tryd.underlying22 sz39 (by omega) (by omega) (nds_elem (t := t) (k := (t.length) - (1)) (m0.row (i := 0) rfl).2 (by omega)).some_ rfl (by decide) (fun f0 i0 => ?_)
 refine m_loadEN sv i0 rfl rfl rfl (nds_elem (t := t) (k := (t.length) - (1)) (m0.row (i := 0) rfl).2 (by omega)) Tryd.underlying39 rfl sz39 (by decide) (fun f0 k0 => ?_)
 refine m_store (i := 0) (cs' := [.int .i64 (((nth t ((t.length) - (1))).K)), .int .i64 (((nth t ((t.length) - (1))).N)), .int .i64 (((nth t ((t.length) - (1))).M)), .string ((nth t ((t.length) - (1))).S)]) se k0 m0 rfl rfl rfl rfl rfl sz39 rfl rfl rfl (fun f0 i0 c0 d0 => ?_)
 refine wpList_nil (x_then_n (j0 _ _ ?_))
 refine wp_ret ?_
 refine e_cell (i := 0) (vs := [.int .i64 (((nth t ((t.length) - (1))).K)), .int .i64 (((nth t ((t.length) - (1))).N)), .int .i64 (((nth t ((t.length) - (1))).M)), .string ((nth t ((t.length) - (1))).S)]) (.inl rfl) c0 d0 rfl rfl rfl rfl Tryd.underlying39 rfl sz39 ?_
 refine ⟨?_, d0.fr⟩
 exact congrArg Ending.returned rfl
set_option maxRecDepth 100000 in
set_option maxHeartbeats 1000000 in
theorem estrict_calls (w0 : World) (Z : Nat → Prop) (hZ : ∀ k, Z k → k < w0.heap.size) (tA : Option Addr) (tc : Nat) (t : List Nd) (ht : (dRow 4 tA t.length tc (encNs t)).φ w0 Z) (hl : t.length ≤ 1000000 := by first | assumption | omega | (simp; done) | (simp; omega)) (h0 : 0 < t.length := by first | assumption | omega | (simp; done) | (simp; omega)) (hk : (nth t (t.length - 1)).K = 10 := by first | assumption | omega | (simp; done) | (simp; omega)) :
    Calls Tryd.prog 51 [.slice tA t.length tc].toArray w0 (fun e w' => e = .returned (.bool (false)) ∧ Fr none_ w0 w') := by
 have b0 := s0 (M := none_) hZ (zc ht zn)
 refine c_enter Tryd.func51 rfl Tryd.ntmps51 rfl (fun c0 d0 => ?_)
 refine wsc (fun c0 f0 => ?_)
 refine asg d0 (fun c0 i0 => ?_)
 refine wpList_nil (x_then_n (f0 _ _ ?_))
 refine wp_seq_k (fun f0 c0 => ?_)
 refine wsc (fun f0 d0 => ?_)
 refine mv i0 (fun f0 j0 => ?_)
 have f0 := b0.nf
 refine k_call (xs := [.tmp 4]) se j0 rfl rfl rfl (by decide) ok50 (eroot_calls _ _ f0.il _ _ _ (f0.g 0)) ?_
 rintro j0 b0 ⟨rfl, i0⟩
 have b0 := f0.below i0.below
 refine ⟨_, rfl, fun i0 f0 => ?_⟩
 refine m_alloc (cs := [.int .i64 0, .int .i64 0, .int .i64 0, .string (⟨#[]⟩ : ByteArray)]) sv f0 b0 rfl rfl ze39 rfl (by decide) (fun i0 j0 k0 m0 n0 => ?_)
 refine m_store (i := 0) (cs' := [.int .i64 (((nth t (t.length - 1)).K)), .int .i64 (((nth t (t.length - 1)).N)), .int .i64 (((nth t (t.length - 1)).M)), .string ((nth t (t.length - 1)).S)]) se m0 n0 rfl rfl rfl rfl rfl sz39 rfl rfl rfl (fun k0 j0 i0 f0 => ?_)
 refine wpList_nil (x_then_n (d0 _ _ ?_))
 refine wsc (fun d0 j0 => ?_)
 refine m_field (j' := 0) sv i0 rfl rfl rfl Tryd.underlying39 rfl sz3 rfl rfl (by decide) (fun d0 k0 => ?_)
 refine m_load (i := 0) sv k0 f0 rfl rfl rfl rfl rfl Tryd.underlying3 rfl (by decide) (fun d0 i0 => ?_)
 refine wpList_nil (x_then_n (j0 _ _ ?_))
 refine wp_block ?_
 refine wp_seq_k (fun j0 d0 => ?_)
 refine wsc (fun j0 k0 => ?_)
 refine r_eql sv i0 rfl rfl rfl rfl (by decide) (fun j0 n0 => ?_)
 refine asg n0 (fun j0 i0 => ?_)
 refine wpList_nil (x_then_n (k0 _ _ ?_))
 have k0 : ¬ ((((nth t (t.length - 1)).K)) = 16) := (by omega)
 have j0 := i0.setb (d := 8) (b := false) rfl (decide_eq_false k0)
 refine wp_cond_false (j0.ev rfl) ?_
 refine wsc (fun i0 n0 => ?_)
 refine r_eql sv j0 rfl rfl rfl rfl (by decide) (fun i0 m0 => ?_)
 refine asg m0 (fun i0 j0 => ?_)
 refine wpList_nil (x_then_n (n0 _ _ ?_))
 have n0 : ¬ ((((nth t (t.length - 1)).K)) = 14) := (by omega)
 have i0 := j0.setb (d := 8) (b := false) rfl (decide_eq_false n0)
 refine wp_cond_false (i0.ev rfl) ?_
 refine c_region ?_
 refine r_eql sv i0 rfl rfl rfl rfl (by decide) (fun j0 m0 => ?_)
 refine asg m0 (fun j0 i0 => ?_)
 refine wpList_nil (x_then_n (d0 _ _ ?_))
 have d0 : ¬ ((((nth t (t.length - 1)).K)) = 18) := (by omega)
 have j0 := i0.setb (d := 8) (b := false) rfl (decide_eq_false d0)
 refine wp_cond_false (j0.ev rfl) ?_
 refine wsc (fun i0 m0 => ?_)
 refine r_eql sv j0 rfl rfl rfl rfl (by decide) (fun i0 b0 => ?_)
 refine asg b0 (fun i0 j0 => ?_)
 refine wpList_nil (x_then_n (m0 _ _ ?_))
 have m0 : ¬ ((((nth t (t.length - 1)).K)) = 3) := (by omega)
 have i0 := j0.setb (d := 12) (b := false) rfl (decide_eq_false m0)
 refine wp_cond_false (i0.ev rfl) ?_
 refine wsc (fun j0 b0 => ?_)
 refine r_eql sv i0 rfl rfl rfl rfl (by decide) (fun j0 o0 => ?_)
 refine asg o0 (fun j0 i0 => ?_)
 refine wpList_nil (x_then_n (b0 _ _ ?_))
 have b0 : ¬ ((((nth t (t.length - 1)).K)) = 6) := (by omega)
 have j0 := i0.setb (d := 18) (b := false) rfl (decide_eq_false b0)
 refine wp_cond_false (j0.ev rfl) ?_
 refine wp_skip ?_
 refine x_block_n ?_
 refine x_then_n (c0 _ _ ?_)
 refine wsc (fun c0 i0 => ?_)
 refine asg j0 (fun c0 o0 => ?_)
 refine wpList_nil (x_then_n (i0 _ _ ?_))
 refine wp_ret ?_
 refine e_ret1 o0 rfl rfl rfl ?_
 refine ⟨?_, f0.fr⟩
 exact congrArg Ending.returned (ret_b (by first | rfl | omega | assumption | exact decide_eq_true (by assumption) | (have f0 := k0; (try simp at f0); have o0 := n0; (try simp at o0); have i0 := d0; (try simp at i0); have c0 := m0; (try simp at c0); have j0 := b0; (try simp at j0);  omega) | (simp [k0, n0, d0, m0, b0]; done) | (simp [] at *; done) | (simp [k0, n0, d0, m0, b0] <;> omega) | (rw [Bool.eq_iff_iff]; simp [k0, n0, d0, m0, b0] <;> omega) | (rw [Bool.eq_iff_iff]; simp [k0, n0, d0, m0, b0] at * <;> omega)))
set_option maxRecDepth 100000 in
set_option maxHeartbeats 1000000 in
theorem meq_calls (w0 : World) (Z : Nat → Prop) (hZ : ∀ k, Z k → k < w0.heap.size) (mg : Nat) (mt : TypeId) (me : Int) (mr : List Value) (aA : Option Addr) (ac : Nat) (a : List Nd) (bA : Option Addr) (bc : Nat) (b : List Nd) (tA : Option Addr) (tc : Nat) (t : List Nd) (hm : (Res.box mg mt (.int .i64 me :: mr)).holds w0) (hmz : ¬ Z mg) (ha : (dRow 4 aA a.length ac (encNs a)).φ w0 Z) (hb : (dRow 4 bA b.length bc (encNs b)).φ w0 Z) (ht : (dRow 4 tA t.length tc (encNs t)).φ w0 Z) (hla : a.length ≤ 100000 := by first | assumption | omega | (simp; done) | (simp; omega)) (hlb : b.length ≤ 100000 := by first | assumption | omega | (simp; done) | (simp; omega)) (hlt : t.length ≤ 100000 := by first | assumption | omega | (simp; done) | (simp; omega)) :
    Calls Tryd.prog 99 [.pointer (some ⟨mg, 0, none⟩), .slice aA a.length ac, .slice bA b.length bc, .slice tA t.length tc].toArray w0 (fun e w' => ∃ (rA0 : Option Addr) (rc0 : Nat) (rL0 : List Nd), e = .returned (.slice rA0 rL0.length rc0) ∧ Fr (· = mg) w0 w' ∧ (Res.box mg mt (.int .i64 (me) :: mr)).holds w' ∧ (dRow 4 rA0 rL0.length rc0 (encNs rL0)).φ w' (nxt Z w0 w') ∧ rL0 = noL me ⟨18, 0, 0, ⟨#[]⟩⟩ [a, b, t]) := by
 have b0 := sM hm hmz hZ (zc ha (zc hb (zc ht zn)))
 refine c_enter Tryd.func99 rfl Tryd.ntmps99 rfl (fun c0 d0 => ?_)
 refine wsc (fun c0 f0 => ?_)
 refine asg d0 (fun c0 h0 => ?_)
 refine wpList_nil (x_then_n (f0 _ _ ?_))
 refine wsc (fun f0 c0 => ?_)
 refine mv h0 (fun f0 d0 => ?_)
 refine m_build (ps := [(0, .const (.int .i64 18))]) (v := .agg #[.int .i64 18, .int .i64 0, .int .i64 0, .string (⟨#[]⟩ : ByteArray)]) sv d0 rfl rfl rfl (fun _ => by kernel_rfl) (by decide) (fun f0 h0 => ?_)
 refine mv h0 (fun f0 d0 => ?_)
 refine mv d0 (fun f0 h0 => ?_)
 refine mv h0 (fun f0 d0 => ?_)
 have f0 := b0.data (dAll [((aA, ac, a) : Sl), ((bA, bc, b) : Sl), ((tA, tc, t) : Sl)]) (all_cons (b0.get (i := 0) rfl) (all_cons (b0.get (i := 1) rfl) (all_cons (b0.get (i := 2) rfl) all_nil)))
 refine mbs [(0, .tmp 11), (1, .tmp 12), (2, .tmp 13)] [.slice aA a.length ac, .slice bA b.length bc, .slice tA t.length tc] sv d0 f0 Tryd.underlying42 zi22 (fun b0 h0 i0 j0 k0 => ?_)
 have h0 := k0.nf
 have k0 := own_cap (h0.res (i := 1) rfl)
 obtain ⟨b0, f0⟩ := h0.row_dataM (i := 1) rfl (j := 0) rfl (by decide)
 have h0 := b0.data (dRow 1 (some ⟨i0, 0, none⟩) 3 3 (encSs ([((aA, ac, a) : Sl), ((bA, bc, b) : Sl), ((tA, tc, t) : Sl)]))) ⟨k0, f0⟩
 refine k_call (xs := [.tmp 9, .tmp 10, .tmp 14]) se j0 rfl rfl rfl (by decide) ok72 (node_calls _ _ h0.il _ _ _ _ (⟨18, 0, 0, (⟨#[]⟩ : ByteArray)⟩ : Nd) _ _ ([((aA, ac, a) : Sl), ((bA, bc, b) : Sl), ((tA, tc, t) : Sl)]) (h0.z 0) (imm_box (i := 0) rfl) (h0.g 4) (h0.g 3)) ?_
 rintro j0 f0 ⟨b0, k0, i0, rfl, d0, m0, n0, o0⟩
 have f0 := h0.callM (i := 0) rfl d0 m0
 have m0 := h0.dM 0 f0 n0
 refine ⟨_, rfl, fun f0 n0 => ?_⟩
 refine asg n0 (fun f0 h0 => ?_)
 refine wpList_nil (x_then_n (c0 _ _ ?_))
 refine wp_ret ?_
 refine e_ret1 h0 rfl rfl rfl ?_
 refine ⟨b0, k0, i0, ?_, m0.fr, m0.res (i := 0) rfl, m0.rx 5, o0⟩
 exact congrArg Ending.returned (ret_s (by first | rfl | (simp; done)))
set_option maxRecDepth 100000 in
set_option maxHeartbeats 1000000 in
theorem sunit_calls (w0 : World) (Z : Nat → Prop) (hZ : ∀ k, Z k → k < w0.heap.size) (xg : Nat) (xe : Int) (xaA : Option Addr) (xac : Nat) (xa : List Nd) (xtA : Option Addr) (xtc : Nat) (xt : List Nd) (xuA : Option Addr) (xuc : Nat) (xu : List Nd) (hx : (Res.box xg 75 [.int .i64 (xe), .slice xaA xa.length xac, .slice xtA xt.length xtc, .slice xuA xu.length xuc, .slice none 0 0]).holds w0) (hxz : ¬ Z xg) (hxa : (dRow 4 xaA xa.length xac (encNs xa)).φ w0 Z) (hxt : (dRow 4 xtA xt.length xtc (encNs xt)).φ w0 Z) (hxu : (dRow 4 xuA xu.length xuc (encNs xu)).φ w0 Z) :
    Calls Tryd.prog 52 [.pointer (some ⟨xg, 0, none⟩)].toArray w0 (fun e w' => ∃ (rA0 : Option Addr) (rc0 : Nat) (rL0 : List Nd), e = .returned (.slice rA0 rL0.length rc0) ∧ Fr (· = xg) w0 w' ∧ (Res.box xg 75 [.int .i64 (xe), .slice xaA xa.length xac, .slice xtA xt.length xtc, .slice xuA xu.length xuc, .slice none 0 0]).holds w' ∧ (dRow 4 rA0 rL0.length rc0 (encNs rL0)).φ w' (nxt Z w0 w') ∧ rL0 = noL xe ⟨16, 0, 0, ⟨#[]⟩⟩ []) := by
 have b0 := sM hx hxz hZ (zc hxa (zc hxt (zc hxu zn)))
 refine c_enter Tryd.func52 rfl Tryd.ntmps52 rfl (fun c0 d0 => ?_)
 refine wsc (fun c0 f0 => ?_)
 refine asg d0 (fun c0 h0 => ?_)
 refine wpList_nil (x_then_n (f0 _ _ ?_))
 refine wsc (fun f0 c0 => ?_)
 refine mv h0 (fun f0 d0 => ?_)
 refine r_nilCheck sv d0 rfl rfl rfl (by decide) (fun f0 h0 => ?_)
 refine m_field (j' := 0) sv h0 rfl rfl rfl Tryd.underlying75 rfl sz59 rfl rfl (by decide) (fun f0 d0 => ?_)
 refine m_build (ps := [(0, .const (.int .i64 16))]) (v := .agg #[.int .i64 16, .int .i64 0, .int .i64 0, .string (⟨#[]⟩ : ByteArray)]) sv d0 rfl rfl rfl (fun _ => by kernel_rfl) (by decide) (fun f0 h0 => ?_)
 have f0 := b0.nf
 refine k_call (xs := [.tmp 5, .tmp 6, .const (.slice none 0 0)]) se h0 rfl rfl rfl (by decide) ok72 (node_calls _ _ f0.il _ _ _ _ (⟨16, 0, 0, (⟨#[]⟩ : ByteArray)⟩ : Nd) none 0 [] (f0.z 0) (imm_box (i := 0) rfl) ⟨Nat.le_refl _, RowI.nil _ _ _ _⟩ all_nil) ?_
 rintro h0 b0 ⟨d0, i0, j0, rfl, k0, m0, n0, o0⟩
 have b0 := f0.callM (i := 0) rfl k0 m0
 have m0 := f0.dM 0 b0 n0
 refine ⟨_, rfl, fun b0 n0 => ?_⟩
 refine asg n0 (fun b0 f0 => ?_)
 refine wpList_nil (x_then_n (c0 _ _ ?_))
 refine wp_ret ?_
 refine e_ret1 f0 rfl rfl rfl ?_
 refine ⟨d0, i0, j0, ?_, m0.fr, m0.res (i := 0) rfl, m0.rx 3, o0⟩
 exact congrArg Ending.returned (ret_s (by first | rfl | (simp; done)))
set_option maxRecDepth 100000 in
set_option maxHeartbeats 1000000 in
theorem sempty_calls (w0 : World) (Z : Nat → Prop) (hZ : ∀ k, Z k → k < w0.heap.size) (xg : Nat) (xe : Int) (xaA : Option Addr) (xac : Nat) (xa : List Nd) (xtA : Option Addr) (xtc : Nat) (xt : List Nd) (xuA : Option Addr) (xuc : Nat) (xu : List Nd) (hx : (Res.box xg 75 [.int .i64 (xe), .slice xaA xa.length xac, .slice xtA xt.length xtc, .slice xuA xu.length xuc, .slice none 0 0]).holds w0) (hxz : ¬ Z xg) (hxa : (dRow 4 xaA xa.length xac (encNs xa)).φ w0 Z) (hxt : (dRow 4 xtA xt.length xtc (encNs xt)).φ w0 Z) (hxu : (dRow 4 xuA xu.length xuc (encNs xu)).φ w0 Z) :
    Calls Tryd.prog 105 [.pointer (some ⟨xg, 0, none⟩)].toArray w0 (fun e w' => ∃ (rA0 : Option Addr) (rc0 : Nat) (rL0 : List Nd), e = .returned (.slice rA0 rL0.length rc0) ∧ Fr (· = xg) w0 w' ∧ (Res.box xg 75 [.int .i64 (xe), .slice xaA xa.length xac, .slice xtA xt.length xtc, .slice xuA xu.length xuc, .slice none 0 0]).holds w' ∧ (dRow 4 rA0 rL0.length rc0 (encNs rL0)).φ w' (nxt Z w0 w') ∧ rL0 = noL xe ⟨14, 0, 0, ⟨#[]⟩⟩ []) := by
 have b0 := sM hx hxz hZ (zc hxa (zc hxt (zc hxu zn)))
 refine c_enter Tryd.func105 rfl Tryd.ntmps105 rfl (fun c0 d0 => ?_)
 refine wsc (fun c0 f0 => ?_)
 refine asg d0 (fun c0 h0 => ?_)
 refine wpList_nil (x_then_n (f0 _ _ ?_))
 refine wsc (fun f0 c0 => ?_)
 refine mv h0 (fun f0 d0 => ?_)
 refine r_nilCheck sv d0 rfl rfl rfl (by decide) (fun f0 h0 => ?_)
 refine m_field (j' := 0) sv h0 rfl rfl rfl Tryd.underlying75 rfl sz59 rfl rfl (by decide) (fun f0 d0 => ?_)
 refine m_build (ps := [(0, .const (.int .i64 14))]) (v := .agg #[.int .i64 14, .int .i64 0, .int .i64 0, .string (⟨#[]⟩ : ByteArray)]) sv d0 rfl rfl rfl (fun _ => by kernel_rfl) (by decide) (fun f0 h0 => ?_)
 have f0 := b0.nf
 refine k_call (xs := [.tmp 5, .tmp 6, .const (.slice none 0 0)]) se h0 rfl rfl rfl (by decide) ok72 (node_calls _ _ f0.il _ _ _ _ (⟨14, 0, 0, (⟨#[]⟩ : ByteArray)⟩ : Nd) none 0 [] (f0.z 0) (imm_box (i := 0) rfl) ⟨Nat.le_refl _, RowI.nil _ _ _ _⟩ all_nil) ?_
 rintro h0 b0 ⟨d0, i0, j0, rfl, k0, m0, n0, o0⟩
 have b0 := f0.callM (i := 0) rfl k0 m0
 have m0 := f0.dM 0 b0 n0
 refine ⟨_, rfl, fun b0 n0 => ?_⟩
 refine asg n0 (fun b0 f0 => ?_)
 refine wpList_nil (x_then_n (c0 _ _ ?_))
 refine wp_ret ?_
 refine e_ret1 f0 rfl rfl rfl ?_
 refine ⟨d0, i0, j0, ?_, m0.fr, m0.res (i := 0) rfl, m0.rx 3, o0⟩
 exact congrArg Ending.returned (ret_s (by first | rfl | (simp; done)))
set_option maxRecDepth 100000 in
set_option maxHeartbeats 1000000 in
theorem enum_calls (w0 : World) (Z : Nat → Prop) (hZ : ∀ k, Z k → k < w0.heap.size) (tA : Option Addr) (tc : Nat) (t : List Nd) (ht : (dRow 4 tA t.length tc (encNs t)).φ w0 Z) (hl : t.length ≤ 1000000 := by first | assumption | omega | (simp; done) | (simp; omega)) (h0 : 0 < t.length := by first | assumption | omega | (simp; done) | (simp; omega)) :
    Calls Tryd.prog 104 [.slice tA t.length tc].toArray w0 (fun e w' => e = .returned (.int .i64 (numK t)) ∧ Fr none_ w0 w') := by
 have b0 := s0 (M := none_) hZ (zc ht zn)
 refine c_enter Tryd.func104 rfl Tryd.ntmps104 rfl (fun c0 d0 => ?_)
 refine wsc (fun c0 f0 => ?_)
 refine asg d0 (fun c0 i0 => ?_)
 refine wpList_nil (x_then_n (f0 _ _ ?_))
 refine wp_seq_k (fun f0 c0 => ?_)
 refine wsc (fun f0 d0 => ?_)
 refine mv i0 (fun f0 j0 => ?_)
 have f0 := b0.nf
 refine k_call (xs := [.tmp 3]) se j0 rfl rfl rfl (by decide) ok50 (eroot_calls _ _ f0.il _ _ _ (f0.g 0)) ?_
 rintro j0 b0 ⟨rfl, i0⟩
 have b0 := f0.below i0.below
 refine ⟨_, rfl, fun i0 f0 => ?_⟩
 refine m_fieldV (v := .int .i64 (((nth t (t.length - 1)).K))) sv f0 rfl rfl rfl (fun _ => by kernel_rfl) (by decide) (fun i0 j0 => ?_)
 refine wpList_nil (x_then_n (d0 _ _ ?_))
 refine wp_block ?_
 refine wsc (fun d0 i0 => ?_)
 refine r_eql sv j0 rfl rfl rfl rfl (by decide) (fun d0 f0 => ?_)
 refine asg f0 (fun d0 j0 => ?_)
 refine wpList_nil (x_then_n (i0 _ _ ?_))
 rcases Decidable.em ((((nth t (t.length - 1)).K)) = 11) with i0 | i0
 ·
  have d0 := j0.setb (d := 6) (b := true) rfl (decide_eq_true i0)
  refine wp_cond_true (d0.ev rfl) ?_
  refine wsc (fun f0 k0 => ?_)
  refine asg d0 (fun f0 m0 => ?_)
  refine wpList_nil (x_then_n (k0 _ _ ?_))
  refine wp_ret ?_
  refine x_block_r ?_
  refine x_then_r ?_
  refine e_ret1 m0 rfl rfl rfl ?_
  refine ⟨?_, b0.fr⟩
  exact congrArg Ending.returned (ret_i (by (unfold numK; (repeat' split) <;> omega)))
 ·
  have m0 := j0.setb (d := 6) (b := false) rfl (decide_eq_false i0)
  refine wp_cond_false (m0.ev rfl) ?_
  refine wsc (fun i0 j0 => ?_)
  refine r_eql sv m0 rfl rfl rfl rfl (by decide) (fun i0 k0 => ?_)
  refine asg k0 (fun i0 m0 => ?_)
  refine wpList_nil (x_then_n (j0 _ _ ?_))
  rcases Decidable.em ((((nth t (t.length - 1)).K)) = 12) with j0 | j0
  ·
   have i0 := m0.setb (d := 8) (b := true) rfl (decide_eq_true j0)
   refine wp_cond_true (i0.ev rfl) ?_
   refine wsc (fun k0 f0 => ?_)
   refine asg i0 (fun k0 d0 => ?_)
   refine wpList_nil (x_then_n (f0 _ _ ?_))
   refine wp_ret ?_
   refine x_block_r ?_
   refine x_then_r ?_
   refine e_ret1 d0 rfl rfl rfl ?_
   refine ⟨?_, b0.fr⟩
   exact congrArg Ending.returned (ret_i (by (unfold numK; (repeat' split) <;> omega)))
  ·
   have d0 := m0.setb (d := 8) (b := false) rfl (decide_eq_false j0)
   refine wp_cond_false (d0.ev rfl) ?_
   refine wp_skip ?_
   refine x_block_n ?_
   refine x_then_n (c0 _ _ ?_)
   refine wsc (fun c0 j0 => ?_)
   refine asg d0 (fun c0 m0 => ?_)
   refine wpList_nil (x_then_n (j0 _ _ ?_))
   refine wp_ret ?_
   refine e_ret1 m0 rfl rfl rfl ?_
   refine ⟨?_, b0.fr⟩
   exact congrArg Ending.returned (ret_i (by (unfold numK; (repeat' split) <;> omega)))
end Go.Proofs.YtcfponnkfhkbdaaDoor
/- Contracts of functions, one theorem each: what the call returns, and that nothing old is changed. Printed by gen.py. -/
namespace Go.Proofs.YtcfponnkfhkbdaaDoor
open Go Go.RowKit
set_option linter.unusedSimpArgs false
set_option linter.unusedVariables false
set_option maxRecDepth 100000 in
set_option maxHeartbeats 1000000 in
theorem stuck_calls (w0 : World) (Z : Nat → Prop) (hZ : ∀ k, Z k → k < w0.heap.size) (mg : Nat) (mt : TypeId) (me : Int) (mr : List Value) (hm : (Res.box mg mt (.int .i64 me :: mr)).holds w0) (hmz : ¬ Z mg) :
    Calls Tryd.prog 64 [.pointer (some ⟨mg, 0, none⟩)].toArray w0 (fun e w' => ∃ (rA0 : Option Addr) (rc0 : Nat), e = .returned (.slice rA0 (([] : List Nd)).length rc0) ∧ Fr (· = mg) w0 w' ∧ (Res.box mg mt (.int .i64 (if me = 0 then 120 else me) :: mr)).holds w' ∧ (dRow 4 rA0 ((([] : List Nd)).length) rc0 (encNs ([] : List Nd))).φ w' (nxt Z w0 w')) := by
 have b0 := sM hm hmz hZ zn
 refine c_enter Tryd.func64 rfl Tryd.ntmps64 rfl (fun c0 d0 => ?_)
 refine wsc (fun c0 f0 => ?_)
 refine asg d0 (fun c0 h0 => ?_)
 refine wpList_nil (x_then_n (f0 _ _ ?_))
 refine wsc (fun f0 c0 => ?_)
 refine mv h0 (fun f0 d0 => ?_)
 have f0 := b0.nf
 refine k_call (xs := [.tmp 3, .const (.int .i64 120)]) se d0 rfl rfl rfl (by decide) ok88 (fail_calls _ _ f0.il _ _ _ _ 120 (f0.z 0) (imm_box (i := 0) rfl)) ?_
 rintro d0 b0 ⟨h0, i0, rfl, j0, k0, m0⟩
 have b0 := f0.callM (i := 0) rfl j0 k0
 have k0 := f0.dM 0 b0 m0
 refine ⟨_, rfl, fun b0 m0 => ?_⟩
 refine asg m0 (fun b0 f0 => ?_)
 refine wpList_nil (x_then_n (c0 _ _ ?_))
 refine wp_ret ?_
 refine e_ret1 f0 rfl rfl rfl ?_
 refine ⟨h0, i0, ?_, k0.fr, (by rw [show (if me = 0 then 120 else me : Int) = ((if (me) = 0 then 120 else (me))) by first | rfl | omega | assumption | exact decide_eq_true (by assumption) | ( omega) | (simp []; done) | (simp [] at *; done) | (simp [] <;> omega) | (rw [Bool.eq_iff_iff]; simp [] <;> omega) | (rw [Bool.eq_iff_iff]; simp [] at * <;> omega)]; exact k0.res (i := 0) rfl), k0.rx 0⟩
 exact congrArg Ending.returned rfl
end Go.Proofs.YtcfponnkfhkbdaaDoor
