import Derived.Test.YtpfmnpaifchleaaGreatDoorYmc
import Derived.MapKept
import Derived.Laws.Concat
namespace Go.Proofs.YtpfmnpaifchleaaGreatDoor
open Go Go.RowKit
set_option linter.unusedSimpArgs false
set_option linter.unusedVariables false
set_option maxRecDepth 100000
set_option maxHeartbeats 1000000
theorem right_calls (w0 : World) (Z : Nat → Prop) (hZ : ∀ k, Z k → k < w0.heap.size) (n : Nd) (hShp : Shapes w0 Z) (hs : n.S.size < 1000000 := by first | assumption | omega | (simp <;> omega)) :
    Calls Tryz.prog 126 [.agg #[.int .i64 (n.K), .int .i64 (n.N), .int .i64 (n.M), .string n.S]].toArray w0 (fun e w' => e = .returned (.bool (right n)) ∧ Fr none_ w0 w') := by
 have b0 := s0 (M := none_) hZ (zc (d := dShapes) hShp zn)
 refine c_enter Tryz.func126 rfl Tryz.ntmps126 rfl fun c0 d0 => ?_
 refine wsc fun c0 f0 => bxx d0 b0 fun c0 h0 i0 j0 k0 => ?_
 refine aw j0 f0 fun h0 c0 => ?_
 refine wp_seq_k fun f0 h0 => wsc fun f0 j0 => lR c0 fun f0 d0 => ?_
 refine lOr 3 (decide (30 ≤ (n.K))) d0 fun f0 c0 => ?_
 refine wn j0 ?_
 rcases Bool.eq_false_or_eq_true (((decide ((n.K) < 0)) || (decide (30 ≤ (n.K))))) with j0 | j0
 ·
  have f0 := j0
  try simp only [bz] at f0
  refine wct c0 j0 fun f0 => ?_
  refine wsc fun d0 b0 => aw f0 b0 fun d0 m0 => ?_
  refine wp_ret <| x_then_r <| er1 m0 ?_
  refine ⟨?_, k0.fr⟩
  exact cre (ret_b (by exact (right_bad (by omega)).symm))
 have m0 := or_fl j0
 have b0 := of_decide_eq_false m0
 have m0 := or_fr j0
 have d0 := of_decide_eq_false m0
 refine wcf c0 j0 fun m0 => ?_
 refine wp_skip <| xn h0 <| wsc fun h0 c0 => lR m0 fun h0 f0 => ?_
 refine m_indexA (i := ((n.K)).toNat) (j := (((n.K)).toNat) * 4) sv f0 rfl rfl rfl rfl Tryz.underlying155 sz154 (by omega) (by omega) rfl (by decide) fun h0 m0 => ?_
 obtain ⟨h0, f0, n0, o0⟩ := shapes_at (k0.get (i := 0) rfl) (((n.K)).toNat) (by omega)
 have p0 := k0.data (dRow 1 h0 (shp (((n.K)).toNat)).b.length f0 (encIs (shp (((n.K)).toNat)).b)) n0
 refine m_loadEN sv m0 rfl rfl rfl o0 Tryz.underlying154 rfl sz154 (by decide) fun n0 k0 => ?_
 refine alc k0 p0 fun n0 o0 m0 q0 t0 => ?_
 refine sto 1 q0 t0 fun o0 n0 k0 p0 => ?_
 refine wn c0 <| wp_seq_k fun c0 n0 => wp_block ?_
 refine c_join (fun ga gw => Reg ga 110 [(1, .pointer (some ⟨i0, 0, none⟩)), (2, .bool false), (3, .pointer (some ⟨m0, 0, none⟩)), (16, .bool (((!((shp (((n.K)).toNat)).n)) && (!(decide ((n.N) = 0)))) || (((!((shp (((n.K)).toNat)).m)) && (!(decide ((n.M) = 0)))) || (((!((shp (((n.K)).toNat)).s)) && (!(decide (n.S = (⟨#[]⟩ : ByteArray))))) || (((shp (((n.K)).toNat)).s) && (!(nameOk n.S))))))), (1000000, .bool false)] ∧ St w0 Z none_ gw [.box i0 30 [.int .i64 (n.K), .int .i64 (n.N), .int .i64 (n.M), .string n.S], .box m0 154 [.slice h0 ((shp (((n.K)).toNat)).b.length) f0, .bool ((shp (((n.K)).toNat)).n), .bool ((shp (((n.K)).toNat)).m), .bool ((shp (((n.K)).toNat)).s)]] [dShapes, dRow 1 h0 (shp (((n.K)).toNat)).b.length f0 (encIs (shp (((n.K)).toNat)).b)]) ?_ ?_
 ·
  refine wsc fun c0 o0 => lR k0 fun c0 t0 => ?_
  refine lAn 3 (!(decide ((n.N) = 0))) t0 fun c0 k0 => ?_
  refine aw k0 o0 fun c0 t0 => ?_
  rcases Bool.eq_false_or_eq_true (((!((shp (((n.K)).toNat)).n)) && (!(decide ((n.N) = 0))))) with o0 | o0
  ·
   have c0 := and_tl o0
   have k0 := not_t c0
   have k0 := and_tr o0
   have c0 := not_t k0
   have k0 := of_decide_eq_false c0
   refine wct t0 o0 fun k0 => ?_
   refine wp_skip ?_
   exact x_then_n ⟨(k0.sub (rc2 (rc rfl (rc (rb rfl (by (simp only [o0, bl]; done))) (rc rfl rnl))))), p0⟩
  have k0 := o0
  try simp only [bz] at k0
  refine wcf t0 o0 fun k0 => ?_
  refine wsc fun t0 c0 => lR k0 fun t0 q0 => ?_
  refine lAn 3 (!(decide ((n.M) = 0))) q0 fun t0 k0 => ?_
  refine aw k0 c0 fun t0 q0 => ?_
  rcases Bool.eq_false_or_eq_true (((!((shp (((n.K)).toNat)).m)) && (!(decide ((n.M) = 0))))) with c0 | c0
  ·
   have t0 := and_tl c0
   have k0 := not_t t0
   have k0 := and_tr c0
   have t0 := not_t k0
   have k0 := of_decide_eq_false t0
   refine wct q0 c0 fun k0 => ?_
   refine wp_skip ?_
   exact x_then_n ⟨(k0.sub (rc2 (rc rfl (rc (rb rfl (by (simp only [o0, c0, bl]; done))) (rc rfl rnl))))), p0⟩
  have k0 := c0
  try simp only [bz] at k0
  refine wcf q0 c0 fun k0 => ?_
  refine wsc fun q0 t0 => lR k0 fun q0 u0 => ?_
  refine lAn 3 (!(decide (n.S = (⟨#[]⟩ : ByteArray)))) u0 fun q0 k0 => ?_
  refine aw k0 t0 fun q0 u0 => ?_
  rcases Bool.eq_false_or_eq_true (((!((shp (((n.K)).toNat)).s)) && (!(decide (n.S = (⟨#[]⟩ : ByteArray)))))) with t0 | t0
  ·
   have q0 := and_tl t0
   have k0 := not_t q0
   have k0 := and_tr t0
   have q0 := not_t k0
   have k0 := of_decide_eq_false q0
   refine wct u0 t0 fun k0 => ?_
   refine wp_skip ?_
   exact x_then_n ⟨(k0.sub (rc2 (rc rfl (rc (rb rfl (by (simp only [o0, c0, t0, bl]; done))) (rc rfl rnl))))), p0⟩
  have k0 := t0
  try simp only [bz] at k0
  refine wcf u0 t0 fun k0 => ?_
  refine c_region ?_
  refine lR k0 fun u0 q0 => ?_
  refine l_join (fun ga gw => Reg ga 110 [(1, .pointer (some ⟨i0, 0, none⟩)), (2, .bool false), (3, .pointer (some ⟨m0, 0, none⟩)), (16, .bool false), (48, .bool (((shp (((n.K)).toNat)).s) && (!(nameOk n.S)))), (1000000, .bool false)] ∧ St w0 Z none_ gw [.box i0 30 [.int .i64 (n.K), .int .i64 (n.N), .int .i64 (n.M), .string n.S], .box m0 154 [.slice h0 ((shp (((n.K)).toNat)).b.length) f0, .bool ((shp (((n.K)).toNat)).n), .bool ((shp (((n.K)).toNat)).m), .bool ((shp (((n.K)).toNat)).s)]] [dShapes, dRow 1 h0 (shp (((n.K)).toNat)).b.length f0 (encIs (shp (((n.K)).toNat)).b)]) 5 ?_ ?_
  ·
   rcases Bool.eq_false_or_eq_true ((shp (((n.K)).toNat)).s) with m0 | m0
   ·
    have f0 := q0.setb (d := 43) (b := true) rfl m0
    refine lR f0 fun h0 i0 => ?_
    have h0 := p0.nf
    refine kcl i0 ok115 (name_calls _ _ h0.il n.S) ?_
    rintro i0 f0 ⟨rfl, u0⟩
    have f0 := h0.below u0.below
    refine ⟨_, rfl, fun u0 h0 => ?_⟩
    refine lR h0 fun u0 i0 => ?_
    refine wpList_nil ?_
    exact x_then_n ⟨(i0.sub (rc4 (rc (rb rfl (by (simp only [m0, bl]; done))) (rc rfl rnl)))), f0⟩
   have i0 := q0.setb (d := 43) (b := false) rfl m0
   refine lR i0 fun q0 f0 => ?_
   refine wpList_nil ?_
   exact x_then_n ⟨(f0.sub (rc4 (rc (rb rfl (by (simp only [m0, bl]; done))) (rc rfl rnl)))), p0⟩
  rintro f0 m0 ⟨p0, q0⟩
  refine asg p0 fun m0 f0 => ?_
  refine wpList_nil ?_
  exact x_then_n ⟨(f0.sub (rc2 (rc rfl (rc (rb rfl (by (simp only [o0, c0, t0, bl]; done))) (rc rfl rnl))))), q0⟩
 rintro f0 q0 ⟨t0, c0⟩
 rcases Bool.eq_false_or_eq_true ((((!((shp (((n.K)).toNat)).n)) && (!(decide ((n.N) = 0)))) || (((!((shp (((n.K)).toNat)).m)) && (!(decide ((n.M) = 0)))) || (((!((shp (((n.K)).toNat)).s)) && (!(decide (n.S = (⟨#[]⟩ : ByteArray))))) || (((shp (((n.K)).toNat)).s) && (!(nameOk n.S))))))) with q0 | q0
 ·
  have f0 := q0
  try simp only [bz] at f0
  refine wct t0 q0 fun f0 => ?_
  refine wsc fun o0 m0 => aw f0 m0 fun o0 p0 => ?_
  refine wp_ret <| x_block_r <| x_then_r <| er1 p0 ?_
  refine ⟨?_, c0.fr⟩
  exact cre (ret_b (by exact (right_big q0).symm))
 have p0 := or_fl q0
 have m0 := p0
 try simp only [bz] at m0
 have m0 := or_fr q0
 have p0 := or_fl m0
 have o0 := p0
 try simp only [bz] at o0
 have o0 := or_fr m0
 have m0 := or_fl o0
 have p0 := m0
 try simp only [bz] at p0
 have p0 := or_fr o0
 have o0 := p0
 try simp only [bz] at o0
 refine wcf t0 q0 fun o0 => ?_
 refine wsc fun t0 p0 => lR o0 fun t0 m0 => ?_
 refine wn p0 ?_
 rcases Decidable.em ((n.K) = 2) with p0 | p0
 ·
  refine wct m0 (decide_eq_true p0) fun t0 => ?_
  refine wsc fun o0 f0 => lR t0 fun o0 i0 => ?_
  have o0 := c0.nf
  refine kcl i0 ok147 (lvCheck_calls _ _ o0.il (n.N)) ?_
  rintro i0 t0 ⟨rfl, u0⟩
  have t0 := o0.below u0.below
  refine ⟨_, rfl, fun u0 o0 => ?_⟩
  refine lR o0 fun u0 i0 => ?_
  refine wn f0 <| wp_ret <| x_block_r <| x_then_r <| er1 i0 ?_
  refine ⟨?_, t0.fr⟩
  exact cre (ret_b (by exact (right_sort q0 (by assumption)).symm))
 refine wcf m0 (decide_eq_false p0) fun t0 => ?_
 refine wsc fun m0 i0 => lR t0 fun m0 f0 => ?_
 refine wn i0 ?_
 rcases Decidable.em ((n.K) = 26) with i0 | i0
 ·
  refine wct f0 (decide_eq_true i0) fun m0 => ?_
  refine wp_seq_k fun t0 u0 => ?_
  obtain ⟨t0, o0, h0⟩ := c0.agree
  refine d_reg3 (n := 22) h0 2 (pB 0 0 pn) (pan_then (pan_block (pan_then pan_body))) fun o0 t0 k0 v0 x0 y0 => ?_
  refine dR [0, 1, 2, 3] m0 fun y0 v0 => ?_
  rcases Decidable.em (0 ≤ (n.N)) with y0 | y0
  ·
   have m0 := v0.setb (d := 64) (b := true) rfl (decide_eq_true y0)
   refine dR [4, 5, 6, 7] m0 fun t0 o0 => ?_
   refine d1 8 ?_
   have t0 := x0.nf
   refine kcl o0 ok148 (most_calls _ _ t0.il (n.K)) ?_
   rintro o0 m0 ⟨rfl, h0⟩
   have m0 := t0.below h0.below
   refine ⟨_, rfl, fun h0 t0 => ?_⟩
   have h0 := sWI m0 2 (pB 0 0 pn)
   refine ⟨h0, ?_⟩
   refine dR [9, 10, 11] t0 fun h0 o0 => ?_
   refine dAn 12 [13, 14] 15 (decide (0 ≤ (n.M))) o0 fun h0 t0 => ?_
   refine dR [16] t0 fun h0 o0 => ?_
   refine dAn 17 [18, 19] 20 (decide ((n.M) ≤ 6)) o0 fun h0 t0 => ?_
   refine dR [21] t0 fun h0 o0 => ?_
   refine wpAnyH_done (by kernel_rfl) (k0 _ _ ?_) _
   refine xn u0 <| wp_ret <| x_block_r <| x_then_r <| er1 o0 ?_
   refine ⟨?_, m0.fr⟩
   exact cre (ret_b (by (rw [right_con' q0 (by assumption)]; first | rfl | (simp <;> omega) | (simp [j0, b0, d0, q0, p0, i0, y0]; done) | (rw [Bool.eq_iff_iff]; simp <;> omega))))
  have m0 := v0.setb (d := 64) (b := false) rfl (decide_eq_false y0)
  refine dR [4, 5, 6, 7, 8, 9, 10, 11, 12, 13, 14, 15, 16, 17, 18, 19, 20, 21] m0 fun v0 o0 => ?_
  refine wpAnyH_done (by kernel_rfl) (k0 _ _ ?_) _
  refine xn u0 <| wp_ret <| x_block_r <| x_then_r <| er1 o0 ?_
  refine ⟨?_, x0.fr⟩
  exact cre (ret_b (by (rw [right_con' q0 (by assumption)]; first | rfl | (simp <;> omega) | (simp [j0, b0, d0, q0, p0, i0, y0]; done) | (rw [Bool.eq_iff_iff]; simp <;> omega))))
 refine wcf f0 (decide_eq_false i0) fun y0 => ?_
 refine wsc fun f0 x0 => lR y0 fun f0 o0 => ?_
 refine wn x0 ?_
 rcases Decidable.em ((n.K) = 27) with x0 | x0
 ·
  refine wct o0 (decide_eq_true x0) fun f0 => ?_
  refine wsc fun y0 u0 => lR f0 fun y0 k0 => ?_
  refine lAn 3 (decide ((n.M) ≤ 6)) k0 fun y0 f0 => ?_
  refine aw f0 u0 fun y0 k0 => ?_
  refine wp_ret <| x_block_r <| x_then_r <| er1 k0 ?_
  refine ⟨?_, c0.fr⟩
  exact cre (ret_b (by (rw [right_elim' q0 (by assumption)]; first | rfl | (simp <;> omega) | (simp [j0, b0, d0, q0, p0, i0, x0]; done) | (rw [Bool.eq_iff_iff]; simp <;> omega))))
 refine wcf o0 (decide_eq_false x0) fun k0 => ?_
 refine wp_skip <| x_block_n <| xn n0 <| wp_seq_k fun n0 o0 => ?_
 obtain ⟨n0, u0, y0⟩ := c0.agree
 refine d_reg3 (n := 17) y0 2 (pB 0 0 (pB 1 0 pn)) (pan_then pan_body) fun u0 n0 c0 f0 v0 m0 => ?_
 refine dR [0, 1, 2, 3] k0 fun m0 f0 => ?_
 rcases Bool.eq_false_or_eq_true ((shp (((n.K)).toNat)).n) with m0 | m0
 ·
  have k0 := f0.setb (d := 97) (b := false) rfl (by rw [m0]; rfl)
  refine dR [4, 5, 6, 7] k0 fun n0 u0 => ?_
  rcases Decidable.em (0 ≤ (n.N)) with n0 | n0
  ·
   have k0 := u0.setb (d := 101) (b := true) rfl (decide_eq_true n0)
   refine dR [8, 9, 10, 11] k0 fun y0 h0 => ?_
   refine d1 12 ?_
   have y0 := v0.nf
   refine kcl h0 ok148 (most_calls _ _ y0.il (n.K)) ?_
   rintro h0 k0 ⟨rfl, t0⟩
   have k0 := y0.below t0.below
   refine ⟨_, rfl, fun t0 y0 => ?_⟩
   have t0 := sWI k0 2 (pB 0 0 (pB 1 0 pn))
   refine ⟨t0, ?_⟩
   refine dR [13, 14, 15, 16] y0 fun t0 h0 => ?_
   refine wpAnyH_done (by kernel_rfl) (c0 _ _ ?_) _
   refine xn o0 <| wp_ret <| er1 h0 ?_
   refine ⟨?_, k0.fr⟩
   exact cre (ret_b (by (rw [right_oth q0 (by omega) (by omega) (by assumption) (by assumption) (by assumption)]; first | rfl | (simp <;> omega) | (simp [j0, b0, d0, q0, p0, i0, x0, m0, n0]; done) | (rw [Bool.eq_iff_iff]; simp <;> omega))))
  have k0 := u0.setb (d := 101) (b := false) rfl (decide_eq_false n0)
  refine dR [8, 9, 10, 11, 12, 13, 14, 15, 16] k0 fun u0 h0 => ?_
  refine wpAnyH_done (by kernel_rfl) (c0 _ _ ?_) _
  refine xn o0 <| wp_ret <| er1 h0 ?_
  refine ⟨?_, v0.fr⟩
  exact cre (ret_b (by (rw [right_oth q0 (by omega) (by omega) (by assumption) (by assumption) (by assumption)]; first | rfl | (simp <;> omega) | (simp [j0, b0, d0, q0, p0, i0, x0, m0, n0]; done) | (rw [Bool.eq_iff_iff]; simp <;> omega))))
 have n0 := f0.setb (d := 97) (b := true) rfl (by rw [m0]; rfl)
 refine dR [4, 5, 6, 7, 8, 9, 10, 11, 12, 13, 14, 15, 16] n0 fun f0 h0 => ?_
 refine wpAnyH_done (by kernel_rfl) (c0 _ _ ?_) _
 refine xn o0 <| wp_ret <| er1 h0 ?_
 refine ⟨?_, v0.fr⟩
 exact cre (ret_b (by (rw [right_oth q0 (by omega) (by omega) (by assumption) (by assumption) (by assumption)]; first | rfl | (simp <;> omega) | (simp [j0, b0, d0, q0, p0, i0, x0, m0]; done) | (rw [Bool.eq_iff_iff]; simp <;> omega))))
theorem measured_calls (w0 : World) (Z : Nat → Prop) (hZ : ∀ k, Z k → k < w0.heap.size) (tA : Option Addr) (tc : Nat) (t : List Nd) (hShp : Shapes w0 Z) (ht : (dRow 4 tA t.length tc (encNs t)).φ w0 Z) (hl : t.length ≤ 4000 := by first | assumption | omega | (simp <;> omega)) (hsm : sml t := by first | assumption | omega | (simp <;> omega)) :
    Calls Tryz.prog 87 [.slice tA t.length tc].toArray w0 (fun e w' => ∃ (rA0 : Option Addr) (rc0 : Nat), e = .returned (.tuple #[.slice rA0 (measL t).length rc0, .bool (measB t)]) ∧ Fr none_ w0 w' ∧ (dRow 2 rA0 ((measL t).length) rc0 (encMs (measL t))).φ w' (nxt Z w0 w')) := by
 have b0 := s0 (M := none_) hZ (zc (d := dShapes) hShp (zc ht zn))
 refine c_enter Tryz.func87 rfl Tryz.ntmps87 rfl fun c0 d0 => ?_
 refine wsc fun c0 f0 => lR d0 fun c0 h0 => ?_
 refine wn f0 <| wsc fun f0 c0 => lR h0 fun f0 d0 => ?_
 refine wn c0 <| wp_seq_k fun c0 f0 => wsc fun c0 h0 => lR d0 fun c0 i0 => ?_
 refine wn h0 <| wp_block ?_
 have h0 := b0.nilrow 126 2
 have b0 := h0.nilrow 126 2
 refine wp_loop_ghost (fun gn ga gw => ∃ k : Nat, ∃ st : List T, ∃ Aa : Option Addr, ∃ ca : Nat, ∃ Ao : Option Addr, ∃ co : Nat, (Reg ga 73 [(1000000, .bool false), (12, .slice tA t.length tc), (13, .int .i64 ((t.length : Nat) : Int)), (14, .int .i64 ((k : Nat) : Int)), (4, .slice Aa ((allTs 0 st).length) ca), (5, .slice Ao ((meas 0 st).length) co)]) ∧ (St w0 Z none_ gw [.row Aa ((allTs 0 st).length) ca 126 2 (encMs (allTs 0 st)), .row Ao ((meas 0 st).length) co 126 2 (encMs (meas 0 st))] [dShapes, dRow 4 tA t.length tc (encNs t)]) ∧ (k ≤ t.length) ∧ (scanT [] (t.take k) = some st) ∧ (t.length - k) = gn) _ ⟨0, [], none, 0, none, 0, (i0.sub (rc4 (rc rfl (rc rfl rnl)))), b0, by omega, rfl, rfl⟩ ?_
 rintro b0 i0 h0 ⟨k, st, Aa, ca, Ao, co, c0, d0, hk, hsc, j0⟩
 have hfl := scan_flats hsc hk
 have hml := meas_length 0 st
 have hal := allTs_length 0 st
 have hsl := flats_len_ge st
 refine wsc fun j0 h0 => lR c0 fun j0 i0 => ?_
 refine wn h0 <| wp_seq_k fun h0 j0 => ?_
 rcases Decidable.em (((k : Nat) : Int) < ((t.length : Nat) : Int)) with h0 | h0
 ·
  refine wct i0 (decide_eq_true h0) fun c0 => ?_
  refine wp_skip <| xn j0 <| wp_seq_k fun j0 b0 => wp_block ?_
  refine wsc fun j0 k0 => mv c0 fun j0 m0 => ?_
  refine ix k (k * 4) m0 (nds_elem (t := t) (k := k) (d0.row (i := 1) rfl).2 (by omega)).some_ fun j0 c0 => ?_
  refine m_loadEN sv c0 rfl rfl rfl (nds_elem (t := t) (k := k) (d0.row (i := 1) rfl).2 (by omega)) Tryz.underlying30 rfl sz30 (by decide) fun j0 m0 => ?_
  refine alc m0 d0 fun j0 c0 n0 o0 p0 => ?_
  refine asg o0 fun c0 j0 => ?_
  refine sto 2 j0 p0 fun c0 o0 m0 q0 => ?_
  refine wn k0 <| wp_seq_k fun k0 o0 => wsc fun k0 c0 => lR m0 fun k0 j0 => ?_
  have k0 := q0.nf
  refine kcl j0 ok126 (right_calls _ _ k0.il (nth t k) (k0.g 0) (hs := (hsm _ (by omega)))) ?_
  rintro j0 q0 ⟨rfl, m0⟩
  have q0 := k0.below m0.below
  refine ⟨_, rfl, fun m0 k0 => ?_⟩
  refine lR k0 fun m0 j0 => ?_
  refine l_join (fun ga gw => Reg ga 73 [(4, .slice Aa ((allTs 0 st).length) ca), (5, .slice Ao ((meas 0 st).length) co), (6, .int .i64 ((k : Nat) : Int)), (7, .pointer (some ⟨n0, 0, none⟩)), (12, .slice tA t.length tc), (13, .int .i64 ((t.length : Nat) : Int)), (14, .int .i64 ((k : Nat) : Int)), (28, .bool ((!(right (nth t k))) || (decide ((((meas 0 st).length : Nat) : Int) < ((many (nth t k) : Nat) : Int))))), (1000000, .bool false)] ∧ St w0 Z none_ gw [.row Aa ((allTs 0 st).length) ca 126 2 (encMs (allTs 0 st)), .row Ao ((meas 0 st).length) co 126 2 (encMs (meas 0 st)), .box n0 30 [.int .i64 (((nth t k).K)), .int .i64 (((nth t k).N)), .int .i64 (((nth t k).M)), .string ((nth t k).S)]] [dShapes, dRow 4 tA t.length tc (encNs t)]) 6 ?_ ?_
  ·
   rcases Bool.eq_false_or_eq_true (right (nth t k)) with m0 | m0
   ·
    have k0 := j0.setb (d := 22) (b := false) rfl (by rw [m0]; rfl)
    refine lR k0 fun p0 t0 => ?_
    have p0 := q0.nf
    refine kcl t0 ok120 (many_calls _ _ p0.il (nth t k) (p0.g 0)) ?_
    rintro t0 k0 ⟨rfl, u0⟩
    have k0 := p0.below u0.below
    refine ⟨_, rfl, fun u0 p0 => ?_⟩
    refine lR p0 fun u0 t0 => ?_
    refine wpList_nil ?_
    exact x_then_n ⟨(t0.sub (rc4 (rc2 (rc rfl (rc (rb rfl (by (simp only [m0, bl]; done))) (rc rfl rnl)))))), k0⟩
   have t0 := j0.setb (d := 22) (b := true) rfl (by rw [m0]; rfl)
   refine lR t0 fun j0 k0 => ?_
   refine wpList_nil ?_
   exact x_then_n ⟨(k0.sub (rc4 (rc2 (rc rfl (rc (rb rfl (by (simp only [m0, bl]; done))) (rc rfl rnl)))))), q0⟩
  rintro k0 m0 ⟨q0, j0⟩
  refine wn c0 ?_
  rcases Bool.eq_false_or_eq_true (((!(right (nth t k))) || (decide ((((meas 0 st).length : Nat) : Int) < ((many (nth t k) : Nat) : Int))))) with c0 | c0
  ·
   have m0 := c0
   try simp only [bz] at m0
   refine wct q0 c0 fun k0 => ?_
   refine wsc fun t0 u0 => lR k0 fun t0 p0 => ?_
   refine wn u0 <| wp_ret <| x_then_r <| x_block_r <| x_then_r <| x_then_r <| x_block_r <| x_then_r <| er2 p0 ?_
   have p0 : measL t = [] := (meas_bad (scan_none hsc (by omega) (push_none (by rcases m0 with h | h; exact .inl h; exact .inr (by omega))))).1
   rw [p0]
   refine ⟨none, 0, ?_, j0.fr, ⟨Nat.le_refl _, RowI.nil _ _ _ _⟩⟩
   exact ret_t2 rfl (ret_b (by exact (meas_bad (scan_none hsc (by omega) (push_none (by rcases m0 with h | h; exact .inl h; exact .inr (by omega))))).2.symm))
  have m0 := or_fl c0
  have p0 := not_f m0
  have p0 := or_fr c0
  have m0 := of_decide_eq_false p0
  refine wcf q0 c0 fun m0 => ?_
  refine wp_skip <| xn o0 <| wsc fun o0 c0 => lR m0 fun o0 q0 => ?_
  have o0 := j0.nf
  refine kcl q0 ok120 (many_calls _ _ o0.il (nth t k) (o0.g 0)) ?_
  rintro q0 j0 ⟨rfl, m0⟩
  have j0 := o0.below m0.below
  refine ⟨_, rfl, fun m0 o0 => ?_⟩
  refine sbi ((((meas 0 st).length : Nat) : Int) - ((many (nth t k) : Nat) : Int)) o0 fun m0 q0 => ?_
  refine aw q0 c0 fun m0 o0 => ?_
  refine wsc fun c0 m0 => mv o0 fun c0 q0 => ?_
  refine bld q0 fun c0 o0 => ?_
  refine alc o0 j0 fun c0 q0 p0 u0 t0 => ?_
  refine sto 3 u0 t0 fun q0 c0 o0 j0 => ?_
  refine wn m0 <| wp_seq_k fun m0 c0 => wsc fun m0 q0 => lR o0 fun m0 t0 => ?_
  have m0 := own_cap (j0.res (i := 1) rfl)
  refine m_sliceV (lo := some (.tmp 37)) (hi := none) (vlo := (some (.int .i64 ((((meas 0 st).length : Nat) : Int) - ((many (nth t k) : Nat) : Int))))) (vhi := none) (kd := .i64) (kd' := .i64) sv t0 rfl rfl rfl rfl rfl (((meas 0 st).length) - (many (nth t k))) (many (nth t k)) (.inl (by (congr 2; omega))) (.inr ⟨rfl, by omega⟩) Tryz.underlying92 sz126 (by omega) (by decide) fun m0 o0 u0 k0 v0 x0 => ?_
  refine lR x0 fun k0 m0 => ?_
  refine wn q0 <| wp_block ?_
  refine wp_loop_ghost (fun gn ga gw => ∃ j : Nat, (Reg ga 73 [(4, .slice Aa ((allTs 0 st).length) ca), (5, .slice Ao ((meas 0 st).length) co), (12, .slice tA t.length tc), (13, .int .i64 ((t.length : Nat) : Int)), (14, .int .i64 ((k : Nat) : Int)), (1000000, .bool false), (8, .int .i64 ((((meas 0 st).length : Nat) : Int) - ((many (nth t k) : Nat) : Int))), (9, .pointer (some ⟨p0, 0, none⟩)), (38, .slice o0 (many (nth t k)) u0), (39, .int .i64 ((many (nth t k) : Nat) : Int)), (40, .int .i64 ((j : Nat) : Int))]) ∧ (St w0 Z none_ gw [.row Aa ((allTs 0 st).length) ca 126 2 (encMs (allTs 0 st)), .row Ao ((meas 0 st).length) co 126 2 (encMs (meas 0 st)), .box n0 30 [.int .i64 (((nth t k).K)), .int .i64 (((nth t k).N)), .int .i64 (((nth t k).M)), .string ((nth t k).S)], .box p0 126 [.int .i64 ((fromQ k (meas 0 st) (((meas 0 st).length) - (many (nth t k))) j)), .int .i64 ((deepQ (meas 0 st) (((meas 0 st).length) - (many (nth t k))) j))]] [dShapes, dRow 4 tA t.length tc (encNs t)]) ∧ (j ≤ many (nth t k)) ∧ (many (nth t k) - j) = gn) _ ⟨0, (m0.sub (rc4 (rc4 (rc2 (rc rfl rnl))))), j0, by omega, rfl⟩ ?_
  rintro m0 j0 q0 ⟨j, k0, x0, hj, t0⟩
  obtain ⟨t0, q0⟩ := deepQ_le (st := st) (b := ((meas 0 st).length) - (many (nth t k))) (q := j)
  obtain ⟨q0, t0⟩ := meas_deep_le (st := st) (i := (((meas 0 st).length) - (many (nth t k))) + j)
  refine wsc fun t0 q0 => lR k0 fun t0 j0 => ?_
  refine wn q0 <| wp_seq_k fun q0 t0 => ?_
  rcases Decidable.em (((j : Nat) : Int) < ((many (nth t k) : Nat) : Int)) with q0 | q0
  ·
   refine wct j0 (decide_eq_true q0) fun k0 => ?_
   refine wp_skip <| xn t0 <| wp_seq_k fun t0 m0 => wp_block ?_
   refine wsc fun t0 y0 => mv k0 fun t0 z0 => ?_
   refine ix j (j * 2) z0 (Cut.elem v0 (by omega) (own_ms (t := meas 0 st) (k := (((meas 0 st).length) - (many (nth t k))) + j) (x0.res (i := 1) rfl) (by omega))).some_ fun t0 k0 => ?_
   refine m_loadEN sv k0 rfl rfl rfl (Cut.elem v0 (by omega) (own_ms (t := meas 0 st) (k := (((meas 0 st).length) - (many (nth t k))) + j) (x0.res (i := 1) rfl) (by omega))) Tryz.underlying126 rfl sz126 (by decide) fun t0 z0 => ?_
   refine alc z0 x0 fun t0 k0 v0 b1 c1 => ?_
   refine asg b1 fun k0 t0 => ?_
   refine sto 4 t0 c1 fun k0 b1 z0 f1 => ?_
   refine wn y0 <| c_join (fun ga gw => Reg ga 73 [(4, .slice Aa ((allTs 0 st).length) ca), (5, .slice Ao ((meas 0 st).length) co), (8, .int .i64 ((((meas 0 st).length : Nat) : Int) - ((many (nth t k) : Nat) : Int))), (9, .pointer (some ⟨p0, 0, none⟩)), (11, .pointer (some ⟨v0, 0, none⟩)), (12, .slice tA t.length tc), (13, .int .i64 ((t.length : Nat) : Int)), (14, .int .i64 ((k : Nat) : Int)), (38, .slice o0 (many (nth t k)) u0), (39, .int .i64 ((many (nth t k) : Nat) : Int)), (40, .int .i64 ((j : Nat) : Int)), (1000000, .bool false)] ∧ St w0 Z none_ gw [.row Aa ((allTs 0 st).length) ca 126 2 (encMs (allTs 0 st)), .row Ao ((meas 0 st).length) co 126 2 (encMs (meas 0 st)), .box n0 30 [.int .i64 (((nth t k).K)), .int .i64 (((nth t k).N)), .int .i64 (((nth t k).M)), .string ((nth t k).S)], .box p0 126 [.int .i64 ((if (((j : Nat) : Int) = 0) then (((nthM (meas 0 st) ((((meas 0 st).length) - (many (nth t k))) + j)).1)) else ((fromQ k (meas 0 st) (((meas 0 st).length) - (many (nth t k))) j)))), .int .i64 ((deepQ (meas 0 st) (((meas 0 st).length) - (many (nth t k))) j))], .box v0 126 [.int .i64 (((nthM (meas 0 st) ((((meas 0 st).length) - (many (nth t k))) + j)).1)), .int .i64 (((nthM (meas 0 st) ((((meas 0 st).length) - (many (nth t k))) + j)).2))]] [dShapes, dRow 4 tA t.length tc (encNs t)]) ?_ ?_
   ·
    refine wsc fun v0 u0 => lR z0 fun v0 o0 => ?_
    refine wn u0 ?_
    rcases Decidable.em (((j : Nat) : Int) = 0) with u0 | u0
    ·
     refine wct o0 (decide_eq_true u0) fun v0 => ?_
     refine c_region ?_
     refine lR v0 fun z0 p0 => ?_
     refine sto 3 p0 f1 fun z0 v0 n0 y0 => ?_
     refine wpList_nil ?_
     have hSj := y0
     exact x_then_n ⟨(n0.sub (rc4 (rc4 (rc2 (rc rfl (rc rfl rnl)))))), by rw [(show (((if (((j : Nat) : Int) = 0) then (((nthM (meas 0 st) ((((meas 0 st).length) - (many (nth t k))) + j)).1)) else ((fromQ k (meas 0 st) (((meas 0 st).length) - (many (nth t k))) j)))) : Int) = (((nthM (meas 0 st) ((((meas 0 st).length) - (many (nth t k))) + j)).1)) by (simp only [decide_eq_true u0, if_pos u0, bl]; done))]; exact hSj⟩
    refine wcf o0 (decide_eq_false u0) fun n0 => ?_
    refine wp_skip ?_
    have hSj := f1
    exact x_then_n ⟨(n0.sub (rc4 (rc4 (rc2 (rc rfl (rc rfl rnl)))))), by rw [(show (((if (((j : Nat) : Int) = 0) then (((nthM (meas 0 st) ((((meas 0 st).length) - (many (nth t k))) + j)).1)) else ((fromQ k (meas 0 st) (((meas 0 st).length) - (many (nth t k))) j)))) : Int) = ((fromQ k (meas 0 st) (((meas 0 st).length) - (many (nth t k))) j)) by (simp only [decide_eq_false u0, if_neg u0, bl]; done))]; exact hSj⟩
   rintro n0 u0 ⟨f1, o0⟩
   refine c_region ?_
   refine lR f1 fun u0 n0 => ?_
   refine adi (((nthM (meas 0 st) ((((meas 0 st).length) - (many (nth t k))) + j)).2) + 1) n0 fun u0 f1 => ?_
   refine r_max sv f1 rfl rfl rfl rfl rfl (by decide) fun u0 n0 => ?_
   refine lR n0 fun u0 f1 => ?_
   refine sto 3 f1 o0 fun u0 n0 y0 v0 => ?_
   refine wpList_nil ?_
   refine x_block_n <| xn m0 <| c_region ?_
   refine adi ((j + 1 : Nat) : Int) y0 fun m0 n0 => ?_
   refine mv n0 fun m0 y0 => ?_
   refine wpList_nil ?_
   have m0 : ((if (((j : Nat) : Int) = 0) then (((nthM (meas 0 st) ((((meas 0 st).length) - (many (nth t k))) + j)).1)) else ((fromQ k (meas 0 st) (((meas 0 st).length) - (many (nth t k))) j)))) = ((fromQ k (meas 0 st) (((meas 0 st).length) - (many (nth t k))) (j + 1))) := by unfold fromQ; (repeat' split) <;> first | rfl | omega | (congr 2; omega) | (congr 3; omega)
   have n0 := v0
   rw [m0] at n0
   have m0 : ((max ((deepQ (meas 0 st) (((meas 0 st).length) - (many (nth t k))) j)) (((nthM (meas 0 st) ((((meas 0 st).length) - (many (nth t k))) + j)).2) + 1))) = ((deepQ (meas 0 st) (((meas 0 st).length) - (many (nth t k))) (j + 1))) := rfl
   have v0 := n0
   rw [m0] at v0
   have m0 := v0.erase 4
   exact ⟨_, by omega, j + 1, (y0.sub (rc4 (rc4 (rc2 (rc rfl rnl))))), m0, by omega, rfl⟩
  refine wcf j0 (decide_eq_false q0) fun m0 => ?_
  refine wp_exit ?_
  refine x_then_e ?_
  refine x_then_e ?_
  refine x_block_eq ?_
  refine xn c0 <| wp_seq_k fun c0 q0 => ?_
  obtain ⟨c0, j0, y0⟩ := x0.agree
  refine d_reg3 (n := 7) y0 2 (pB 3 0 pn) (pan_then (pan_block (pan_then (pan_then (pan_block (pan_then pan_body)))))) fun j0 c0 x0 v0 n0 u0 => ?_
  refine dR [0, 1] m0 fun v0 j0 => ?_
  refine dt 2 rfl c0 j0 (want_n rfl) (fun x hx => m_sliceP (q := ((meas 0 st).length) - (many (nth t k))) (sy j0) j0 rfl rfl rfl rfl (by omega) Tryz.underlying92 sz126 (by omega) (by decide) gt) u0 fun v0 m0 => ?_
  refine dt 3 rfl c0 m0 (want_n rfl) (fun x hx => m_loadCN (sy m0) m0 rfl rfl rfl (CellsAt.cons_ (hx.c 0) (CellsAt.cons_ (hx.c 1) (CellsAt.nil _ _))) Tryz.underlying126 rfl sz126 (by decide) gt) u0 fun v0 j0 => ?_
  refine d1 4 ?_
  refine bsl j0 n0 fun v0 m0 u0 c0 y0 => ?_
  have u0 := sWI y0 2 (pB 3 0 pn)
  refine ⟨u0, ?_⟩
  refine d1 5 ?_
  refine m_appendC (f := encM) (i := 1) (meas 0 st) ([(((fromQ k (meas 0 st) (((meas 0 st).length) - (many (nth t k))) j)), ((deepQ (meas 0 st) (((meas 0 st).length) - (many (nth t k))) j)))]) (st_opV rfl (want_n rfl)) c0 y0 rfl rfl rfl rfl rfl (by omega) encM_len (encM_one _) Tryz.underlying92 zi126 rfl rfl (own_lnews (f := encM) (y0.res (i := 4) rfl)) rfl (by (simp only [List.length_cons, List.length_nil]; omega)) (by decide) fun u0 m0 v0 j0 n0 f1 o0 => ?_
  have n0 : ((meas 0 st).take (((meas 0 st).length) - (many (nth t k))) ++ ([(((fromQ k (meas 0 st) (((meas 0 st).length) - (many (nth t k))) j)), ((deepQ (meas 0 st) (((meas 0 st).length) - (many (nth t k))) j)))]) : List (Int × Int)).length = ((meas 0 st).length + 1) - (many (nth t k)) := by (simp only [List.length_append, List.length_take, List.length_cons, List.length_nil]; omega)
  have n0 := o0.erase 4
  have o0 := sWI n0 2 (pB 3 0 pn)
  refine ⟨o0, ?_⟩
  refine dR [6] f1 fun o0 m0 => ?_
  refine wpAnyH_done (by kernel_rfl) (x0 _ _ ?_) _
  refine xn q0 <| c_region ?_
  refine lR m0 fun q0 x0 => ?_
  refine bsl x0 n0 fun q0 m0 o0 f1 u0 => ?_
  refine m_appendF (f := encM) (i := 0) (allTs 0 st) ([(((fromQ k (meas 0 st) (((meas 0 st).length) - (many (nth t k))) j)), ((deepQ (meas 0 st) (((meas 0 st).length) - (many (nth t k))) j)))]) sv f1 u0 rfl rfl rfl rfl rfl encM_len (encM_one _) Tryz.underlying92 zi126 rfl rfl (own_lnews (f := encM) (u0.res (i := 4) rfl)) rfl (by (simp only [List.length_cons, List.length_nil]; omega)) (by decide) fun o0 m0 q0 x0 n0 y0 c0 => ?_
  have n0 : ((allTs 0 st) ++ ([(((fromQ k (meas 0 st) (((meas 0 st).length) - (many (nth t k))) j)), ((deepQ (meas 0 st) (((meas 0 st).length) - (many (nth t k))) j)))]) : List (Int × Int)).length = (allTs 0 st).length + 1 := by (simp only [List.length_append, List.length_take, List.length_cons, List.length_nil]; done)
  have n0 := c0.erase 4
  refine asg y0 fun c0 m0 => ?_
  refine wpList_nil ?_
  refine x_block_n <| xn b0 <| c_region ?_
  refine adi ((k + 1 : Nat) : Int) m0 fun b0 c0 => ?_
  refine mv c0 fun b0 m0 => ?_
  refine wpList_nil ?_
  obtain ⟨st', hp, hpl⟩ := push_some (st := st) (n := nth t k) (by assumption) (by omega)
  obtain ⟨hm1, hm2⟩ := push_meas hp hfl
  have hjq : j = many (nth t k) := by omega
  have b0 : (allTs 0 st) ++ ([(((fromQ k (meas 0 st) (((meas 0 st).length) - (many (nth t k))) j)), ((deepQ (meas 0 st) (((meas 0 st).length) - (many (nth t k))) j)))]) = allTs 0 st' := by rw [hm2, hjq]; try simp only [meas_length]
  have c0 := m0
  have m0 := n0
  rw [b0] at c0 m0
  have b0 : (meas 0 st).take (((meas 0 st).length) - (many (nth t k))) ++ ([(((fromQ k (meas 0 st) (((meas 0 st).length) - (many (nth t k))) j)), ((deepQ (meas 0 st) (((meas 0 st).length) - (many (nth t k))) j)))]) = meas 0 st' := by rw [hm1, hjq]; try simp only [meas_length]
  have n0 := c0
  have c0 := m0
  rw [b0] at n0 c0
  have b0 := c0.erase 3
  have c0 := b0.erase 2
  have b0 := c0.forget 2
  exact ⟨_, by omega, k + 1, st', q0, x0, v0, j0, (n0.sub (rc4 (rc rfl (rc rfl rnl)))), b0, by omega, (scan_step hsc (by omega)).trans hp, rfl⟩
 refine wcf i0 (decide_eq_false h0) fun b0 => ?_
 refine wp_exit ?_
 refine x_then_e ?_
 refine x_then_e ?_
 refine x_block_eq ?_
 refine xn f0 <| wsc fun f0 h0 => lR b0 fun f0 i0 => ?_
 refine wn h0 <| wp_ret <| er2 i0 ?_
 have i0 : measL t = allTs 0 st := measL_end (by rw [← hsc, List.take_of_length_le (by omega)])
 rw [i0]
 have i0 := d0.pub 0 (dRow 2 Aa ((allTs 0 st).length) ca (encMs (allTs 0 st)))
 refine ⟨Aa, ca, ?_, i0.fr, i0.rx 2⟩
 exact ret_t2 rfl (ret_b (by (rw [measB_end (by rw [← hsc, List.take_of_length_le (by omega)]), meas_length]; done)))
theorem look_calls (w0 : World) (Z : Nat → Prop) (hZ : ∀ k, Z k → k < w0.heap.size) (tA : Option Addr) (tc : Nat) (t : List Nd) (hShp : Shapes w0 Z) (ht : (dRow 4 tA t.length tc (encNs t)).φ w0 Z) (hsm : sml t := by first | assumption | omega | (simp <;> omega)) (hl : t.length ≤ 1000000 := by first | assumption | omega | (simp <;> omega)) :
    Calls Tryz.prog 52 [.slice tA t.length tc].toArray w0 (fun e w' => ∃ (rA0 : Option Addr) (rc0 : Nat), e = .returned (.tuple #[.slice rA0 (lookL t).length rc0, .int .i64 (chk t)]) ∧ Fr none_ w0 w' ∧ (dRow 2 rA0 ((lookL t).length) rc0 (encMs (lookL t))).φ w' (nxt Z w0 w')) := by
 have b0 := s0 (M := none_) hZ (zc (d := dShapes) hShp (zc ht zn))
 refine c_enter Tryz.func52 rfl Tryz.ntmps52 rfl fun c0 d0 => ?_
 refine wsc fun c0 f0 => lR d0 fun c0 h0 => ?_
 refine wn f0 <| wp_seq_k fun f0 c0 => wsc fun f0 d0 => lR h0 fun f0 i0 => ?_
 refine wn d0 ?_
 rcases Decidable.em (4000 < ((t.length : Nat) : Int)) with d0 | d0
 ·
  refine wct i0 (decide_eq_true d0) fun f0 => ?_
  refine wsc fun h0 j0 => lR f0 fun h0 k0 => ?_
  refine wn j0 <| wp_ret <| x_then_r <| er2 k0 ?_
  have k0 : lookL t = [] := lookL_bad (by rw [chk_size (by omega)]; omega)
  rw [k0]
  refine ⟨none, 0, ?_, b0.fr, ⟨Nat.le_refl _, RowI.nil _ _ _ _⟩⟩
  exact ret_t2 rfl (ret_i (by first | exact (chk_size (by omega)).symm))
 refine wcf i0 (decide_eq_false d0) fun k0 => ?_
 refine wp_skip <| xn c0 <| wsc fun c0 d0 => mv k0 fun c0 i0 => ?_
 have c0 := b0.nf
 refine kcl i0 ok87 (measured_calls _ _ c0.il _ _ _ (c0.g 0) (c0.g 1)) ?_
 rintro i0 b0 ⟨k0, j0, rfl, h0, f0⟩
 have b0 := c0.below h0.below
 have h0 := c0.dN b0 f0
 refine ⟨_, rfl, fun b0 f0 => ?_⟩
 refine lR f0 fun b0 c0 => ?_
 refine wn d0 <| wp_seq_k fun d0 b0 => wp_block ?_
 refine wsc fun d0 f0 => lR c0 fun d0 i0 => ?_
 refine wn f0 ?_
 rcases Bool.eq_false_or_eq_true (measB t) with f0 | f0
 ·
  have hpos := measL_pos f0
  have hml := measL_length f0
  refine wcfb i0 rfl (by rw [f0]; rfl) fun d0 => ?_
  refine wsc fun c0 m0 => lR d0 fun c0 n0 => ?_
  refine sbi ((((measL t).length : Nat) : Int) - 1) n0 fun c0 d0 => ?_
  refine ix (((measL t).length) - (1)) ((((measL t).length) - (1)) * 2) d0 (ms_elem (t := measL t) (k := ((measL t).length) - (1)) (h0.row (i := 2) rfl).2 (by omega)).some_ fun c0 n0 => ?_
  refine m_fieldE (j' := (((measL t).length) - (1)) * 2 + 1) sv n0 rfl rfl rfl (ms_elem (t := measL t) (k := ((measL t).length) - (1)) (h0.row (i := 2) rfl).2 (by omega)).some_ Tryz.underlying126 rfl sz3 rfl rfl (by decide) fun c0 d0 => ?_
  refine lde 1 ((((measL t).length) - (1)) * 2) d0 (ms_elem (t := measL t) (k := ((measL t).length) - (1)) (h0.row (i := 2) rfl).2 (by omega)) fun c0 n0 => ?_
  refine lR n0 fun c0 d0 => ?_
  refine wn m0 ?_
  rcases Decidable.em (60 < (((nthM (measL t) (((measL t).length) - (1))).2))) with m0 | m0
  ·
   refine wct d0 (decide_eq_true m0) fun c0 => ?_
   refine wsc fun n0 o0 => lR c0 fun n0 p0 => ?_
   refine wn o0 <| wp_ret <| x_block_r <| x_then_r <| er2 p0 ?_
   have p0 : lookL t = [] := lookL_bad (by (rw [chk_deep (by omega) (by assumption) (by assumption)]; omega))
   rw [p0]
   refine ⟨none, 0, ?_, h0.fr, ⟨Nat.le_refl _, RowI.nil _ _ _ _⟩⟩
   exact ret_t2 rfl (ret_i (by first | exact (chk_deep (by omega) (by assumption) (by assumption)).symm))
  refine wcf d0 (decide_eq_false m0) fun p0 => ?_
  refine wp_skip <| x_block_n <| xn b0 <| wsc fun b0 m0 => lR p0 fun b0 d0 => ?_
  refine wn m0 <| wp_ret <| er2 d0 ?_
  have d0 : lookL t = measL t := lookL_good (chk_good (by omega) (by assumption) (by assumption))
  rw [d0]
  refine ⟨k0, j0, ?_, h0.fr, h0.rx 2⟩
  exact ret_t2 rfl (ret_i (by first | exact (chk_good (by omega) (by assumption) (by assumption)).symm))
 refine wctb i0 rfl (by rw [f0]; rfl) fun j0 => ?_
 refine wsc fun f0 i0 => lR j0 fun f0 k0 => ?_
 refine wn i0 <| wp_ret <| x_block_r <| x_then_r <| er2 k0 ?_
 have k0 : lookL t = [] := lookL_bad (by (rw [chk_form (by omega) (by assumption)]; omega))
 rw [k0]
 refine ⟨none, 0, ?_, h0.fr, ⟨Nat.le_refl _, RowI.nil _ _ _ _⟩⟩
 exact ret_t2 rfl (ret_i (by first | exact (chk_form (by omega) (by assumption)).symm))
theorem check_calls (w0 : World) (Z : Nat → Prop) (hZ : ∀ k, Z k → k < w0.heap.size) (tA : Option Addr) (tc : Nat) (t : List Nd) (hShp : Shapes w0 Z) (ht : (dRow 4 tA t.length tc (encNs t)).φ w0 Z) (hsm : sml t := by first | assumption | omega | (simp <;> omega)) (hl : t.length ≤ 1000000 := by first | assumption | omega | (simp <;> omega)) :
    Calls Tryz.prog 20 [.slice tA t.length tc].toArray w0 (fun e w' => e = .returned (.int .i64 (chk t)) ∧ Fr none_ w0 w') := by
 have b0 := s0 (M := none_) hZ (zc (d := dShapes) hShp (zc ht zn))
 refine c_enter Tryz.func20 rfl Tryz.ntmps20 rfl fun c0 d0 => ?_
 refine wsc fun c0 f0 => aw d0 f0 fun c0 h0 => ?_
 refine wsc fun f0 c0 => mv h0 fun f0 d0 => ?_
 have f0 := b0.nf
 refine kcl d0 ok52 (look_calls _ _ f0.il _ _ _ (f0.g 0) (f0.g 1)) ?_
 rintro d0 b0 ⟨h0, i0, rfl, j0, k0⟩
 have i0 := f0.below j0.below
 have j0 := f0.dN i0 k0
 refine ⟨_, rfl, fun i0 k0 => ?_⟩
 refine lR k0 fun i0 f0 => ?_
 refine wn c0 <| wsc fun c0 i0 => lR f0 fun c0 k0 => ?_
 refine wn i0 <| wp_ret <| er1 k0 ?_
 refine ⟨?_, j0.fr⟩
 exact cre (ret_i (by rfl))
theorem cloneI_calls (w0 : World) (Z : Nat → Prop) (hZ : ∀ k, Z k → k < w0.heap.size) (tA : Option Addr) (tc : Nat) (t : List Int) (ht : (dRow 1 tA t.length tc (encIs t)).φ w0 Z) (hl : t.length ≤ 1000000 := by first | assumption | omega | (simp <;> omega)) :
    Calls Tryz.prog 127 [.slice tA t.length tc].toArray w0 (fun e w' => ∃ (rA0 : Option Addr) (rc0 : Nat), e = .returned (.slice rA0 (t).length rc0) ∧ Fr none_ w0 w' ∧ (dRow 1 rA0 ((t).length) rc0 (encIs t)).φ w' (nxt Z w0 w')) := by
 have b0 := s0 (M := none_) hZ (zc ht zn)
 refine c_enter Tryz.func127 rfl Tryz.ntmps127 rfl fun c0 d0 => ?_
 refine wsc fun c0 f0 => aw d0 f0 fun c0 h0 => ?_
 refine wp_seq_k fun f0 c0 => wsc fun f0 d0 => mv h0 fun f0 i0 => ?_
 refine r_eqlNil sv i0 rfl rfl rfl rfl Tryz.underlying57 (by decide) fun f0 h0 => ?_
 refine wn d0 ?_
 rcases Bool.eq_false_or_eq_true (Option.isNone tA) with d0 | d0
 ·
  refine wct h0 d0 fun f0 => ?_
  refine wsc fun i0 j0 => aw f0 j0 fun i0 k0 => ?_
  refine wp_ret <| x_then_r <| er1 k0 ?_
  have k0 : t = [] := List.eq_nil_of_length_eq_zero (nil_len ht (by assumption))
  rw [k0]
  refine ⟨none, 0, ?_, b0.fr, ⟨Nat.le_refl _, RowI.nil _ _ _ _⟩⟩
  exact cre rfl
 refine wcf h0 d0 fun k0 => ?_
 refine wp_skip <| xn c0 <| wsc fun c0 d0 => bsl k0 b0 fun c0 h0 j0 i0 f0 => ?_
 refine mv i0 fun j0 h0 => ?_
 refine m_appendF (f := encI) (i := 0) ([]) (t) sv h0 f0 rfl rfl rfl rfl rfl encI_len (encI_one _) Tryz.underlying57 zi3 rfl rfl (f0.row (i := 0) rfl).2.news rfl (by (simp only [List.length_cons, List.length_nil]; omega)) (by decide) fun j0 i0 c0 k0 b0 m0 n0 => ?_
 have b0 : (([]) ++ t : List Int).length = t.length := by (simp only [List.length_append, List.length_take, List.length_cons, List.length_nil]; omega)
 refine aw m0 d0 fun b0 i0 => ?_
 refine wp_ret <| er1 i0 ?_
 have i0 : t = ([]) ++ t := by simp
 rw [i0]
 have i0 := n0.pub 0 (dRow 1 c0 ((([]) ++ t : List Int).length) k0 (encIs (([]) ++ t)))
 refine ⟨c0, k0, ?_, i0.fr, i0.rx 1⟩
 exact cre rfl
theorem cloneN_calls (w0 : World) (Z : Nat → Prop) (hZ : ∀ k, Z k → k < w0.heap.size) (tA : Option Addr) (tc : Nat) (t : List Nd) (ht : (dRow 4 tA t.length tc (encNs t)).φ w0 Z) (hl : t.length ≤ 1000000 := by first | assumption | omega | (simp <;> omega)) :
    Calls Tryz.prog 53 [.slice tA t.length tc].toArray w0 (fun e w' => ∃ (rA0 : Option Addr) (rc0 : Nat), e = .returned (.slice rA0 (t).length rc0) ∧ Fr none_ w0 w' ∧ (Res.row rA0 (t).length rc0 30 4 (encNs t)).holds w' ∧ (∀ k, (Res.row rA0 (t).length rc0 30 4 (encNs t)).blk = some k → w0.heap.size ≤ k)) := by
 have b0 := s0 (M := none_) hZ (zc ht zn)
 refine c_enter Tryz.func53 rfl Tryz.ntmps53 rfl fun c0 d0 => ?_
 refine wsc fun c0 f0 => aw d0 f0 fun c0 h0 => ?_
 refine wp_seq_k fun f0 c0 => wsc fun f0 d0 => mv h0 fun f0 i0 => ?_
 refine r_eqlNil sv i0 rfl rfl rfl rfl Tryz.underlying22 (by decide) fun f0 h0 => ?_
 refine wn d0 ?_
 rcases Bool.eq_false_or_eq_true (Option.isNone tA) with d0 | d0
 ·
  refine wct h0 d0 fun f0 => ?_
  refine wsc fun i0 j0 => aw f0 j0 fun i0 k0 => ?_
  refine wp_ret <| x_then_r <| er1 k0 ?_
  have k0 : t = [] := List.eq_nil_of_length_eq_zero (nil_len ht (by assumption))
  rw [k0]
  refine ⟨none, 0, ?_, b0.fr, nil_row1, nil_row2⟩
  exact cre rfl
 refine wcf h0 d0 fun k0 => ?_
 refine wp_skip <| xn c0 <| wsc fun c0 d0 => bsl k0 b0 fun c0 h0 j0 i0 f0 => ?_
 refine mv i0 fun j0 h0 => ?_
 refine m_appendF (f := encN) (i := 0) ([]) (t) sv h0 f0 rfl rfl rfl rfl rfl encN_len (encN_one _) Tryz.underlying22 zi30 rfl rfl (f0.row (i := 0) rfl).2.news rfl (by (simp only [List.length_cons, List.length_nil]; omega)) (by decide) fun j0 i0 c0 k0 b0 m0 n0 => ?_
 have b0 : (([]) ++ t : List Nd).length = t.length := by (simp only [List.length_append, List.length_take, List.length_cons, List.length_nil]; omega)
 refine aw m0 d0 fun b0 i0 => ?_
 refine wp_ret <| er1 i0 ?_
 have i0 : t = ([]) ++ t := by simp
 rw [i0]
 refine ⟨c0, k0, ?_, n0.fr, (n0.res (i := 0) rfl), (n0.fresh (i := 0) rfl)⟩
 exact cre rfl
theorem heavy18_calls (w0 : World) (Z : Nat → Prop) (hZ : ∀ k, Z k → k < w0.heap.size) (tA : Option Addr) (tc : Nat) (t : List Nd) (ht : (dRow 4 tA t.length tc (encNs t)).φ w0 Z) :
    Calls Tryz.prog 15 [.slice tA t.length tc].toArray w0 (fun e w' => e = .returned (.bool (heavyB 80 t)) ∧ Fr none_ w0 w') := by
 have b0 := s0 (M := none_) hZ (zc ht zn)
 refine c_enter Tryz.func15 rfl Tryz.ntmps15 rfl fun c0 d0 => ?_
 refine wsc fun c0 f0 => aw d0 f0 fun c0 h0 => ?_
 refine wp_seq_k fun f0 c0 => wsc fun f0 d0 => lR h0 fun f0 i0 => ?_
 refine wn d0 ?_
 rcases Decidable.em (80 < ((t.length : Nat) : Int)) with d0 | d0
 ·
  refine wct i0 (decide_eq_true d0) fun f0 => ?_
  refine wsc fun h0 j0 => aw f0 j0 fun h0 k0 => ?_
  refine wp_ret <| x_then_r <| er1 k0 ?_
  refine ⟨?_, b0.fr⟩
  exact cre (ret_b (by exact (heavy_len (by omega)).symm))
 refine wcf i0 (decide_eq_false d0) fun k0 => ?_
 refine wp_skip <| xn c0 <| wp_seq_k fun c0 d0 => wsc fun c0 i0 => aw k0 i0 fun c0 j0 => ?_
 refine wp_block ?_
 refine wp_loop_ghost (fun gn ga gw => ∃ k : Nat, (Reg ga 20 [(1000000, .bool false), (0, .slice tA t.length tc), (3, .int .i64 ((k : Nat) : Int))]) ∧ (St w0 Z none_ gw [] [dRow 4 tA t.length tc (encNs t)]) ∧ (k ≤ t.length) ∧ (lightTo t k) ∧ (t.length - k) = gn) _ ⟨0, (j0.sub (rc2 (rc rfl rnl))), b0, by omega, (fun _ h => by omega), rfl⟩ ?_
 rintro j0 b0 i0 ⟨k, c0, k0, hk, hi, h0⟩
 refine wp_seq_k fun h0 i0 => wsc fun h0 b0 => lR c0 fun h0 j0 => ?_
 refine wn b0 ?_
 rcases Decidable.em (((k : Nat) : Int) < ((t.length : Nat) : Int)) with b0 | b0
 ·
  refine wct j0 (decide_eq_true b0) fun h0 => ?_
  refine wp_skip <| xn i0 <| wp_seq_k fun i0 c0 => wp_block ?_
  refine wsc fun i0 f0 => lR h0 fun i0 m0 => ?_
  refine ix k (k * 4) m0 (nds_elem (t := t) (k := k) (k0.row (i := 0) rfl).2 (by omega)).some_ fun i0 h0 => ?_
  refine m_fieldE (j' := k * 4 + 3) sv h0 rfl rfl rfl (nds_elem (t := t) (k := k) (k0.row (i := 0) rfl).2 (by omega)).some_ Tryz.underlying30 rfl sz9 rfl rfl (by decide) fun i0 m0 => ?_
  refine lde 3 (k * 4) m0 (nds_elem (t := t) (k := k) (k0.row (i := 0) rfl).2 (by omega)) fun i0 h0 => ?_
  refine lR h0 fun i0 m0 => ?_
  refine wn f0 ?_
  rcases Decidable.em (100 < ((((nth t k).S).size : Nat) : Int)) with f0 | f0
  ·
   refine wct m0 (decide_eq_true f0) fun i0 => ?_
   refine wsc fun h0 n0 => aw i0 n0 fun h0 o0 => ?_
   refine wp_ret <| x_block_r <| x_then_r <| x_then_r <| x_block_r <| x_then_r <| er1 o0 ?_
   refine ⟨?_, k0.fr⟩
   exact cre (ret_b (by exact (heavy_at (k := k) (by omega) (by omega)).symm))
  refine wcf m0 (decide_eq_false f0) fun o0 => ?_
  refine wp_skip <| x_block_n <| xn c0 <| c_region ?_
  refine mv o0 fun c0 f0 => ?_
  refine adi ((k + 1 : Nat) : Int) f0 fun c0 o0 => ?_
  refine asg o0 fun c0 f0 => ?_
  refine wpList_nil ?_
  exact ⟨_, by omega, k + 1, (f0.sub (rc2 (rc rfl rnl))), k0, by omega, light_step hi (by omega), rfl⟩
 refine wcf j0 (decide_eq_false b0) fun f0 => ?_
 refine wp_exit ?_
 refine x_then_e ?_
 refine x_then_e ?_
 refine x_block_eq ?_
 refine xn d0 <| wsc fun d0 b0 => aw f0 b0 fun d0 j0 => ?_
 refine wp_ret <| er1 j0 ?_
 refine ⟨?_, k0.fr⟩
 exact cre (ret_b (by exact (heavy_no hi (by omega) (by omega)).symm))
theorem great18_calls (w0 : World) (Z : Nat → Prop) (hZ : ∀ k, Z k → k < w0.heap.size) (x : Int)  :
    Calls Tryz.prog 18 [.int .i64 x].toArray w0 (fun e w' => e = .returned (.bool (grB x)) ∧ Fr none_ w0 w') := by
 have b0 := s0 (M := none_) hZ zn
 refine c_enter Tryz.func18 rfl Tryz.ntmps18 rfl fun c0 d0 => ?_
 refine wsc fun c0 f0 => aw d0 f0 fun c0 h0 => ?_
 refine wsc fun f0 c0 => lR h0 fun f0 d0 => ?_
 refine lOr 2 (decide ((x) = 21)) d0 fun f0 h0 => ?_
 refine mv h0 fun f0 d0 => ?_
 refine lOr 2 (decide ((x) = 22)) d0 fun f0 h0 => ?_
 refine aw h0 c0 fun f0 d0 => ?_
 refine wp_ret <| er1 d0 ?_
 refine ⟨?_, b0.fr⟩
 exact cre (ret_b (by rfl))
theorem mark_calls (w0 : World) (Z : Nat → Prop) (hZ : ∀ k, Z k → k < w0.heap.size) (b : Bool) (n : Int)  :
    Calls Tryz.prog 58 [.bool b, .int .i64 n].toArray w0 (fun e w' => e = .returned (.int .i64 (mkI b n)) ∧ Fr none_ w0 w') := by
 have b0 := s0 (M := none_) hZ zn
 refine c_enter Tryz.func58 rfl Tryz.ntmps58 rfl fun c0 d0 => ?_
 refine wsc fun c0 f0 => aw d0 f0 fun c0 h0 => ?_
 refine wp_seq_k fun f0 c0 => wsc fun f0 d0 => mv h0 fun f0 i0 => ?_
 refine wn d0 ?_
 rcases Bool.eq_false_or_eq_true (b) with d0 | d0
 ·
  refine wct i0 d0 fun f0 => ?_
  refine wsc fun h0 j0 => lR f0 fun h0 k0 => ?_
  refine wn j0 <| wp_ret <| x_then_r <| er1 k0 ?_
  refine ⟨?_, b0.fr⟩
  exact cre (ret_i (by (unfold mkI; simp [d0])))
 refine wcf i0 d0 fun k0 => ?_
 refine wp_skip <| xn c0 <| wsc fun c0 i0 => aw k0 i0 fun c0 j0 => ?_
 refine wp_ret <| er1 j0 ?_
 refine ⟨?_, b0.fr⟩
 exact cre (ret_i (by (unfold mkI; simp [d0])))
theorem ment1_calls (w0 : World) (Z : Nat → Prop) (hZ : ∀ k, Z k → k < w0.heap.size) (n : Nd) (qg : Nat) (qs : ByteArray) (hqQ : (dBox qg [.string qs]).φ w0 Z) :
    Calls Tryz.prog 125 [.agg #[.int .i64 (n.K), .int .i64 (n.N), .int .i64 (n.M), .string n.S], .pointer (some ⟨qg, 0, none⟩)].toArray w0 (fun e w' => e = .returned (.bool (meN qs n)) ∧ Fr none_ w0 w') := by
 have b0 := s0 (M := none_) hZ (zc hqQ zn)
 refine c_enter Tryz.func125 rfl Tryz.ntmps125 rfl fun c0 d0 => ?_
 refine wsc fun c0 f0 => bxx d0 b0 fun c0 h0 i0 j0 k0 => ?_
 refine aw j0 f0 fun h0 c0 => ?_
 refine wsc fun f0 h0 => lR c0 fun f0 j0 => ?_
 refine m_loadC sv j0 rfl rfl rfl (dbox_cell (k0.get (i := 0) rfl) rfl) Tryz.underlying9 rfl (by decide) fun f0 c0 => ?_
 refine lR c0 fun f0 j0 => ?_
 refine l_join (fun ga gw => Reg ga 23 [(3, .bool false), (22, .bool ((decide (n.S = qs)) && ((decide ((n.K) = 25)) || ((decide ((n.K) = 26)) || (decide ((n.K) = 27)))))), (1000000, .bool false)] ∧ St w0 Z none_ gw [.box i0 30 [.int .i64 (n.K), .int .i64 (n.N), .int .i64 (n.M), .string n.S]] [dBox qg [.string qs]]) 14 ?_ ?_
 ·
  rcases Decidable.em (n.S = qs) with i0 | i0
  ·
   have f0 := j0.setb (d := 8) (b := true) rfl (decide_eq_true i0)
   refine lR f0 fun c0 d0 => ?_
   rcases Decidable.em ((n.K) = 25) with c0 | c0
   ·
    have f0 := d0.setb (d := 12) (b := true) rfl (decide_eq_true c0)
    refine lR f0 fun b0 m0 => ?_
    refine wpList_nil ?_
    exact x_then_n ⟨(m0.sub (rc rfl (rc (rb rfl (by (simp only [decide_eq_true i0, if_pos i0, decide_eq_true c0, if_pos c0, bl]; done))) (rc rfl rnl)))), k0⟩
   have m0 := d0.setb (d := 12) (b := false) rfl (decide_eq_false c0)
   refine lR m0 fun d0 b0 => ?_
   rcases Decidable.em ((n.K) = 26) with d0 | d0
   ·
    have m0 := b0.setb (d := 17) (b := true) rfl (decide_eq_true d0)
    refine lR m0 fun f0 n0 => ?_
    refine wpList_nil ?_
    exact x_then_n ⟨(n0.sub (rc rfl (rc (rb rfl (by (simp only [decide_eq_true i0, if_pos i0, decide_eq_false c0, if_neg c0, decide_eq_true d0, if_pos d0, bl]; done))) (rc rfl rnl)))), k0⟩
   have n0 := b0.setb (d := 17) (b := false) rfl (decide_eq_false d0)
   refine lR n0 fun b0 f0 => ?_
   refine wpList_nil ?_
   exact x_then_n ⟨(f0.sub (rc rfl (rc (rb rfl (by (simp only [decide_eq_true i0, if_pos i0, decide_eq_false c0, if_neg c0, decide_eq_false d0, if_neg d0, bl]; done))) (rc rfl rnl)))), k0⟩
  have f0 := j0.setb (d := 8) (b := false) rfl (decide_eq_false i0)
  refine lR f0 fun j0 d0 => ?_
  refine wpList_nil ?_
  exact x_then_n ⟨(d0.sub (rc rfl (rc (rb rfl (by (simp only [decide_eq_false i0, if_neg i0, bl]; done))) (rc rfl rnl)))), k0⟩
 rintro d0 i0 ⟨k0, j0⟩
 refine aw k0 h0 fun i0 d0 => ?_
 refine wp_ret <| er1 d0 ?_
 refine ⟨?_, j0.fr⟩
 exact cre (ret_b (by rfl))
theorem indexM_calls (w0 : World) (Z : Nat → Prop) (hZ : ∀ k, Z k → k < w0.heap.size) (tA : Option Addr) (tc : Nat) (t : List Nd) (fpg : Nat) (fps : ByteArray) (ht : (dRow 4 tA t.length tc (encNs t)).φ w0 Z) (hfpQ : (dBox fpg [.string fps]).φ w0 Z) (hl : t.length ≤ 1000000 := by first | assumption | omega | (simp <;> omega)) :
    Calls Tryz.prog 146 [.slice tA t.length tc, .func (.func 125) #[] #[.pointer (some ⟨fpg, 0, none⟩)]].toArray w0 (fun e w' => e = .returned (.int .i64 (ixF (meN fps) t)) ∧ Fr none_ w0 w') := by
 have b0 := s0 (M := none_) hZ (zc ht (zc hfpQ zn))
 refine c_enter Tryz.func146 rfl Tryz.ntmps146 rfl fun c0 d0 => ?_
 refine wsc fun c0 f0 => aw d0 f0 fun c0 h0 => ?_
 refine wp_seq_k fun f0 c0 => wsc fun f0 d0 => lR h0 fun f0 i0 => ?_
 refine wn d0 <| wp_block ?_
 refine wp_loop_ghost (fun gn ga gw => ∃ k : Nat, (Reg ga 19 [(1000000, .bool false), (0, .slice tA t.length tc), (1, .func (.func 125) #[] #[.pointer (some ⟨fpg, 0, none⟩)]), (7, .int .i64 ((t.length : Nat) : Int)), (8, .int .i64 ((k : Nat) : Int))]) ∧ (St w0 Z none_ gw [] [dRow 4 tA t.length tc (encNs t), dBox fpg [.string fps]]) ∧ (k ≤ t.length) ∧ (∀ i, i < k → meN fps (t.getD i ndz) = false) ∧ (t.length - k) = gn) _ ⟨0, (i0.sub (rc4 (rc rfl rnl))), b0, by omega, (fun _ h => by omega), rfl⟩ ?_
 rintro i0 b0 d0 ⟨k, f0, h0, hk, hi, j0⟩
 refine wsc fun j0 d0 => lR f0 fun j0 b0 => ?_
 refine wn d0 <| wp_seq_k fun d0 j0 => ?_
 rcases Decidable.em (((k : Nat) : Int) < ((t.length : Nat) : Int)) with d0 | d0
 ·
  refine wct b0 (decide_eq_true d0) fun f0 => ?_
  refine wp_skip <| xn j0 <| wp_seq_k fun j0 i0 => wp_block ?_
  refine wsc fun j0 k0 => lR f0 fun j0 m0 => ?_
  refine wn k0 <| wsc fun k0 j0 => lR m0 fun k0 f0 => ?_
  refine ix k (k * 4) f0 (nds_elem (t := t) (k := k) (h0.row (i := 0) rfl).2 (by omega)).some_ fun k0 m0 => ?_
  refine m_loadEN sv m0 rfl rfl rfl (nds_elem (t := t) (k := k) (h0.row (i := 0) rfl).2 (by omega)) Tryz.underlying30 rfl sz30 (by decide) fun k0 f0 => ?_
  have k0 := h0.nf
  refine k_callV (xs := [.tmp 15]) se f0 rfl rfl rfl rfl (by decide) ok125 (ment1_calls _ _ k0.il (nth t k) fpg fps (k0.g 1)) ?_
  rintro f0 m0 ⟨rfl, n0⟩
  have m0 := k0.below n0.below
  refine ⟨_, rfl, fun n0 k0 => ?_⟩
  refine wn j0 ?_
  rcases Bool.eq_false_or_eq_true (meN fps (nth t k)) with j0 | j0
  ·
   refine wct k0 j0 fun n0 => ?_
   refine wsc fun f0 o0 => lR n0 fun f0 p0 => ?_
   refine wn o0 <| wp_ret <| x_block_r <| x_then_r <| x_then_r <| x_block_r <| x_then_r <| er1 p0 ?_
   refine ⟨?_, m0.fr⟩
   exact cre (ret_i (by exact (ixF_at (z := ndz) (by omega) hi (by have q := j0; simpa [nth] using q)).symm))
  refine wcf k0 j0 fun p0 => ?_
  refine wp_skip <| x_block_n <| xn i0 <| c_region ?_
  refine adi ((k + 1 : Nat) : Int) p0 fun i0 k0 => ?_
  refine mv k0 fun i0 p0 => ?_
  refine wpList_nil ?_
  exact ⟨_, by omega, k + 1, (p0.sub (rc4 (rc rfl rnl))), m0, by omega, ix_more hi (by have q := j0; simpa [nth] using q), rfl⟩
 refine wcf b0 (decide_eq_false d0) fun p0 => ?_
 refine wp_exit ?_
 refine x_then_e ?_
 refine x_then_e ?_
 refine x_block_eq ?_
 refine xn c0 <| wsc fun c0 d0 => aw p0 d0 fun c0 b0 => ?_
 refine wp_ret <| er1 b0 ?_
 refine ⟨?_, h0.fr⟩
 exact cre (ret_i (by exact (ixF_no (z := ndz) (fun i h => hi i (by omega))).symm))
theorem containsM_calls (w0 : World) (Z : Nat → Prop) (hZ : ∀ k, Z k → k < w0.heap.size) (tA : Option Addr) (tc : Nat) (t : List Nd) (fpg : Nat) (fps : ByteArray) (ht : (dRow 4 tA t.length tc (encNs t)).φ w0 Z) (hfpQ : (dBox fpg [.string fps]).φ w0 Z) (hl : t.length ≤ 1000000 := by first | assumption | omega | (simp <;> omega)) :
    Calls Tryz.prog 124 [.slice tA t.length tc, .func (.func 125) #[] #[.pointer (some ⟨fpg, 0, none⟩)]].toArray w0 (fun e w' => e = .returned (.bool (t.any (meN fps))) ∧ Fr none_ w0 w') := by
 have b0 := s0 (M := none_) hZ (zc ht (zc hfpQ zn))
 refine c_enter Tryz.func124 rfl Tryz.ntmps124 rfl fun c0 d0 => ?_
 refine wsc fun c0 f0 => aw d0 f0 fun c0 h0 => ?_
 refine wsc fun f0 c0 => lR h0 fun f0 d0 => ?_
 have f0 := b0.nf
 refine kcl d0 ok146 (indexM_calls _ _ f0.il _ _ _ fpg fps (f0.g 0) (f0.g 1)) ?_
 rintro d0 b0 ⟨rfl, h0⟩
 have b0 := f0.below h0.below
 refine ⟨_, rfl, fun h0 f0 => ?_⟩
 refine lR f0 fun h0 d0 => ?_
 refine wn c0 <| wp_ret <| er1 d0 ?_
 refine ⟨?_, b0.fr⟩
 exact cre (ret_b (by exact ixF_any _ _))
theorem ment_calls (w0 : World) (Z : Nat → Prop) (hZ : ∀ k, Z k → k < w0.heap.size) (tA : Option Addr) (tc : Nat) (t : List Nd) (q : ByteArray) (ht : (dRow 4 tA t.length tc (encNs t)).φ w0 Z) (hl : t.length ≤ 1000000 := by first | assumption | omega | (simp <;> omega)) :
    Calls Tryz.prog 86 [.slice tA t.length tc, .string q].toArray w0 (fun e w' => e = .returned (.bool (t.any (meN q))) ∧ Fr none_ w0 w') := by
 have b0 := s0 (M := none_) hZ (zc ht zn)
 refine c_enter Tryz.func86 rfl Tryz.ntmps86 rfl fun c0 d0 => ?_
 refine wsc fun c0 f0 => bxx d0 b0 fun c0 h0 i0 j0 k0 => ?_
 refine aw j0 f0 fun h0 c0 => ?_
 refine wsc fun f0 h0 => mv c0 fun f0 j0 => ?_
 refine r_makeFunc sv j0 rfl rfl rfl (by decide) fun f0 c0 => ?_
 have f0 := k0.nf
 obtain ⟨k0, j0⟩ := f0.box_data (i := 0) rfl (fun _ h => h)
 have f0 := k0.data (dBox i0 [.string q]) j0
 refine kcl c0 ok124 (containsM_calls _ _ f0.il _ _ _ i0 q (f0.g 0) (f0.g 1)) ?_
 rintro c0 i0 ⟨rfl, j0⟩
 have i0 := f0.below j0.below
 refine ⟨_, rfl, fun j0 f0 => ?_⟩
 refine aw f0 h0 fun j0 c0 => ?_
 refine wp_ret <| er1 c0 ?_
 refine ⟨?_, i0.fr⟩
 exact cre (ret_b (by rfl))
theorem dchk1_calls (w0 : World) (Z : Nat → Prop) (hZ : ∀ k, Z k → k < w0.heap.size) (tA : Option Addr) (tc : Nat) (t : List Sl) (ht : (dRow 1 tA t.length tc (encSs t)).φ w0 Z) (hts : (dAll t).φ w0 Z) :
    Calls Tryz.prog 78 [.slice tA t.length tc].toArray w0 (fun e w' => e = .returned (.bool (decide (6 < t.length))) ∧ Fr none_ w0 w') := by
 have b0 := s0 (M := none_) hZ (zc ht (zc hts zn))
 refine c_enter Tryz.func78 rfl Tryz.ntmps78 rfl fun c0 d0 => ?_
 refine wsc fun c0 f0 => aw d0 f0 fun c0 h0 => ?_
 refine wsc fun f0 c0 => lR h0 fun f0 d0 => ?_
 refine wn c0 <| wp_ret <| er1 d0 ?_
 refine ⟨?_, b0.fr⟩
 exact cre (ret_b (by (simp [] <;> omega)))
theorem indexC_calls (w0 : World) (Z : Nat → Prop) (hZ : ∀ k, Z k → k < w0.heap.size) (tA : Option Addr) (tc : Nat) (t : List Tl) (ht : (dRow 1 tA t.length tc (encTs t)).φ w0 Z) (hts : (dAllT t).φ w0 Z) (hl : t.length ≤ 1000000 := by first | assumption | omega | (simp <;> omega)) :
    Calls Tryz.prog 113 [.slice tA t.length tc, .func (.func 78) #[] #[]].toArray w0 (fun e w' => e = .returned (.int .i64 (ixF (fun s : Tl => decide (6 < s.2.2.length)) t)) ∧ Fr none_ w0 w') := by
 have b0 := s0 (M := none_) hZ (zc ht (zc hts zn))
 refine c_enter Tryz.func113 rfl Tryz.ntmps113 rfl fun c0 d0 => ?_
 refine wsc fun c0 f0 => aw d0 f0 fun c0 h0 => ?_
 refine wp_seq_k fun f0 c0 => wsc fun f0 d0 => lR h0 fun f0 i0 => ?_
 refine wn d0 <| wp_block ?_
 refine wp_loop_ghost (fun gn ga gw => ∃ k : Nat, (Reg ga 19 [(1000000, .bool false), (0, .slice tA t.length tc), (1, .func (.func 78) #[] #[]), (7, .int .i64 ((t.length : Nat) : Int)), (8, .int .i64 ((k : Nat) : Int))]) ∧ (St w0 Z none_ gw [] [dRow 1 tA t.length tc (encTs t), dAllT t]) ∧ (k ≤ t.length) ∧ (∀ i, i < k → (fun s : Tl => decide (6 < s.2.2.length)) (t.getD i tlz) = false) ∧ (t.length - k) = gn) _ ⟨0, (i0.sub (rc4 (rc rfl rnl))), b0, by omega, (fun _ h => by omega), rfl⟩ ?_
 rintro i0 b0 d0 ⟨k, f0, h0, hk, hi, j0⟩
 refine wsc fun j0 d0 => lR f0 fun j0 b0 => ?_
 refine wn d0 <| wp_seq_k fun d0 j0 => ?_
 rcases Decidable.em (((k : Nat) : Int) < ((t.length : Nat) : Int)) with d0 | d0
 ·
  refine wct b0 (decide_eq_true d0) fun f0 => ?_
  refine wp_skip <| xn j0 <| wp_seq_k fun j0 i0 => wp_block ?_
  refine wsc fun j0 k0 => lR f0 fun j0 m0 => ?_
  refine wn k0 <| wsc fun k0 j0 => lR m0 fun k0 f0 => ?_
  refine ix k (k * 1) f0 (ts_elem (t := t) (k := k) (h0.row (i := 0) rfl).2 (by omega)).some_ fun k0 m0 => ?_
  refine lde 0 (k * 1) m0 (ts_elem (t := t) (k := k) (h0.row (i := 0) rfl).2 (by omega)) fun k0 f0 => ?_
  have k0 := h0.elT 1 k
  have m0 := k0.elA 1 k
  have k0 := m0.nf
  refine k_callV (xs := [.tmp 15]) se f0 rfl rfl rfl rfl (by decide) ok78 (dchk1_calls _ _ k0.il _ _ ((nthT t k).2.2) (k0.g 2) (k0.g 3)) ?_
  rintro f0 m0 ⟨rfl, n0⟩
  have m0 := k0.below n0.below
  refine ⟨_, rfl, fun n0 k0 => ?_⟩
  refine wn j0 ?_
  rcases Bool.eq_false_or_eq_true (decide (6 < ((nthT t k).2.2).length)) with j0 | j0
  ·
   have n0 := of_decide_eq_true j0
   refine wct k0 j0 fun f0 => ?_
   refine wsc fun o0 p0 => lR f0 fun o0 q0 => ?_
   refine wn p0 <| wp_ret <| x_block_r <| x_then_r <| x_then_r <| x_block_r <| x_then_r <| er1 q0 ?_
   refine ⟨?_, m0.fr⟩
   exact cre (ret_i (by exact (ixF_at (p := (fun s : Tl => decide (6 < s.2.2.length))) (t := t) (k := k) (z := tlz) (by omega) hi (by have q := n0; (try simp at q); exact decide_eq_true (by show 6 < (nthT t k).2.2.length; omega))).symm))
  have n0 := of_decide_eq_false j0
  refine wcf k0 j0 fun q0 => ?_
  refine wp_skip <| x_block_n <| xn i0 <| c_region ?_
  refine adi ((k + 1 : Nat) : Int) q0 fun i0 j0 => ?_
  refine mv j0 fun i0 q0 => ?_
  refine wpList_nil ?_
  have i0 := m0.forget 3
  have m0 := i0.forget 2
  exact ⟨_, by omega, k + 1, (q0.sub (rc4 (rc rfl rnl))), m0, by omega, ix_more (p := (fun s : Tl => decide (6 < s.2.2.length))) (t := t) (k := k) (z := tlz) hi (by have q := n0; (try simp at q); exact decide_eq_false (by show ¬ 6 < (nthT t k).2.2.length; omega)), rfl⟩
 refine wcf b0 (decide_eq_false d0) fun m0 => ?_
 refine wp_exit ?_
 refine x_then_e ?_
 refine x_then_e ?_
 refine x_block_eq ?_
 refine xn c0 <| wsc fun c0 d0 => aw m0 d0 fun c0 b0 => ?_
 refine wp_ret <| er1 b0 ?_
 refine ⟨?_, h0.fr⟩
 exact cre (ret_i (by exact (ixF_no (p := (fun s : Tl => decide (6 < s.2.2.length))) (t := t) (z := tlz) (fun i h => hi i (by omega))).symm))
theorem containsC_calls (w0 : World) (Z : Nat → Prop) (hZ : ∀ k, Z k → k < w0.heap.size) (tA : Option Addr) (tc : Nat) (t : List Tl) (ht : (dRow 1 tA t.length tc (encTs t)).φ w0 Z) (hts : (dAllT t).φ w0 Z) (hl : t.length ≤ 1000000 := by first | assumption | omega | (simp <;> omega)) :
    Calls Tryz.prog 77 [.slice tA t.length tc, .func (.func 78) #[] #[]].toArray w0 (fun e w' => e = .returned (.bool (t.any (fun s : Tl => decide (6 < s.2.2.length)))) ∧ Fr none_ w0 w') := by
 have b0 := s0 (M := none_) hZ (zc ht (zc hts zn))
 refine c_enter Tryz.func77 rfl Tryz.ntmps77 rfl fun c0 d0 => ?_
 refine wsc fun c0 f0 => aw d0 f0 fun c0 h0 => ?_
 refine wsc fun f0 c0 => lR h0 fun f0 d0 => ?_
 have f0 := b0.nf
 refine kcl d0 ok113 (indexC_calls _ _ f0.il _ _ _ (f0.g 0) (f0.g 1)) ?_
 rintro d0 b0 ⟨rfl, h0⟩
 have b0 := f0.below h0.below
 refine ⟨_, rfl, fun h0 f0 => ?_⟩
 refine lR f0 fun h0 d0 => ?_
 refine wn c0 <| wp_ret <| er1 d0 ?_
 refine ⟨?_, b0.fr⟩
 exact cre (ret_b (by exact ixF_any _ _))
end Go.Proofs.YtpfmnpaifchleaaGreatDoor
namespace Go.Proofs.YtpfmnpaifchleaaGreatDoor
set_option linter.unusedSimpArgs false
set_option linter.unusedVariables false
section
/- Maps from numbers to functions: made, looked into. -/
open Go.RowKit Go.MapKept
def dMap (b : Nat) (es : List MapEntry) (c : Nat) : Dat := ⟨fun w I => I b ∧ w.heap[b]? = some (.map es.toArray c), fun _ _ _ _ _ h hk => ⟨(hk b h.1).1, (hk b h.1).2.trans h.2⟩⟩
section
variable {P : Program} {X : Prop} {Next : Act → World → Prop} {o : Oper} {a : Act} {w w1 : World} {N : Nat} {l : List (Nat × Value)} {d : Nat} {t kt et : TypeId} {es : List MapEntry} {c b i : Nat} {z : Int} {u : Value} {x y m : Operand}
end
end
section
/- Maps from texts: made, changed, looked into; the words of the language. -/
open Go Go.RowKit Go.MapKept
section
variable {P : Program} {X : Prop} {Next : Act → World → Prop} {o : Oper} {a : Act} {w w0 : World} {N : Nat} {l : List (Nat × Value)} {d : Nat} {t kt et : TypeId} {es : List MapEntry} {c b i g : Nat} {u : Value} {x y z : Operand} {ks : ByteArray} {Z M : Nat → Prop} {m : List Res} {ds : List Dat}
theorem m_makeMapR (hs : SteV P X Next o a w) (hR : Reg a N l) (hS : St w0 Z M w m ds) (hd : o.dst = some d) (ho : o.op = .makeMap t none) (hdN : d < N)
  (k : ∀ a' w' g, Reg a' N ((d, .map (some g)) :: l) → St w0 Z M w' (m ++ [.mp g [] 0]) ds → Next a' w') : X := by
 refine hs.val (.map (some w.heap.size)) (w.alloc (.map #[] 0)) ?_ (by rw [hd]; exact k _ _ _ (hR.put hdN _) (hS.alloc _ _ (heap_alloc w _).1 rfl))
 unfold execOp; rw [ho]
 simp [Instr.makeMap, Sem.run_bind]
theorem run_mapPut (hb : w.heap[g]? = some (.map es.toArray c)) (ht : P.underlying t = some (.map kt et)) (hkt : P.underlying kt = some .string) (hf : Instr.findNow .string (.string ks) es 0 = some none) :
  (Instr.mapUpdate t (.map (some g)) (.string ks) u).run P w = .ok () { w with heap := w.heap.setIfInBounds g (.map (es ++ [(⟨.string ks, u, c⟩ : MapEntry)]).toArray (c + 1)) } := by
 have hk : IsKey .string (.string ks) := trivial
 simp only [Instr.mapUpdate, Sem.run_bind, run_underlying ht, Result.andThen_ok, Go.MapKept.run_getObj_map hb, run_checkKey hkt hk, run_findKey hkt hf, run_setObj_map _ hb, List.push_toArray]
theorem St.mapPut (hS : St w0 Z M w m ds) (hi : m[i]? = some (.mp g es c)) (es' : List MapEntry) (c' : Nat) : St w0 Z M { w with heap := w.heap.setIfInBounds g (.map es'.toArray c') } (m.set i (.mp g es' c')) ds := by
 have hb : w.heap[g]? = some (.map es.toArray c) := hS.res hi
 have hh := heap_set (o' := Obj.map es'.toArray c') hb
 refine hS.turn hi rfl rfl rfl (by simp) (fun k hk hne => hh.2 k (fun e => hne (by rw [e]; rfl))) hh.1 (fun k hk => ?_)
 have : g = k := by simpa [Res.blk] using hk
 subst this
 exact ⟨by have := (Array.getElem?_eq_some_iff.1 hb).1; simpa using this, .inl rfl⟩
theorem m_insertR (hs : Ste P X Next o a w) (hR : Reg a N l) (hS : St w0 Z M w m ds) (hi : m[i]? = some (.mp g es c)) (hd : o.dst = none) (ho : o.op = .insert t x y z) (hm : ev l x = some (.map (some g))) (hx : ev l y = some (.string ks)) (hy : ev l z = some u)
  (ht : P.underlying t = some (.map kt et)) (hkt : P.underlying kt = some .string) (hf : Instr.findNow .string (.string ks) es 0 = some none)
  (k : ∀ a' w', Reg a' N l → St w0 Z M w' (m.set i (.mp g (es ++ [(⟨.string ks, u, c⟩ : MapEntry)]) (c + 1))) ds → Next a' w') : X := by
 refine hs.skip _ ?_ (by rw [hd]; exact k _ _ (hR.put_none _) (hS.mapPut hi _ _))
 unfold execOp; rw [ho]
 simp only [hR.ev hm, hR.ev hx, hR.ev hy, Sem.run_bind, run_mapPut (hS.res hi) ht hkt hf, Result.andThen_ok, Sem.run_pure]
theorem m_updateR (hs : Ste P X Next o a w) (hR : Reg a N l) (hS : St w0 Z M w m ds) (hi : m[i]? = some (.mp g es c)) (hd : o.dst = none) (ho : o.op = .mapUpdate t x y z) (hm : ev l x = some (.map (some g))) (hx : ev l y = some (.string ks)) (hy : ev l z = some u)
  (ht : P.underlying t = some (.map kt et)) (hkt : P.underlying kt = some .string) (hf : Instr.findNow .string (.string ks) es 0 = some none)
  (k : ∀ a' w', Reg a' N l → St w0 Z M w' (m.set i (.mp g (es ++ [(⟨.string ks, u, c⟩ : MapEntry)]) (c + 1))) ds → Next a' w') : X := by
 refine hs.skip _ ?_ (by rw [hd]; exact k _ _ (hR.put_none _) (hS.mapPut hi _ _))
 unfold execOp; rw [ho]
 simp only [hR.ev hm, hR.ev hx, hR.ev hy, Sem.run_bind, run_mapPut (hS.res hi) ht hkt hf, Result.andThen_ok, Sem.run_pure]
theorem take_put {E : List MapEntry} {n : Nat} {e : MapEntry} (h : E[n]? = some e) : E.take n ++ [e] = E.take (n + 1) := by
 rw [List.take_add_one, h]
 rfl
theorem m_insertT {n : Nat} (E : List MapEntry) (hs : Ste P X Next o a w) (hR : Reg a N l) (hS : St w0 Z M w m ds) (hi : m[i]? = some (.mp g (E.take n) n)) (hd : o.dst = none) (ho : o.op = .insert t x y z) (hm : ev l x = some (.map (some g))) (hx : ev l y = some (.string ks)) (hy : ev l z = some u)
  (ht : P.underlying t = some (.map kt et)) (hkt : P.underlying kt = some .string) (hf : Instr.findNow .string (.string ks) (E.take n) 0 = some none) (hE : E[n]? = some ⟨.string ks, u, n⟩)
  (k : ∀ a' w', Reg a' N l → St w0 Z M w' (m.set i (.mp g (E.take (n + 1)) (n + 1))) ds → Next a' w') : X :=
 m_insertR hs hR hS hi hd ho hm hx hy ht hkt hf (fun a' w' h1 h2 => k a' w' h1 (by rw [take_put hE] at h2; exact h2))
theorem m_updateT {n : Nat} (E : List MapEntry) (hs : Ste P X Next o a w) (hR : Reg a N l) (hS : St w0 Z M w m ds) (hi : m[i]? = some (.mp g (E.take n) n)) (hd : o.dst = none) (ho : o.op = .mapUpdate t x y z) (hm : ev l x = some (.map (some g))) (hx : ev l y = some (.string ks)) (hy : ev l z = some u)
  (ht : P.underlying t = some (.map kt et)) (hkt : P.underlying kt = some .string) (hf : Instr.findNow .string (.string ks) (E.take n) 0 = some none) (hE : E[n]? = some ⟨.string ks, u, n⟩)
  (k : ∀ a' w', Reg a' N l → St w0 Z M w' (m.set i (.mp g (E.take (n + 1)) (n + 1))) ds → Next a' w') : X :=
 m_updateR hs hR hS hi hd ho hm hx hy ht hkt hf (fun a' w' h1 h2 => k a' w' h1 (by rw [take_put hE] at h2; exact h2))
theorem St.mp_as {E E' : List MapEntry} (hS : St w0 Z M w m ds) (i : Nat) (hi : m[i]? = some (.mp g E c)) (h : E = E') : St w0 Z M w (m.set i (.mp g E' c)) ds := by
 subst h
 have : m.set i (.mp g E c) = m := by
  apply List.ext_getElem?
  intro k
  rw [List.getElem?_set]
  split
  ·
   rename_i hk
   subst hk
   rw [if_pos (List.getElem?_eq_some_iff.1 hi).1, hi]
  · rfl
 rw [this]
 exact hS
theorem r_addS {s s' r : ByteArray} {t2 : TypeId} (hs : SteV P X Next o a w) (hR : Reg a N l) (hd : o.dst = some d) (ho : o.op = .binOp .add t x y t2) (hx : ev l x = some (.string s)) (hy : ev l y = some (.string s')) (hr : s ++ s' = r) (hl : s.size + s'.size ≤ 1000000) (hdN : d < N)
  (k : ∀ a', Reg a' N ((d, .string r) :: l) → Next a' w) : X :=
 r_pure hs hR hd hdN (run_str hR ho hx hy (by rw [run_string_add_sum w s s' (by omega), hr])) k
theorem St.mp_data (hS : St w0 Z none_ w m ds) (hi : m[i]? = some (.mp g es c)) : (dMap g es c).φ w (nxt Z w0 w) := by
 have hb : w.heap[g]? = some (.map es.toArray c) := hS.res hi
 refine ⟨⟨(Array.getElem?_eq_some_iff.1 hb).1, fun hlt => ?_⟩, hb⟩
 rcases (hS.own _ (List.mem_of_getElem? hi) g rfl).2 with h | h
 · omega
 · exact h.elim
def keyIs (s : ByteArray) (e : MapEntry) : Bool := match e.key with
 | .string k => decide (s = k)
 | _ => false
def strKey (e : MapEntry) : Bool := match e.key with
 | .string _ => true
 | _ => false
theorem findNow_str (s : ByteArray) : ∀ (es : List MapEntry) (i : Nat), es.all strKey = true → ∃ r, Instr.findNow .string (.string s) es i = some r ∧ r.isSome = es.any (keyIs s) ∧ ∀ j u, r = some (j, u) → ∃ e ∈ es, e.val = u
 | [], i, _ => ⟨none, rfl, rfl, fun _ _ h => by cases h⟩
 | e :: es, i, h => by
  rw [List.all_cons, Bool.and_eq_true] at h
  obtain ⟨h1, h2⟩ := h
  obtain ⟨r, hr1, hr2, hr3⟩ := findNow_str s es (i + 1) h2
  unfold strKey at h1
  cases hk : e.key with
  | string k =>
   by_cases hs : s = k
   ·
    refine ⟨some (i, e.val), ?_, ?_, fun j u hj => ⟨e, by simp, by cases hj; rfl⟩⟩
    ·
     unfold Instr.findNow
     rw [hk]
     have : Instr.sameNow .string (.string s) (.string k) = some true := by
      show some (s == k) = some true
      rw [(bytes_beq s k).2 hs]
     rw [this]
    ·
     rw [List.any_cons]
     unfold keyIs
     rw [hk]
     simp [hs]
   ·
    refine ⟨r, ?_, ?_, fun j u hj => ?_⟩
    ·
     unfold Instr.findNow
     rw [hk]
     have : Instr.sameNow .string (.string s) (.string k) = some false := by
      show some (s == k) = some false
      congr 1
      exact Bool.eq_false_iff.2 (fun h => hs ((bytes_beq s k).1 h))
     rw [this]
     exact hr1
    ·
     rw [List.any_cons, hr2]
     have : keyIs s e = false := by unfold keyIs; rw [hk]; simp [hs]
     rw [this, Bool.false_or]
    ·
     obtain ⟨e', he, hu⟩ := hr3 j u hj
     exact ⟨e', by simp [he], hu⟩
  | _ => rw [hk] at h1; cases h1
def aggN (n : Nat) (v : Value) : Bool := match v with
 | .agg cs => cs.size == n && cs.toList.all Value.oneCell'
 | _ => false
theorem aggN_at {n : Nat} {v : Value} (h : aggN n v = true) : ∃ cs : List Value, v = .agg cs.toArray ∧ cs.length = n ∧ cs.all Value.oneCell' = true := by
 unfold aggN at h
 cases v with
 | agg cs =>
  simp only [Bool.and_eq_true, beq_iff_eq] at h
  exact ⟨cs.toList, by simp, by simpa using h.1, h.2⟩
 | _ => cases h
theorem m_lookupOk {n : Nat} {s : ByteArray} {vz : Value} (hs : SteV P X Next o a w) (hR : Reg a N l) (hd : o.dst = some d) (ho : o.op = .lookup t x y true) (hx : ev l x = some (.map (some b))) (hy : ev l y = some (.string s)) (hb : w.heap[b]? = some (.map es.toArray c))
  (ht : P.underlying t = some (.map kt et)) (hkt : P.underlying kt = some .string) (hz : (P.info? et).map (·.zero) = some (some vz)) (hzn : aggN n vz = true) (hk : es.all strKey = true) (hv : es.all (fun e => aggN n e.val) = true) (hdN : d < N)
  (k : ∀ a' (cs : List Value), cs.length = n → cs.all Value.oneCell' = true → Reg a' N ((d, .tuple #[.agg cs.toArray, .bool (es.any (keyIs s))]) :: l) → Next a' w) : X := by
 obtain ⟨r, hr1, hr2, hr3⟩ := findNow_str s es 0 hk
 have hik : IsKey .string (.string s) := trivial
 have hzv : ∀ w : World, (zeroValue et).run P w = .ok vz w := fun w => by
  cases hq : P.info? et with
  | none => simp [hq] at hz
  | some inf =>
   simp only [hq, Option.map_some, Option.some.injEq] at hz
   simp [zeroValue, typeInfo, Sem.run_bind, hq, hz]
 cases hr : r with
 | none =>
  obtain ⟨cs, hcs, hlen, hone⟩ := aggN_at hzn
  rw [hr] at hr1 hr2
  refine hs.val (.tuple #[.agg cs.toArray, .bool (es.any (keyIs s))]) w ?_ (by rw [hd]; exact k _ cs hlen hone (hR.put hdN _))
  unfold execOp; rw [ho]
  rw [← hr2, ← hcs]
  simp [hR.ev hx, hR.ev hy, Instr.lookup, Sem.run_bind, run_underlying ht, Result.andThen_ok, Go.MapKept.run_getObj_map hb, run_checkKey hkt hik, run_findKey hkt hr1, hzv]
 | some p =>
  obtain ⟨j, v⟩ := p
  obtain ⟨e, he, hu⟩ := hr3 j v hr
  have hvv : aggN n v = true := by rw [← hu]; exact List.all_eq_true.1 hv e he
  obtain ⟨cs, hcs, hlen, hone⟩ := aggN_at hvv
  rw [hr] at hr1 hr2
  refine hs.val (.tuple #[.agg cs.toArray, .bool (es.any (keyIs s))]) w ?_ (by rw [hd]; exact k _ cs hlen hone (hR.put hdN _))
  unfold execOp; rw [ho]
  rw [← hr2, ← hcs]
  simp [hR.ev hx, hR.ev hy, Instr.lookup, Sem.run_bind, run_underlying ht, Result.andThen_ok, Go.MapKept.run_getObj_map hb, run_checkKey hkt hik, run_findKey hkt hr1]
theorem m_storeRaw {n : Nat} {e : TypeId} {cs0 cs : List Value} (hs : Ste P X Next o a w) (hR : Reg a N l) (hS : St w0 Z M w m ds) (hd : o.dst = none) (ho : o.op = .store t x y) (hx : ev l x = some (.pointer (some ⟨g, 0, none⟩))) (hy : ev l y = some (.agg cs.toArray))
  (hi : m[i]? = some (.box g e cs0)) (hsz : (P.info? t).map (·.size) = some n) (hn : cs.length = n) (hone : cs.all Value.oneCell' = true) (h0 : cs0.length = n)
  (k : ∀ a' w', Reg a' N l → St w0 Z M w' ((m.set i (.box g e cs)).eraseIdx i) ds → Next a' w') : X := by
 refine m_store (i := i) (cs := cs0) (cs' := cs) hs hR hS hd ho hx hy hi ?_ ?_ ?_ ?_ (fun a' w' h1 h2 => k a' w' h1 (h2.erase i))
 · rw [hsz]; simp [Value.cells, hn]
 · simpa [Value.cells] using hone
 · simp [Value.cells, hn, h0]
 · simp [Value.cells, hn, h0]
end
def fmM : List MapEntry := [⟨.string ⟨#[84, 121, 112, 101]⟩, .agg #[.int .i64 2, .int .i64 0, .int .i64 0, .string ⟨#[]⟩, .string ⟨#[110]⟩], 0⟩, ⟨.string ⟨#[108, 97, 109]⟩, .agg #[.int .i64 4, .int .i64 0, .int .i64 0, .string ⟨#[]⟩, .string ⟨#[119, 46, 46]⟩], 1⟩, ⟨.string ⟨#[97, 112, 112]⟩, .agg #[.int .i64 5, .int .i64 0, .int .i64 0, .string ⟨#[]⟩, .string ⟨#[46, 46]⟩], 2⟩, ⟨.string ⟨#[112, 97, 105, 114]⟩, .agg #[.int .i64 7, .int .i64 0, .int .i64 0, .string ⟨#[]⟩, .string ⟨#[46, 46, 46]⟩], 3⟩, ⟨.string ⟨#[102, 115, 116]⟩, .agg #[.int .i64 8, .int .i64 0, .int .i64 0, .string ⟨#[]⟩, .string ⟨#[46]⟩], 4⟩, ⟨.string ⟨#[115, 110, 100]⟩, .agg #[.int .i64 9, .int .i64 0, .int .i64 0, .string ⟨#[]⟩, .string ⟨#[46]⟩], 5⟩, ⟨.string ⟨#[115, 117, 99]⟩, .agg #[.int .i64 12, .int .i64 0, .int .i64 0, .string ⟨#[]⟩, .string ⟨#[46]⟩], 6⟩, ⟨.string ⟨#[112, 114, 102]⟩, .agg #[.int .i64 28, .int .i64 0, .int .i64 0, .string ⟨#[]⟩, .string ⟨#[46]⟩], 7⟩, ⟨.string ⟨#[114, 101, 99]⟩, .agg #[.int .i64 13, .int .i64 0, .int .i64 0, .string ⟨#[]⟩, .string ⟨#[118, 46, 46, 118, 118, 46, 46]⟩], 8⟩, ⟨.string ⟨#[97, 98, 111, 114, 116]⟩, .agg #[.int .i64 15, .int .i64 0, .int .i64 0, .string ⟨#[]⟩, .string ⟨#[46, 46]⟩], 9⟩, ⟨.string ⟨#[101, 113]⟩, .agg #[.int .i64 18, .int .i64 0, .int .i64 0, .string ⟨#[]⟩, .string ⟨#[46, 46, 46]⟩], 10⟩, ⟨.string ⟨#[114, 101, 102, 108]⟩, .agg #[.int .i64 19, .int .i64 0, .int .i64 0, .string ⟨#[]⟩, .string ⟨#[46, 46]⟩], 11⟩, ⟨.string ⟨#[99, 97, 115, 116]⟩, .agg #[.int .i64 20, .int .i64 0, .int .i64 0, .string ⟨#[]⟩, .string ⟨#[46, 46, 46, 46]⟩], 12⟩, ⟨.string ⟨#[116, 114, 97, 110, 115, 112]⟩, .agg #[.int .i64 21, .int .i64 0, .int .i64 0, .string ⟨#[]⟩, .string ⟨#[46, 46, 118, 46, 46, 46, 46]⟩], 13⟩, ⟨.string ⟨#[113, 117, 111, 116]⟩, .agg #[.int .i64 22, .int .i64 0, .int .i64 0, .string ⟨#[]⟩, .string ⟨#[46, 118, 118, 46, 46, 46, 46]⟩], 14⟩, ⟨.string ⟨#[99, 108, 97, 115, 115]⟩, .agg #[.int .i64 23, .int .i64 0, .int .i64 0, .string ⟨#[]⟩, .string ⟨#[46, 46]⟩], 15⟩, ⟨.string ⟨#[113, 101, 108, 105, 109]⟩, .agg #[.int .i64 24, .int .i64 0, .int .i64 0, .string ⟨#[]⟩, .string ⟨#[46, 118, 46, 46, 46]⟩], 16⟩, ⟨.string ⟨#[100, 97, 116, 97]⟩, .agg #[.int .i64 25, .int .i64 0, .int .i64 0, .string ⟨#[]⟩, .string ⟨#[100]⟩], 17⟩, ⟨.string ⟨#[99, 111, 110]⟩, .agg #[.int .i64 26, .int .i64 0, .int .i64 0, .string ⟨#[]⟩, .string ⟨#[100, 110, 42]⟩], 18⟩, ⟨.string ⟨#[101, 108, 105, 109]⟩, .agg #[.int .i64 27, .int .i64 0, .int .i64 0, .string ⟨#[]⟩, .string ⟨#[100, 118, 46, 42, 46]⟩], 19⟩, ⟨.string ⟨#[112, 105]⟩, .agg #[.int .i64 3, .int .i64 0, .int .i64 0, .string ⟨#[]⟩, .string ⟨#[119, 46, 46]⟩], 20⟩, ⟨.string ⟨#[115, 105, 103]⟩, .agg #[.int .i64 6, .int .i64 0, .int .i64 0, .string ⟨#[]⟩, .string ⟨#[119, 46, 46]⟩], 21⟩, ⟨.string ⟨#[112, 105, 49]⟩, .agg #[.int .i64 3, .int .i64 1, .int .i64 0, .string ⟨#[]⟩, .string ⟨#[119, 46, 46]⟩], 22⟩, ⟨.string ⟨#[115, 105, 103, 49]⟩, .agg #[.int .i64 6, .int .i64 1, .int .i64 0, .string ⟨#[]⟩, .string ⟨#[119, 46, 46]⟩], 23⟩, ⟨.string ⟨#[112, 105, 50]⟩, .agg #[.int .i64 3, .int .i64 2, .int .i64 0, .string ⟨#[]⟩, .string ⟨#[119, 46, 46]⟩], 24⟩, ⟨.string ⟨#[115, 105, 103, 50]⟩, .agg #[.int .i64 6, .int .i64 2, .int .i64 0, .string ⟨#[]⟩, .string ⟨#[119, 46, 46]⟩], 25⟩, ⟨.string ⟨#[112, 105, 51]⟩, .agg #[.int .i64 3, .int .i64 3, .int .i64 0, .string ⟨#[]⟩, .string ⟨#[119, 46, 46]⟩], 26⟩, ⟨.string ⟨#[115, 105, 103, 51]⟩, .agg #[.int .i64 6, .int .i64 3, .int .i64 0, .string ⟨#[]⟩, .string ⟨#[119, 46, 46]⟩], 27⟩]
def alM : List MapEntry := [⟨.string ⟨#[80, 114, 111, 112]⟩, .agg #[.int .i64 2, .int .i64 0, .int .i64 0, .string ⟨#[]⟩], 0⟩, ⟨.string ⟨#[78, 97, 116]⟩, .agg #[.int .i64 10, .int .i64 0, .int .i64 0, .string ⟨#[]⟩], 1⟩, ⟨.string ⟨#[122, 101, 114, 111]⟩, .agg #[.int .i64 11, .int .i64 0, .int .i64 0, .string ⟨#[]⟩], 2⟩, ⟨.string ⟨#[69, 109, 112, 116, 121]⟩, .agg #[.int .i64 14, .int .i64 0, .int .i64 0, .string ⟨#[]⟩], 3⟩, ⟨.string ⟨#[85, 110, 105, 116]⟩, .agg #[.int .i64 16, .int .i64 0, .int .i64 0, .string ⟨#[]⟩], 4⟩, ⟨.string ⟨#[115, 116, 97, 114]⟩, .agg #[.int .i64 17, .int .i64 0, .int .i64 0, .string ⟨#[]⟩], 5⟩, ⟨.string ⟨#[116, 105, 99, 107]⟩, .agg #[.int .i64 29, .int .i64 0, .int .i64 0, .string ⟨#[]⟩], 6⟩]
def kwB (s : ByteArray) : Bool := fmM.any (keyIs s) || alM.any (keyIs s)
end
section
/- What is asked of a declaration. -/
open Go Go.RowKit
def encV (v : Value) : List Value := [v]
def encVs (l : List Value) : List Value := l.flatMap encV
def nthV (t : List Value) (k : Nat) : Value := t.getD k undef
theorem encV_len (v : Value) : (encV v).length = 1 := rfl
section
variable {w : World} {I : Nat → Prop} {A : Option Addr} {k cap e : Nat}
theorem vs_elem {t : List Value} (h : RowI w I 1 A t.length (encVs t)) (hk : k < t.length) : ElemAt w A (k * 1) (encV (nthV t k)) := by
 have := h.elem hk
 rwa [show (encVs t) = t.flatMap encV from rfl, enc_at encV_len t k hk undef] at this
theorem own_vs {t : List Value} (h : (Res.row A t.length cap e 1 (encVs t)).holds w) (hk : k < t.length) : ElemAt w A (k * 1) (encV (nthV t k)) := by
 have := own_elem h hk
 rwa [show (encVs t) = t.flatMap encV from rfl, enc_at encV_len t k hk undef] at this
end
def catS (t : List Tl) : List Sl := t.flatMap fun s => s.2.2
def smT (t : List Tl) (k : Nat) : Nat := ((t.take k).map fun s => s.2.2.length).sum
theorem take_stepT {t : List Tl} {k : Nat} (h : k < t.length) : t.take (k + 1) = t.take k ++ [nthT t k] := by
 rw [List.take_succ_eq_append_getElem h]
 simp [nthT, h]
theorem catS_step {t : List Tl} {k : Nat} (h : k < t.length) : catS (t.take k) ++ (nthT t k).2.2 = catS (t.take (k + 1)) := by rw [take_stepT h]; simp [catS]
theorem smT_step {t : List Tl} {k : Nat} (h : k < t.length) : smT t (k + 1) = smT t k + (nthT t k).2.2.length := by unfold smT; rw [take_stepT h]; simp
theorem smT_le {t : List Tl} (h : ∀ s ∈ t, s.2.2.length ≤ 100) : ∀ k, smT t k ≤ 100 * k
 | 0 => by simp [smT]
 | k + 1 => by
  by_cases hk : k < t.length
  ·
   rw [smT_step hk]
   have := smT_le h k
   have := h _ (nthT_mem hk)
   omega
  ·
   have : smT t (k + 1) = smT t k := by unfold smT; rw [List.take_of_length_le (by omega), List.take_of_length_le (by omega)]
   have := smT_le h k
   omega
theorem catS_len (t : List Tl) (k : Nat) : (catS (t.take k)).length = smT t k := by simp [catS, smT, List.length_flatMap]
theorem catS_lsts (t : List Tl) : lsts (catS t) = (lstsT t).flatten := by
 induction t with
 | nil => rfl
 | cons x t ih =>
  have : lsts (catS (x :: t)) = lsts x.2.2 ++ lsts (catS t) := by simp [catS, lsts]
  rw [this, ih]
  simp [lstsT]
def tmD (K : Int) (t b : List Nd) (c : List (List (List Nd))) : List (List Nd) := if K = 1 then [t, b] else if K = 2 then [t] else if K = 3 then c.flatten else []
def clD (K : Int) (t b : List Nd) (c : List (List (List Nd))) : Int := frE ((tmD K t b c).map clT)
theorem tmD_len {K : Int} {t b : List Nd} {c : List Tl} (hl : c.length ≤ 100) (hb : ∀ s ∈ c, s.2.2.length ≤ 100) : (tmD K t b (lstsT c)).length ≤ 10000 := by
 unfold tmD
 (repeat' split) <;> try (simp; done)
 rw [← catS_lsts, lsts_len]
 have h1 := catS_len c c.length
 rw [List.take_length] at h1
 have h2 := smT_le hb c.length
 omega
theorem cl_step {l : List (List Nd)} {k : Nat} (h : ∀ i, i < k → clT (nthL l i) = 0) (hk : clT (nthL l k) = 0) : ∀ i, i < k + 1 → clT (nthL l i) = 0 := fun i hi => by
 by_cases e : i = k
 · subst e; exact hk
 · exact h i (by omega)
theorem map_nthI {l : List (List Nd)} {i : Nat} (h : i < l.length) : nthI (l.map clT) i = clT (nthL l i) := by simp [nthI, nthL, h]
theorem cl_at {l : List (List Nd)} {k : Nat} (h : ∀ i, i < k → clT (nthL l i) = 0) (hk : k < l.length) (he : ¬ clT (nthL l k) = 0) : frE (l.map clT) = clT (nthL l k) := by
 rw [frE_at (k := k) (fun i hi => by rw [map_nthI (by omega)]; exact h i hi) (by simpa using hk) (by rw [map_nthI hk]; exact he), map_nthI hk]
theorem cl_all {l : List (List Nd)} (h : ∀ i, i < l.length → clT (nthL l i) = 0) : frE (l.map clT) = 0 :=
 frE_all (fun i hi => by
  have hi' : i < l.length := by simpa using hi
  rw [map_nthI hi']
  exact h i hi')
theorem clT_chk {t : List Nd} (h : ¬ chk t = 0) : clT t = chk t := if_pos h
theorem clT_free {t : List Nd} (hc : chk t = 0) (h : 0 < frF t) : clT t = 30 := by unfold clT; rw [if_neg (not_not_intro hc), if_pos h]
theorem clT_ok {t : List Nd} (hc : chk t = 0) (h : ¬ 0 < frF t) : clT t = 0 := by unfold clT; rw [if_neg (not_not_intro hc), if_neg h]
def dkB (b1 b2 b4 b5 b6 b7 b8 : Bool) (e : Int) : Int := frE [mkI (!b1) 1, mkI (!b2) 20, e, mkI (!b4) 1, mkI (!b5) 1, mkI (!b6) 1, mkI (!b7) 1, mkI (!b8) 21]
def nmB (s : ByteArray) : Bool := nameOk s && !kwB s
def dkE (K L : Int) (S : ByteArray) (t b : List Nd) (c : List Tl) : Int :=
 dkB (decide (1 ≤ K) && decide (K ≤ 3)) (nmB S) (decide (K = 3) && (decide (1 ≤ L) && decide (L ≤ 9)) || (!decide (K = 3)) && decide (L = 0)) (decide (K = 3) || decide (((c.length : Nat) : Int) = 0)) ((!decide (K = 3)) || decide (((t.length : Nat) : Int) = 0)) (decide (K = 1) || decide (((b.length : Nat) : Int) = 0))
  (!(decide (6 < ((c.length : Nat) : Int)) || c.any fun s => decide (6 < s.2.2.length))) (clD K t b (lstsT c))
theorem dkB_eq {a1 a2 a4 a5 a6 a7 a8 b1 b2 b4 b5 b6 b7 b8 : Bool} {e : Int} (h1 : a1 = b1) (h2 : a2 = b2) (h4 : a4 = b4) (h5 : a5 = b5) (h6 : a6 = b6) (h7 : a7 = b7) (h8 : a8 = b8) : dkB a1 a2 a4 a5 a6 a7 a8 e = dkB b1 b2 b4 b5 b6 b7 b8 e := by rw [h1, h2, h4, h5, h6, h7, h8]
theorem dk_ok {K L : Int} {S : ByteArray} {t b : List Nd} {c : List Tl} (h : dkE K L S t b c = 0) (hK : K = 3) : c.length ≤ 6 ∧ (∀ s ∈ c, s.2.2.length ≤ 6) ∧ ∀ x ∈ (lstsT c).flatten, clT x = 0 := by
 unfold dkE dkB at h
 have hz : ∀ l : List Int, frE l = 0 → ∀ e ∈ l, e = 0 := fun l => by
  induction l with
  | nil => intro _ e he; cases he
  | cons x l ih =>
   intro h e he
   rw [frE] at h
   split at h
   ·
    rename_i hx
    rcases List.mem_cons.1 he with rfl | he
    · exact hx
    · exact ih h e he
   · rename_i hx; exact absurd h hx
 have h8 := hz _ h (mkI (!(!(decide (6 < ((c.length : Nat) : Int)) || c.any fun s => decide (6 < s.2.2.length)))) 21) (by simp)
 have hcl := hz _ h (clD K t b (lstsT c)) (by simp)
 unfold mkI at h8
 simp only [Bool.not_not] at h8
 have h8' : (decide (6 < ((c.length : Nat) : Int)) || c.any fun s => decide (6 < s.2.2.length)) = false := by
  cases q : (decide (6 < ((c.length : Nat) : Int)) || c.any fun s => decide (6 < s.2.2.length)) with
  | false => rfl
  | true => rw [q] at h8; simp at h8
 rw [Bool.or_eq_false_iff] at h8'
 refine ⟨by have := of_decide_eq_false h8'.1; omega, fun s hs => ?_, fun x hx => ?_⟩
 ·
  have := List.any_eq_false.1 h8'.2 s hs
  simp at this
  omega
 ·
  unfold clD tmD at hcl
  rw [if_neg (by omega), if_neg (by omega), if_pos hK] at hcl
  exact hz _ hcl _ (List.mem_map.2 ⟨x, hx, rfl⟩)
end
section
/- All arguments of all constructors, one by one. -/
open Go Go.RowKit
abbrev Ag := (Int × Int) × Sl
def agX (c : List Tl) (i j : Nat) : Ag := (((i : Int), (j : Int)), nthS (nthT c i).2.2 j)
def agQ (p : List Ag) (c : List Tl) (i : Nat) : Nat → List Ag
 | 0 => p
 | j + 1 => agQ p c i j ++ [agX c i j]
def agP (c : List Tl) : Nat → List Ag
 | 0 => []
 | i + 1 => agQ (agP c i) c i (nthT c i).2.2.length
def agL (c : List Tl) : List Ag := agP c c.length
theorem agQ_pre (p : List Ag) (c : List Tl) (i : Nat) {j k : Nat} (h : j ≤ k) : agQ p c i j <+: agQ p c i k := by
 induction k with
 | zero => rw [show j = 0 by omega]; exact List.prefix_refl _
 | succ k ih =>
  by_cases e : j = k + 1
  · rw [e]; exact List.prefix_refl _
  · exact List.IsPrefix.trans (ih (by omega)) (List.prefix_append _ _)
theorem agP_pre (c : List Tl) {i k : Nat} (h : i ≤ k) : agP c i <+: agP c k := by
 induction k with
 | zero => rw [show i = 0 by omega]; exact List.prefix_refl _
 | succ k ih =>
  by_cases e : i = k + 1
  · rw [e]; exact List.prefix_refl _
  · exact List.IsPrefix.trans (ih (by omega)) (agQ_pre (agP c k) c k (Nat.zero_le _))
theorem ag_pre {c : List Tl} {i j : Nat} (hi : i < c.length) (hj : j < (nthT c i).2.2.length) : agQ (agP c i) c i j ++ [agX c i j] <+: agL c :=
 List.IsPrefix.trans (agQ_pre (agP c i) c i (k := (nthT c i).2.2.length) (j := j + 1) (by omega)) (agP_pre c (i := i + 1) (by omega))
theorem agQ_mem {p : List Ag} {c : List Tl} {i : Nat} {x : Ag} : ∀ j, x ∈ agQ p c i j → x ∈ p ∨ ∃ k, k < j ∧ x = agX c i k
 | 0, h => .inl h
 | j + 1, h => by
  rcases List.mem_append.1 h with h | h
  ·
   rcases agQ_mem j h with h | ⟨k, hk, e⟩
   · exact .inl h
   · exact .inr ⟨k, by omega, e⟩
  · exact .inr ⟨j, by omega, by simpa using h⟩
theorem agP_mem {c : List Tl} {x : Ag} : ∀ i, i ≤ c.length → x ∈ agP c i → ∃ a b, a < c.length ∧ b < (nthT c a).2.2.length ∧ x = agX c a b
 | 0, _, h => by cases h
 | i + 1, hi, h => by
  rcases agQ_mem _ h with h | ⟨k, hk, e⟩
  · exact agP_mem i (by omega) h
  · exact ⟨i, k, by omega, hk, e⟩
theorem ag_at {c : List Tl} {pre : List Ag} {x : Ag} (h : pre ++ [x] <+: agL c) : ∃ a b, a < c.length ∧ b < (nthT c a).2.2.length ∧ x = agX c a b :=
 agP_mem c.length (Nat.le_refl _) (h.subset (by simp))
theorem frE_pre {α : Type} {f : α → Int} {pre l : List α} {x : α} (h : pre ++ [x] <+: l) (hz : ∀ y ∈ pre, f y = 0) (hx : ¬ f x = 0) : frE (l.map f) = f x := by
 obtain ⟨r, rfl⟩ := h
 induction pre with
 | nil => simp [frE, hx]
 | cons y pre ih =>
  have hy : f y = 0 := hz y (by simp)
  simp only [List.cons_append, List.map_cons, frE, hy, if_true]
  exact ih (fun z hz' => hz z (by simp [hz']))
theorem frE_zero {α : Type} {f : α → Int} {l : List α} (hz : ∀ y ∈ l, f y = 0) : frE (l.map f) = 0 := by
 induction l with
 | nil => rfl
 | cons y l ih => rw [List.map_cons, frE, if_pos (hz y (by simp))]; exact ih (fun z h => hz z (by simp [h]))
theorem ag_in {c : List Tl} {a b : Nat} (ha : a < c.length) (hb : b < (nthT c a).2.2.length) : (agX c a b).2.2.2 ∈ (lstsT c).flatten := by
 rw [← catS_lsts]
 refine List.mem_map.2 ⟨nthS (nthT c a).2.2 b, List.mem_flatMap.2 ⟨nthT c a, nthT_mem ha, ?_⟩, rfl⟩
 simp [nthS, hb]
theorem snoc_all {α : Type} {P : α → Prop} {l : List α} {x : α} (h : ∀ y ∈ l, P y) (hx : P x) : ∀ y ∈ l ++ [x], P y := fun y hy => by
 rcases List.mem_append.1 hy with h1 | h1
 · exact h y h1
 · rw [List.mem_singleton.1 h1]; exact hx
def scE (K L : Int) (S : ByteArray) (t b : List Nd) (c : List Tl) : Int :=
 if ¬ dkE K L S t b c = 0 then dkE K L S t b c else if ¬ K = 3 then 1 else frE ((agL c).map fun y => poP S y.2.2.2)
theorem sc_ok {K L : Int} {S : ByteArray} {t b : List Nd} {c : List Tl} (h : scE K L S t b c = 0) : K = 3 ∧ c.length ≤ 6 ∧ (∀ s ∈ c, s.2.2.length ≤ 6) ∧ ∀ x ∈ (lstsT c).flatten, clT x = 0 := by
 unfold scE at h
 split at h
 · rename_i h1; exact absurd h h1
 ·
  split at h
  · cases h
  ·
   rename_i h1 h2
   have hK : K = 3 := by omega
   exact ⟨hK, dk_ok (S := S) (t := t) (b := b) (L := L) (Decidable.not_not.1 h1) hK⟩
end
section
/- Appends of slices that are nil, onto nil; boxes with a row. -/
open Go Go.RowKit
theorem zeroCells_nil (k : Nat) : (Builtin.zeroCells (Value.slice none 0 0).cells k).toList = List.replicate k (.slice none 0 0) := by
 apply List.ext_getElem
 · simp [Builtin.zeroCells, Value.cells]
 ·
  intro i h1 h2
  simp [Builtin.zeroCells, Value.cells, Nat.mod_one]
section
variable {P : Program} {X : Prop} {Next : Act → World → Prop} {o : Oper} {a : Act} {w w0 : World} {N : Nat} {l : List (Nat × Value)} {d : Nat} {Z M : Nat → Prop} {m : List Res} {ds : List Dat}
theorem m_appendS0 {t tn e : TypeId} {kn kq : IntKind} {x y : Operand} {p : Int} (q : Nat) (hs : SteV P X Next o a w) (hR : Reg a N l) (hS : St w0 Z M w m ds) (hd : o.dst = some d)
  (ho : o.op = .call { callee := .builtin .append, args := #[x, y], argTypes := #[t, tn] }) (hx : ev l x = some (.slice none 0 0)) (hy : ev l y = some (.int kq p))
  (hp : p = (q : Int)) (hq : 0 < q) (hb : q ≤ 1000000)
  (ht : P.underlying t = some (.slice e)) (htn : P.underlying tn = some (.int kn)) (hinf : (P.info? e).map (fun i => (i.zero, i.size, i.bytes)) = some (some (.slice none 0 0), 1, 24)) (hdN : d < N)
  (k : ∀ a' w' A' cap', Reg a' N ((d, .slice A' (List.replicate q slz).length cap') :: l) → St w0 Z M w' (m ++ [.row A' (List.replicate q slz).length cap' e 1 (encSs (List.replicate q slz))]) ds → Next a' w') : X := by
 subst hp
 cases hqq : P.info? e with
 | none => simp [hqq] at hinf
 | some inf =>
  simp only [hqq, Option.map_some, Option.some.injEq, Prod.mk.injEq] at hinf
  obtain ⟨hz, hs2, hb2⟩ := hinf
  have hold : (Builtin.firstCells inf.size 0 (.slice none 0 0)).run P w.drew = .ok (([] : List Value)).toArray w.drew := by
   simp [Builtin.firstCells]
   try rfl
  have hr := Lib.run_append_grow_zeros (P := P) w t tn o.type e inf _ kq kn ht htn hqq hz none 0 0 [] hold q hq (by omega) (by omega) (by omega) (by rw [hb2]; omega) (by rw [hb2]; exact growslice_fits (by omega) (by omega))
  have hge := grownCap_ge w (0 + q) 0 e
  have hcm' : grownCap w (0 + q) 0 e ≤ maxLen := grownCap_le_maxLen w (0 + q) 0 e (by unfold maxLen; omega)
  have hrl : (List.replicate q slz).length = q := List.length_replicate
  have hxs : encSs (List.replicate q slz) = List.replicate q (.slice none 0 0) := zeros_encS q
  rw [Nat.zero_add] at hr hge hcm'
  have hh : (w.drew.alloc (.cells ((([] : List Value)).toArray ++ Builtin.zeroCells (Value.slice none 0 0).cells q ++ Builtin.zeroCells (Value.slice none 0 0).cells (grownCap w q 0 e - q)) e)).heap[w.heap.size]? = some (.cells ((([] : List Value)).toArray ++ Builtin.zeroCells (Value.slice none 0 0).cells q ++ Builtin.zeroCells (Value.slice none 0 0).cells (grownCap w q 0 e - q)) e (0, 0)) := heap_alloc_new w.drew _
  have hrow : (Res.row (some ⟨w.heap.size, 0, none⟩) (List.replicate q slz).length (grownCap w q 0 e) e 1 (encSs (List.replicate q slz))).holds (w.drew.alloc (.cells ((([] : List Value)).toArray ++ Builtin.zeroCells (Value.slice none 0 0).cells q ++ Builtin.zeroCells (Value.slice none 0 0).cells (grownCap w q 0 e - q)) e)) := by
   rw [hrl, hxs]
   refine ⟨by simp, .inr ⟨w.heap.size, _, _, rfl, Nat.zero_le _, hh, hge, hcm', ?_, ?_⟩⟩
   ·
    simp [Builtin.zeroCells, Value.cells]
    omega
   ·
    simp only [Array.toList_append, zeroCells_nil, List.nil_append, Nat.mul_one]
    rw [List.take_left' (by simp)]
  have hx' : (execOp a.eval o).run P w = .ok (.value (.slice (some ⟨w.heap.size, 0, none⟩) q (grownCap w q 0 e))) (w.drew.alloc (.cells ((([] : List Value)).toArray ++ Builtin.zeroCells (Value.slice none 0 0).cells q ++ Builtin.zeroCells (Value.slice none 0 0).cells (grownCap w q 0 e - q)) e)) := by
   unfold execOp; rw [ho]
   simp only [resolve, invoke, builtin, Sem.run_bind, Sem.run_pure, Result.andThen_ok, List.map_toArray, List.map_cons, List.map_nil, hR.ev hx, hR.ev hy, hr]
  refine hs.val _ _ hx' ?_
  ·
   rw [hd]
   refine k _ _ (some ⟨w.heap.size, 0, none⟩) (grownCap w q 0 e) (by rw [hrl]; exact hR.put hdN _) ?_
   exact hS.drew.alloc _ _ hrow rfl
end
section
variable {P : Program} {X : Prop} {Next : Act → World → Prop} {o : Oper} {a : Act} {w : World} {N : Nat} {l : List (Nat × Value)} {d : Nat} {t t2 : TypeId} {x y : Operand}
theorem r_nilfunc {ps rs : Array TypeId} {vr : Bool} (hs : SteV P X Next o a w) (hR : Reg a N l) (hd : o.dst = some d) (ho : o.op = .binOp .eql t x y t2) (hx : ev l x = some .nilFunc) (hy : ev l y = some .nilFunc)
  (ht : P.underlying t = some (.func ps rs vr)) (hdN : d < N) (k : ∀ a', Reg a' N ((d, .bool true) :: l) → Next a' w) : X := by
 refine hs.val (.bool true) w ?_ (by rw [hd]; exact k _ (hR.put hdN _))
 have he : (Op.equal t .nilFunc .nilFunc).run P w = .ok true w := by
  unfold Op.equal Op.maxDepth Op.equalIn
  simp [Sem.run_bind, run_underlying ht, Result.andThen_ok]
 unfold execOp; rw [ho]
 have h1 : (eqGuard .eql t x y .nilFunc .nilFunc).run P w = .ok () w := rfl
 have h2 : binOp .eql t .nilFunc .nilFunc = (do pure (.bool (← Op.equal t .nilFunc .nilFunc))) := rfl
 simp only [hR.ev hx, hR.ev hy, Sem.run_bind, h1, Result.andThen_ok, h2, he, Sem.run_pure]
theorem r_nofunb {f : FuncId} {fs qs : Array Value} {ps rs : Array TypeId} {vr : Bool} (hs : SteV P X Next o a w) (hR : Reg a N l) (hd : o.dst = some d) (ho : o.op = .binOp .eql t x y t2) (hx : ev l x = some (.func (.func f) fs qs)) (hy : ev l y = some .nilFunc)
  (ht : P.underlying t = some (.func ps rs vr)) (hdN : d < N) (k : ∀ a', Reg a' N ((d, .bool false) :: l) → Next a' w) : X := by
 refine hs.val (.bool false) w ?_ (by rw [hd]; exact k _ (hR.put hdN _))
 have he : (Op.equal t (.func (.func f) fs qs) .nilFunc).run P w = .ok false w := by
  unfold Op.equal Op.maxDepth Op.equalIn
  simp [Sem.run_bind, run_underlying ht, Result.andThen_ok]
 unfold execOp; rw [ho]
 have h1 : (eqGuard .eql t x y (.func (.func f) fs qs) .nilFunc).run P w = .ok () w := rfl
 have h2 : binOp .eql t (.func (.func f) fs qs) .nilFunc = (do pure (.bool (← Op.equal t (.func (.func f) fs qs) .nilFunc))) := rfl
 simp only [hR.ev hx, hR.ev hy, Sem.run_bind, h1, Result.andThen_ok, h2, he, Sem.run_pure]
end
section
variable {w0 w w' : World} {Z M : Nat → Prop} {m : List Res} {ds ds' : List Dat} {i j g n cap e size : Nat} {t : TypeId} {cs cs' xs : List Value} {A : Option Addr}
theorem not_M (h : St w0 Z M w m ds) {r : Res} (hi : m[i]? = some r) (hM : ∀ k, M k → ∃ j r, j ≠ i ∧ m[j]? = some r ∧ r.blk = some k) {k : Nat} (hk : r.blk = some k) : ¬ M k := fun hm => by
 obtain ⟨j, s, hj, hs, e⟩ := hM k hm
 exact apart_get h.apart (Ne.symm hj) hi hs hk e
theorem erase_imm (h : St w0 Z M w m ds) {r : Res} (hi : m[i]? = some r) (hM : ∀ k, M k → ∃ j r, j ≠ i ∧ m[j]? = some r ∧ r.blk = some k) {k : Nat} (hk : r.blk = some k) : imm Z w0 (m.eraseIdx i) w k := by
 refine ⟨(h.own _ (List.mem_of_getElem? hi) k hk).1, fun hlt => ?_, fun s hmem e => ?_⟩
 ·
  rcases (h.own _ (List.mem_of_getElem? hi) k hk).2 with h1 | h1
  · omega
  · exact absurd h1 (not_M h hi hM hk)
 obtain ⟨j', hj'⟩ := List.mem_iff_getElem?.1 hmem
 rw [List.getElem?_eraseIdx] at hj'
 by_cases hji : j' < i
 ·
  rw [if_pos hji] at hj'
  exact apart_get h.apart (by omega : j' ≠ i) hj' hi e hk
 ·
  rw [if_neg hji] at hj'
  exact apart_get h.apart (by omega : j' + 1 ≠ i) hj' hi e hk
theorem St.row_dataG (h : St w0 Z M w m ds) (hi : m[i]? = some (.row A n cap e size xs)) (hM : ∀ k, M k → ∃ j r, j ≠ i ∧ m[j]? = some r ∧ r.blk = some k) : St w0 Z M w (m.eraseIdx i) ds ∧ RowI w (imm Z w0 (m.eraseIdx i) w) size A n xs := by
 have hr : w.ownsRow 0 e size (.slice A n cap) n xs := h.res hi
 refine ⟨h.drop _ (List.eraseIdx_sublist m i), hr.1, fun hn => ?_⟩
 obtain ⟨b, rfl⟩ := own_some hr hn
 exact ⟨_, rfl, erase_imm h hi hM rfl, fun j u hu => hr.cells (g := b) rfl j u hu⟩
theorem St.box_dataG (h : St w0 Z M w m ds) (hi : m[i]? = some (.box g t cs)) (hM : ∀ k, M k → ∃ j r, j ≠ i ∧ m[j]? = some r ∧ r.blk = some k) : St w0 Z M w (m.eraseIdx i) ds ∧ (dBox g cs).φ w (imm Z w0 (m.eraseIdx i) w) := by
 have hr : (Res.box g t cs).holds w := h.res hi
 exact ⟨h.drop _ (List.eraseIdx_sublist m i), erase_imm h hi hM rfl, box_cells hr⟩
theorem two_M (h0 : m[0]? = some (.box g t cs)) (h1 : m[1]? = some (.row A n cap e size xs)) (hi0 : 0 ≠ i) (hi1 : 1 ≠ i) : ∀ k, (k = g ∨ rM A k) → ∃ j r, j ≠ i ∧ m[j]? = some r ∧ r.blk = some k := fun k hk => by
 rcases hk with rfl | hk
 · exact ⟨0, _, hi0, h0, rfl⟩
 · exact ⟨1, _, hi1, h1, hk⟩
theorem St.startMR (w0 : World) (Z : Nat → Prop) (ds : List Dat) (hb : (Res.box g t cs).holds w0) (hr : (Res.row A n cap e size xs).holds w0) (hn : ∀ k, rM A k → k ≠ g) (h : ∀ d ∈ ds, d.φ w0 (imm Z w0 [.box g t cs, .row A n cap e size xs] w0)) :
  St w0 Z (fun k => k = g ∨ rM A k) w0 [.box g t cs, .row A n cap e size xs] ds := by
 refine ⟨rfl, rfl, rfl, Nat.le_refl _, fun _ _ _ => rfl, fun r hm => ?_, fun r hm k e' => ?_, ?_, h⟩
 ·
  simp only [List.mem_cons, List.not_mem_nil, or_false] at hm
  rcases hm with rfl | rfl
  · exact hb
  · exact hr
 ·
  simp only [List.mem_cons, List.not_mem_nil, or_false] at hm
  rcases hm with rfl | rfl
  ·
   have : g = k := by simpa [Res.blk] using e'
   subst this
   exact ⟨(Array.getElem?_eq_some_iff.1 hb).1, .inr (.inl rfl)⟩
  · exact ⟨row_lt hr e', .inr (.inr e')⟩
 ·
  refine .cons (fun s hs k e1 e2 => ?_) (.cons (fun _ h => by cases h) .nil)
  rw [List.mem_singleton] at hs
  subst hs
  have : g = k := by simpa [Res.blk] using e1
  exact hn k e2 this.symm
theorem imm_startMR (hZ : ∀ k, Z k → k < w0.heap.size) (hg : ¬ Z g) (hA : ∀ k, rM A k → ¬ Z k) {k : Nat} (hk : Z k) : imm Z w0 [.box g t cs, .row A n cap e size xs] w0 k ∧ w0.heap[k]? = w0.heap[k]? :=
 ⟨⟨hZ k hk, fun _ => hk, fun r hr e' => by
  simp only [List.mem_cons, List.not_mem_nil, or_false] at hr
  rcases hr with rfl | rfl
  ·
   have : g = k := by simpa [Res.blk] using e'
   subst this
   exact hg hk
  · exact hA k e' hk⟩, rfl⟩
theorem St.rowne (h : St w0 Z M w m ds) (hi : m[i]? = some (.box g t cs)) (hj : m[j]? = some (.row A n cap e size xs)) (hij : i ≠ j) : ∀ k, rM A k → k ≠ g := fun k hk e' => by
 subst e'
 exact apart_get h.apart hij hi hj rfl hk
theorem apart_set {b : Res} (h : m.Pairwise fun r s => ∀ k, r.blk = some k → s.blk ≠ some k) (hi : m[i]? = some (.box g t cs)) (hb : b.blk = some g) : (m.set i b).Pairwise fun r s => ∀ k, r.blk = some k → s.blk ≠ some k := by
 have e1 : (m.set i b).map Res.blk = m.map Res.blk := by
  rw [List.map_set, hb]
  apply List.ext_getElem?
  intro k
  rw [List.getElem?_set]
  split
  ·
   rename_i hk
   subst hk
   have : i < (m.map Res.blk).length := by rw [List.length_map]; exact (List.getElem?_eq_some_iff.1 hi).1
   rw [if_pos this, List.getElem?_map, hi]
   rfl
  · rfl
 have e2 : ∀ l : List Res, (l.Pairwise fun r s => ∀ k, r.blk = some k → s.blk ≠ some k) ↔ ((l.map Res.blk).Pairwise fun a b => ∀ k, a = some k → b ≠ some k) := fun l => by rw [List.pairwise_map]
 rw [e2, e1, ← e2]
 exact h
theorem mem_set_at {b s : Res} (h : s ∈ m.set i b) : s = b ∨ ∃ k, k ≠ i ∧ m[k]? = some s := by
 obtain ⟨k, hk⟩ := List.mem_iff_getElem?.1 h
 rw [List.getElem?_set] at hk
 split at hk
 ·
  split at hk
  · exact .inl (Option.some.inj hk).symm
  · cases hk
 ·
  rename_i hne
  exact .inr ⟨k, Ne.symm hne, hk⟩
theorem call_old (hf : Fr (fun k => k = g ∨ rM A k) w w') (hi : m[i]? = some (.box g t cs)) (hj : m[j]? = some (.row A n cap e size xs)) {k : Nat} (hk : k < w.heap.size) (h2 : ∀ r ∈ m, r.blk ≠ some k) : w'.heap[k]? = w.heap[k]? :=
 hf.old k hk (fun hm => by
  rcases hm with rfl | hm
  · exact h2 _ (List.mem_of_getElem? hi) rfl
  · exact h2 _ (List.mem_of_getElem? hj) hm)
theorem call_hold (h : St w0 Z M w m ds) (hf : Fr (fun k => k = g ∨ rM A k) w w') (hi : m[i]? = some (.box g t cs)) (hj : m[j]? = some (.row A n cap e size xs)) {k : Nat} {s : Res} (hki : k ≠ i) (hkj : k ≠ j) (hk : m[k]? = some s) : s.holds w' :=
 Res.holds_keep (h.res hk) (fun b hb => hf.old b (h.own s (List.mem_of_getElem? hk) b hb).1 (fun hm => by
  rcases hm with rfl | hm
  · exact apart_get h.apart hki hk hi hb rfl
  · exact apart_get h.apart hkj hk hj hb hm))
theorem St.callMK (h : St w0 Z M w m ds) (hi : m[i]? = some (.box g t cs)) (hj : m[j]? = some (.row A n cap e size xs)) (hij : i ≠ j) (hf : Fr (fun k => k = g ∨ rM A k) w w') (hb : (Res.box g t cs').holds w') (hr : (Res.row A n cap e size xs).holds w') : St w0 Z M w' (m.set i (.box g t cs')) ds := by
 refine h.step hf.os hf.tape hf.output hf.size (fun k hk h2 => call_old hf hi hj hk h2) (fun s hs => ?_) (fun s hs k e' => ?_) (apart_set h.apart hi rfl)
 ·
  rcases mem_set_at hs with rfl | ⟨k, hk, hs'⟩
  · exact hb
  ·
   by_cases hkj : k = j
   ·
    subst hkj
    rw [hj] at hs'
    obtain rfl := Option.some.inj hs'
    exact hr
   · exact call_hold h hf hi hj hk hkj hs'
 ·
  rcases mem_set_at hs with rfl | ⟨k', hk', hs'⟩
  ·
   have : g = k := by simpa [Res.blk] using e'
   subst this
   exact ⟨(Array.getElem?_eq_some_iff.1 hb).1, .inl ⟨_, List.mem_of_getElem? hi, rfl⟩⟩
  · exact ⟨Nat.lt_of_lt_of_le (h.own s (List.mem_of_getElem? hs') k e').1 hf.size, .inl ⟨s, List.mem_of_getElem? hs', e'⟩⟩
theorem St.callMD (h : St w0 Z M w m ds) (hi : m[i]? = some (.box g t cs)) (hj : m[j]? = some (.row A n cap e size xs)) (hij : i ≠ j) (hf : Fr (fun k => k = g ∨ rM A k) w w') (hb : (Res.box g t cs').holds w') : St w0 Z M w' ((m.set i (.box g t cs')).eraseIdx j) ds := by
 have hmem : ∀ s ∈ (m.set i (.box g t cs')).eraseIdx j, s = .box g t cs' ∨ ∃ k, k ≠ i ∧ k ≠ j ∧ m[k]? = some s := fun s hs => by
  obtain ⟨k, hk⟩ := List.mem_iff_getElem?.1 hs
  rw [List.getElem?_eraseIdx] at hk
  have key : ∀ k', k' ≠ j → (m.set i (.box g t cs'))[k']? = some s → s = .box g t cs' ∨ ∃ k, k ≠ i ∧ k ≠ j ∧ m[k]? = some s := fun k' hkj hk => by
   rw [List.getElem?_set] at hk
   split at hk
   ·
    split at hk
    · exact .inl (Option.some.inj hk).symm
    · cases hk
   ·
    rename_i hne
    exact .inr ⟨k', Ne.symm hne, hkj, hk⟩
  split at hk
  · exact key k (by omega) hk
  · exact key (k + 1) (by omega) hk
 refine h.step hf.os hf.tape hf.output hf.size (fun k hk h2 => call_old hf hi hj hk h2) (fun s hs => ?_) (fun s hs k e' => ?_) ((apart_set h.apart hi rfl).sublist (List.eraseIdx_sublist _ _))
 ·
  rcases hmem s hs with rfl | ⟨k, hk, hkj, hs'⟩
  · exact hb
  · exact call_hold h hf hi hj hk hkj hs'
 ·
  rcases hmem s hs with rfl | ⟨k', hk', _, hs'⟩
  ·
   have : g = k := by simpa [Res.blk] using e'
   subst this
   exact ⟨(Array.getElem?_eq_some_iff.1 hb).1, .inl ⟨_, List.mem_of_getElem? hi, rfl⟩⟩
  · exact ⟨Nat.lt_of_lt_of_le (h.own s (List.mem_of_getElem? hs') k e').1 hf.size, .inl ⟨s, List.mem_of_getElem? hs', e'⟩⟩
theorem St.dMD {d : Dat} (h0 : St w0 Z M w m ds) (i j : Nat) (h : St w0 Z M w' ((m.set i (.box g t cs')).eraseIdx j) ds') (hd : d.φ w' (nxt (imm Z w0 m w) w w')) (hi : m[i]? = some (.box g t cs) := by exact rfl) : St w0 Z M w' ((m.set i (.box g t cs')).eraseIdx j) (ds' ++ [d]) :=
 h.data d (d.mono _ _ _ _ (Nat.le_refl _) hd fun _ hk => by
  have q := imm_set (cs' := cs') hi (nxt_imm h0 hk)
  exact ⟨⟨q.1, q.2.1, fun r hr => q.2.2 r (List.mem_of_mem_eraseIdx hr)⟩, rfl⟩)
theorem St.base (h : St w0 Z M w [.box g t cs] ds) : St w (imm Z w0 [.box g t cs] w) (· = g) w [.box g t cs] ds :=
 ⟨rfl, rfl, rfl, Nat.le_refl _, fun _ _ _ => rfl, h.hold, fun r hr k e' => ⟨(h.own r hr k e').1, .inr (by
  rw [List.mem_singleton.1 hr] at e'
  exact (by simpa [Res.blk] using e' : g = k).symm)⟩, h.apart, fun d hd => d.mono _ _ _ _ (Nat.le_refl _) (h.dat d hd) fun k hk => ⟨⟨hk.1, fun _ => hk, hk.2.2⟩, rfl⟩⟩
theorem St.unbase {m2 : List Res} (h : St w0 Z M w [.box g t cs] ds) (hg : M g) (h2 : St w (imm Z w0 [.box g t cs] w) (· = g) w' m2 ds') : St w0 Z M w' m2 ds' :=
 ⟨h2.os.trans h.os, h2.tape.trans h.tape, h2.output.trans h.output, Nat.le_trans h.size h2.size, fun k hk hm => by
  have hkg : k ≠ g := fun e' => hm (e' ▸ hg)
  rw [h2.old k (Nat.lt_of_lt_of_le hk h.size) hkg, h.old k hk hm], h2.hold, fun r hr k e' => ⟨(h2.own r hr k e').1, by
   rcases (h2.own r hr k e').2 with h1 | h1
   · exact .inl (Nat.le_trans h.size h1)
   · exact .inr (by rw [h1]; exact hg)⟩, h2.apart, fun d hd => d.mono _ _ _ _ (Nat.le_refl _) (h2.dat d hd) fun k hk => ⟨⟨hk.1, fun hlt => (hk.2.1 (Nat.lt_of_lt_of_le hlt h.size)).2.1 hlt, hk.2.2⟩, rfl⟩⟩
end
end
section
/- The types of cases, and what is asked of relations: what the builder makes. -/
open Go Go.RowKit
def orI (x y : Int) : Int := ((x.toNat ||| y.toNat : Nat) : Int)
theorem run_orI {P : Program} {w : World} {t : TypeId} {x y : Int} (h0 : 0 ≤ x) (hx : x < 1000) (h1 : 0 ≤ y) (hy : y < 1000) : (Go.binOp .or t (.int .i64 x) (.int .i64 y)).run P w = .ok (.int .i64 (orI x y)) w := by
 have h := run_or64 (P := P) (w := w) (t := t) (a := x.toNat) (b := y.toNat) (by omega) (by omega)
 rw [Int.toNat_of_nonneg h0, Int.toNat_of_nonneg h1] at h
 exact h
abbrev piN (m : Int) : Nd := ⟨3, m, 0, ⟨#[]⟩⟩
abbrev tkN : Nd := ⟨29, 0, 0, ⟨#[]⟩⟩
def atL (e a p : Int) : List Nd := noL e ⟨0, a - p, 0, ⟨#[]⟩⟩ []
def piP (p : List Nd × Int) (m : Int) (dom : List Nd) : List Nd × Int := (noL p.2 (piN m) [dom, p.1], p.2)
def relL (e a : Int) (r : List Nd) (x y : Int) : List Nd := inL (upE e r a 2) (upL e r a 2) [atL (upE e r a 2) a y, atL (upE e r a 2) a x]
def relE (e a : Int) (r : List Nd) (x y : Int) : Int := inQ (upE e r a 2) (upL e r a 2) [atL (upE e r a 2) a y, atL (upE e r a 2) a x]
def whn (e a : Int) (r : List Nd) (x y : Int) (f : Int → List Nd × Int) : List Nd × Int := piP (f (relE e a r x y)) 3 (relL e a r x y)
def allV (e a : Int) (A : List Nd) (f : Int → List Nd × Int) : List Nd × Int := piP (f (upE e A a 0)) 1 (upL e A a 0)
def tr6 (e a : Int) (r : List Nd) (x z : Int) : List Nd × Int := (relL e a r x z, relE e a r x z)
def tr5 (e a : Int) (r : List Nd) (x y z : Int) : List Nd × Int := whn e a r y z fun e' => tr6 e' (a + 1) r x z
def tr4 (e a : Int) (r : List Nd) (x y z : Int) : List Nd × Int := whn e a r x y fun e' => tr5 e' (a + 1) r x y z
def tr3 (e a : Int) (A r : List Nd) (x y : Int) : List Nd × Int := allV e a A fun e' => tr4 e' (a + 1) r x y (a + 1)
def tr2 (e a : Int) (A r : List Nd) (x : Int) : List Nd × Int := allV e a A fun e' => tr3 e' (a + 1) A r x (a + 1)
def tr1 (e a : Int) (A r : List Nd) : List Nd × Int := allV e a A fun e' => tr2 e' (a + 1) A r (a + 1)
theorem atL_len {e a p : Int} : (atL e a p).length ≤ 1 := noL_len
theorem atL_sml {e a p : Int} : sml (atL e a p) := noL_sml (show (⟨#[]⟩ : ByteArray).size < 1000000 by decide) (by intro x hx; cases hx)
theorem relL_len {e a : Int} {r : List Nd} {x y : Int} : (relL e a r x y).length ≤ 4000 := inL_len
theorem relL_sml {e a : Int} {r : List Nd} {x y : Int} (h : sml r) : sml (relL e a r x y) := inL_sml (upL_sml h) (by
 intro t ht
 simp only [List.mem_cons, List.not_mem_nil, or_false] at ht
 rcases ht with rfl | rfl <;> exact atL_sml)
theorem piP_len {p : List Nd × Int} {m : Int} {dom : List Nd} : (piP p m dom).1.length ≤ p.1.length + dom.length + 1 := by
 have := noL_len (e := p.2) (n := piN m) (p := [dom, p.1])
 simp at this
 show (noL p.2 (piN m) [dom, p.1]).length ≤ _
 omega
theorem piP_sml {p : List Nd × Int} {m : Int} {dom : List Nd} (h : sml p.1) (hd : sml dom) : sml (piP p m dom).1 := noL_sml (show (⟨#[]⟩ : ByteArray).size < 1000000 by decide) (by
 intro t ht
 simp only [List.mem_cons, List.not_mem_nil, or_false] at ht
 rcases ht with rfl | rfl
 · exact hd
 · exact h)
theorem tr6_Z {e a : Int} {r : List Nd} {x z : Int} (h : sml r) : (tr6 e a r x z).1.length ≤ 4000 ∧ sml (tr6 e a r x z).1 := ⟨relL_len, relL_sml h⟩
theorem tr5_Z {e a : Int} {r : List Nd} {x y z : Int} (h : sml r) : (tr5 e a r x y z).1.length ≤ 8001 ∧ sml (tr5 e a r x y z).1 := by
 have h1 := tr6_Z (e := relE e a r y z) (a := a + 1) (x := x) (z := z) h
 have h2 := relL_len (e := e) (a := a) (r := r) (x := y) (y := z)
 have h3 := piP_len (p := tr6 (relE e a r y z) (a + 1) r x z) (m := 3) (dom := relL e a r y z)
 exact ⟨Nat.le_trans h3 (by omega), piP_sml h1.2 (relL_sml h)⟩
theorem tr4_Z {e a : Int} {r : List Nd} {x y z : Int} (h : sml r) : (tr4 e a r x y z).1.length ≤ 12002 ∧ sml (tr4 e a r x y z).1 := by
 have h1 := tr5_Z (e := relE e a r x y) (a := a + 1) (x := x) (y := y) (z := z) h
 have h2 := relL_len (e := e) (a := a) (r := r) (x := x) (y := y)
 have h3 := piP_len (p := tr5 (relE e a r x y) (a + 1) r x y z) (m := 3) (dom := relL e a r x y)
 exact ⟨Nat.le_trans h3 (by omega), piP_sml h1.2 (relL_sml h)⟩
theorem tr3_Z {e a : Int} {A r : List Nd} {x y : Int} (h : sml r) (hA : sml A) (hl : A.length ≤ 5000) : (tr3 e a A r x y).1.length ≤ 18000 ∧ sml (tr3 e a A r x y).1 := by
 have h1 := tr4_Z (e := upE e A a 0) (a := a + 1) (x := x) (y := y) (z := a + 1) h
 have h2 := upL_len (e := e) (t := A) (n := a) (k := 0)
 have h3 := piP_len (p := tr4 (upE e A a 0) (a + 1) r x y (a + 1)) (m := 1) (dom := upL e A a 0)
 exact ⟨Nat.le_trans h3 (by omega), piP_sml h1.2 (upL_sml hA)⟩
theorem tr2_Z {e a : Int} {A r : List Nd} {x : Int} (h : sml r) (hA : sml A) (hl : A.length ≤ 5000) : (tr2 e a A r x).1.length ≤ 24000 ∧ sml (tr2 e a A r x).1 := by
 have h1 := tr3_Z (e := upE e A a 0) (a := a + 1) (x := x) (y := a + 1) h hA hl
 have h2 := upL_len (e := e) (t := A) (n := a) (k := 0)
 have h3 := piP_len (p := tr3 (upE e A a 0) (a + 1) A r x (a + 1)) (m := 1) (dom := upL e A a 0)
 exact ⟨Nat.le_trans h3 (by omega), piP_sml h1.2 (upL_sml hA)⟩
theorem tr1_Z {e a : Int} {A r : List Nd} (h : sml r) (hA : sml A) (hl : A.length ≤ 5000) : (tr1 e a A r).1.length ≤ 30000 ∧ sml (tr1 e a A r).1 := by
 have h1 := tr2_Z (e := upE e A a 0) (a := a + 1) (x := a + 1) h hA hl
 have h2 := upL_len (e := e) (t := A) (n := a) (k := 0)
 have h3 := piP_len (p := tr2 (upE e A a 0) (a + 1) A r (a + 1)) (m := 1) (dom := upL e A a 0)
 exact ⟨Nat.le_trans h3 (by omega), piP_sml h1.2 (upL_sml hA)⟩
def trvC (a r : List Nd) : Int := if ¬ chk a = 0 then chk a else chk r
def trvE (a r : List Nd) : Int := if ¬ trvC a r = 0 then trvC a r else (if (tr1 0 0 a r).2 = 0 then chk (tr1 0 0 a r).1 else (tr1 0 0 a r).2)
def trvL (a r : List Nd) : List Nd := if trvE a r = 0 then (tr1 0 0 a r).1 else []
def argL (e a : Int) (st : List Bool) (pl : List Int) (i : Nat) : List Nd := if nthB st i = true then noL e tkN [] else atL e a (nthI pl i)
def tolL (e a : Int) (mo x : List Nd) : List Nd := inL (upE e mo a 1) (upL e mo a 1) [x]
def tolE (e a : Int) (mo x : List Nd) : Int := inQ (upE e mo a 1) (upL e mo a 1) [x]
def hfX (e a : Int) (st : List Bool) (pl : List Int) (i : Nat) (n p : Int) : List Nd := noL e ⟨5, 0, 0, ⟨#[]⟩⟩ [argL e a st pl i, plL e n (atL e a p)]
def hfM (n : Int) (pr : Bool) : Int := orI (bandI n 2) (mkI pr 1)
def hy2 (e a : Int) (st : List Bool) (pr : Bool) (mo t : List Nd) (n : Int) (pl : List Int) (i : Nat) : List Nd × Int :=
 piP (tolL e (a + 1) mo (hfX e (a + 1) st pl i n (a + 1)), tolE e (a + 1) mo (hfX e (a + 1) st pl i n (a + 1))) (hfM n pr) (nthL (agA t) 0)
def hyA (e a : Int) (S : ByteArray) (st : List Bool) (pr : Bool) (mo : List Nd) (ty : List (List Nd)) (pl : List Int) (i : Nat) : List Nd × Int :=
 if kdA S (nthL ty i) = 1 then (tolL e a mo (argL e a st pl i), tolE e a mo (argL e a st pl i)) else hy2 e a st pr mo (nthL ty i) (nth (nthL ty i) ((nthL ty i).length - 1)).N pl i
def hyF (S : ByteArray) (k : Int) (st : List Bool) (pr : Bool) (mo : List Nd) (ty : List (List Nd)) (pl : List Int) (n : Nat) : Nat → Int → Int → List Nd × Int
 | 0, e, a => (tolL e a mo (noL e ⟨26, k, ((n : Nat) : Int), S⟩ ((List.range n).map (argL e a st pl))), tolE e a mo (noL e ⟨26, k, ((n : Nat) : Int), S⟩ ((List.range n).map (argL e a st pl))))
 | m + 1, e, a => if kdA S (nthL ty (n - (m + 1))) = 0 then hyF S k st pr mo ty pl n m e a else
  piP (hyF S k st pr mo ty pl n m (hyA e a S st pr mo ty pl (n - (m + 1))).2 (a + 1)) (mkI pr 3) (hyA e a S st pr mo ty pl (n - (m + 1))).1
def agF (S : ByteArray) (k : Int) (st : List Bool) (pr : Bool) (mo : List Nd) (ty : List (List Nd)) (n : Nat) : Nat → Int → Int → List Int → List Nd × Int
 | 0, e, a, pl => hyF S k st pr mo ty pl n n e a
 | m + 1, e, a, pl => piP (agF S k st pr mo ty n m e (a + 1) (pl ++ [a + 1])) (orI (mkI (nthB st (n - (m + 1))) 2) (mkI pr 1)) (nthL ty (n - (m + 1)))
section
variable {S : ByteArray} {k e a : Int} {st : List Bool} {pr : Bool} {mo x t : List Nd} {ty : List (List Nd)} {pl : List Int} {n i m : Nat}
theorem hyF_end (h : n ≤ i) : hyF S k st pr mo ty pl n (n - i) e a = (tolL e a mo (noL e ⟨26, k, ((n : Nat) : Int), S⟩ ((List.range n).map (argL e a st pl))), tolE e a mo (noL e ⟨26, k, ((n : Nat) : Int), S⟩ ((List.range n).map (argL e a st pl)))) := by
 rw [show n - i = 0 by omega]; rfl
theorem hyF_skip (hi : i < n) (h : kdA S (nthL ty i) = 0) : hyF S k st pr mo ty pl n (n - i) e a = hyF S k st pr mo ty pl n (n - (i + 1)) e a := by
 rw [show n - i = (n - (i + 1)) + 1 by omega, hyF, show n - (n - (i + 1) + 1) = i by omega, if_pos h]
theorem hyF_some (hi : i < n) (h : ¬ kdA S (nthL ty i) = 0) : hyF S k st pr mo ty pl n (n - i) e a = piP (hyF S k st pr mo ty pl n (n - (i + 1)) (hyA e a S st pr mo ty pl i).2 (a + 1)) (mkI pr 3) (hyA e a S st pr mo ty pl i).1 := by
 rw [show n - i = (n - (i + 1)) + 1 by omega, hyF, show n - (n - (i + 1) + 1) = i by omega, if_neg h]
theorem hyA_one (h : kdA S (nthL ty i) = 1) : hyA e a S st pr mo ty pl i = (tolL e a mo (argL e a st pl i), tolE e a mo (argL e a st pl i)) := if_pos h
theorem hyA_two (h : ¬ kdA S (nthL ty i) = 1) : hyA e a S st pr mo ty pl i = hy2 e a st pr mo (nthL ty i) (nth (nthL ty i) ((nthL ty i).length - 1)).N pl i := if_neg h
theorem agF_end (h : n ≤ i) : agF S k st pr mo ty n (n - i) e a pl = hyF S k st pr mo ty pl n n e a := by rw [show n - i = 0 by omega]; rfl
theorem agF_some (hi : i < n) : agF S k st pr mo ty n (n - i) e a pl = piP (agF S k st pr mo ty n (n - (i + 1)) e (a + 1) (pl ++ [a + 1])) (orI (mkI (nthB st i) 2) (mkI pr 1)) (nthL ty i) := by
 rw [show n - i = (n - (i + 1)) + 1 by omega, agF, show n - (n - (i + 1) + 1) = i by omega]
theorem mkI_0 {b : Bool} {z : Int} (h : 0 ≤ z) : 0 ≤ mkI b z := by unfold mkI; split <;> omega
theorem mkI_k {b : Bool} {z : Int} (h : z < 1000) : mkI b z < 1000 := by unfold mkI; split <;> omega
theorem bandI_0 {z : Int} {k : Nat} : 0 ≤ bandI z k := by unfold bandI; omega
theorem bandI_k {z : Int} {k : Nat} (h : k < 1000) : bandI z k < 1000 := by
 unfold bandI
 have := Nat.and_le_right (n := z.toNat) (m := k)
 omega
theorem argL_len : (argL e a st pl i).length ≤ 1 := by unfold argL; split; exact noL_len; exact atL_len
theorem argL_sml : sml (argL e a st pl i) := by
 unfold argL
 split
 · exact noL_sml (show (⟨#[]⟩ : ByteArray).size < 1000000 by decide) (by intro x hx; cases hx)
 · exact atL_sml
theorem tolL_len : (tolL e a mo x).length ≤ 4000 := inL_len
theorem tolL_sml (h : sml mo) (hx : sml x) : sml (tolL e a mo x) := inL_sml (upL_sml h) (by
 intro y hy
 rw [List.mem_singleton] at hy
 rw [hy]
 exact hx)
theorem hfX_sml {z p : Int} : sml (hfX e a st pl i z p) := noL_sml (show (⟨#[]⟩ : ByteArray).size < 1000000 by decide) (by
 intro y hy
 simp only [List.mem_cons, List.not_mem_nil, or_false] at hy
 rcases hy with rfl | rfl
 · exact argL_sml
 · exact plL_sml atL_sml)
theorem dom_Z (h : sml t) : (nthL (agA t) 0).length ≤ 4000 ∧ sml (nthL (agA t) 0) := by
 by_cases hc : chk t = 0
 ·
  rw [agA_ok hc]
  by_cases hl : 0 < (ptL t).length
  ·
   have hm : nthL (ptL t) 0 ∈ ptL t := nthL_mem hl
   obtain ⟨_, h2, h3⟩ := ptL_mem (meas_chk hc) hm
   have := (treeOf_ok hc).2.2.2
   exact ⟨by omega, sml_mem.2 (fun m hm' => sml_mem.1 h m (h3 m hm'))⟩
  ·
   have : nthL (ptL t) 0 = [] := by
    unfold nthL
    rw [List.eq_nil_of_length_eq_zero (by omega : (ptL t).length = 0)]
    rfl
   rw [this]
   exact ⟨by simp, by intro k hk; simp at hk⟩
 ·
  rw [agA_no hc]
  exact ⟨by simp [nthL], by intro k hk; simp [nthL] at hk⟩
theorem hy2_Z {z : Int} (hm : sml mo) (h : sml t) : (hy2 e a st pr mo t z pl i).1.length ≤ 8001 ∧ sml (hy2 e a st pr mo t z pl i).1 := by
 have h1 := dom_Z h
 have h2 := tolL_len (e := e) (a := a + 1) (mo := mo) (x := hfX e (a + 1) st pl i z (a + 1))
 have h3 := piP_len (p := (tolL e (a + 1) mo (hfX e (a + 1) st pl i z (a + 1)), tolE e (a + 1) mo (hfX e (a + 1) st pl i z (a + 1)))) (m := hfM z pr) (dom := nthL (agA t) 0)
 exact ⟨Nat.le_trans h3 (by simp only; omega), piP_sml (tolL_sml hm hfX_sml) h1.2⟩
theorem hyA_Z (hm : sml mo) (h : ∀ t ∈ ty, sml t) (hi : i < ty.length) : (hyA e a S st pr mo ty pl i).1.length ≤ 8001 ∧ sml (hyA e a S st pr mo ty pl i).1 := by
 unfold hyA
 split
 · exact ⟨Nat.le_trans tolL_len (by omega), tolL_sml hm argL_sml⟩
 · exact hy2_Z hm (h _ (nthL_mem hi))
theorem hyF_Z (hS : S.size < 1000000) (hm : sml mo) (h : ∀ t ∈ ty, sml t) (hn : n = ty.length) : ∀ m, m ≤ n → ∀ e a : Int, (hyF S k st pr mo ty pl n m e a).1.length ≤ 4000 + 8002 * m ∧ sml (hyF S k st pr mo ty pl n m e a).1
 | 0, _, e, a => ⟨tolL_len, tolL_sml hm (noL_sml hS (by
   intro y hy
   obtain ⟨j, _, rfl⟩ := List.mem_map.1 hy
   exact argL_sml))⟩
 | m + 1, hmn, e, a => by
  unfold hyF
  split
  ·
   have := hyF_Z hS hm h hn m (by omega) e a
   exact ⟨by omega, this.2⟩
  ·
   have h1 := hyF_Z hS hm h hn m (by omega) (hyA e a S st pr mo ty pl (n - (m + 1))).2 (a + 1)
   have h2 := hyA_Z (e := e) (a := a) (S := S) (st := st) (pr := pr) (pl := pl) (i := n - (m + 1)) hm h (by omega)
   have h3 := piP_len (p := hyF S k st pr mo ty pl n m (hyA e a S st pr mo ty pl (n - (m + 1))).2 (a + 1)) (m := mkI pr 3) (dom := (hyA e a S st pr mo ty pl (n - (m + 1))).1)
   exact ⟨by omega, piP_sml h1.2 h2.2⟩
theorem agF_Z (hS : S.size < 1000000) (hm : sml mo) (h : ∀ t ∈ ty, sml t ∧ t.length ≤ 4000) (hn : n = ty.length) : ∀ m, m ≤ n → ∀ (e a : Int) (pl : List Int), (agF S k st pr mo ty n m e a pl).1.length ≤ 4000 + 8002 * n + 4001 * m ∧ sml (agF S k st pr mo ty n m e a pl).1
 | 0, _, e, a, pl => hyF_Z hS hm (fun t ht => (h t ht).1) hn n (Nat.le_refl _) e a
 | m + 1, hmn, e, a, pl => by
  unfold agF
  have h1 := agF_Z hS hm h hn m (by omega) e (a + 1) (pl ++ [a + 1])
  have h2 := h _ (nthL_mem (l := ty) (k := n - (m + 1)) (by omega))
  have h3 := piP_len (p := agF S k st pr mo ty n m e (a + 1) (pl ++ [a + 1])) (m := orI (mkI (nthB st (n - (m + 1))) 2) (mkI pr 1)) (dom := nthL ty (n - (m + 1)))
  exact ⟨by omega, piP_sml h1.2 h2.1⟩
end
theorem nthI_app {l : List Int} {z : Int} {j : Nat} (h : ∀ j, -1000 ≤ nthI l j ∧ nthI l j ≤ 1000) (hz : -1000 ≤ z ∧ z ≤ 1000) : -1000 ≤ nthI (l ++ [z]) j ∧ nthI (l ++ [z]) j ≤ 1000 := by
 unfold nthI at h ⊢
 rw [List.getD_eq_getElem?_getD, List.getElem?_append]
 split
 ·
  have := h j
  rwa [List.getD_eq_getElem?_getD] at this
 ·
  cases hh : ([z] : List Int)[j - l.length]? with
  | none => simp
  | some v =>
   have : v = z := by
    have := List.mem_of_getElem? hh
    simpa using this
   simp only [Option.getD_some]
   omega
end
section
/- What is asked of a constructor: lemmas for the walks. -/
open Go Go.RowKit
theorem kd_no {s : ByteArray} {t : List Nd} (h1 : ¬ kdA s t = 1) (h2 : ¬ kdA s t = 2) : kdA s t = 0 :=
 Classical.byContradiction fun h => h2 (kd_two h h1).1
theorem argF_len {e a : Int} {st : List Bool} {pl : List Int} : ∀ l : List Nat, (l.map (argL e a st pl)).flatten.length ≤ l.length
 | [] => Nat.le_refl _
 | i :: l => by
  rw [List.map_cons, List.flatten_cons, List.length_append, List.length_cons]
  have := argF_len (e := e) (a := a) (st := st) (pl := pl) l
  have := argL_len (e := e) (a := a) (st := st) (pl := pl) (i := i)
  omega
theorem hyN_Z {e a k z : Int} {S : ByteArray} {st : List Bool} {pl : List Int} {n : Nat} {Ls : List Sl} (hL : lsts Ls = (List.range n).map (argL e a st pl)) (hS : S.size < 1000000) : (noL e ⟨26, k, z, S⟩ (lsts Ls)).length ≤ n + 1 ∧ sml (noL e ⟨26, k, z, S⟩ (lsts Ls)) := by
 rw [hL]
 have h1 := noL_len (e := e) (n := ⟨26, k, z, S⟩) (p := (List.range n).map (argL e a st pl))
 have h2 := argF_len (e := e) (a := a) (st := st) (pl := pl) (List.range n)
 rw [List.length_range] at h2
 exact ⟨by omega, noL_sml hS (by
  intro y hy
  obtain ⟨j, _, rfl⟩ := List.mem_map.1 hy
  exact argL_sml)⟩
theorem arg_nxt {e a : Int} {st : List Bool} {pl : List Int} {n : Nat} {Ls : List Sl} {A : Option Addr} {c : Nat} {L : List Nd} (hL : lsts Ls = (List.range n).map (argL e a st pl)) (he : L = argL e a st pl n) : lsts (Ls ++ [((A, c, L) : Sl)]) = (List.range (n + 1)).map (argL e a st pl) := by
 rw [lsts_app, lsts_one, hL, List.range_succ, List.map_append, he]
 rfl
theorem arg_bd {e a : Int} {st : List Bool} {pl : List Int} {n : Nat} {Ls : List Sl} (hL : lsts Ls = (List.range n).map (argL e a st pl)) : ∀ s ∈ Ls, s.2.2.length ≤ 100000 := by
 intro s hs
 have : s.2.2 ∈ lsts Ls := List.mem_map_of_mem hs
 rw [hL] at this
 obtain ⟨j, _, h⟩ := List.mem_map.1 this
 rw [← h]
 exact Nat.le_trans argL_len (by decide)
section
variable {S : ByteArray} {k e a : Int} {st : List Bool} {pr : Bool} {mo : List Nd} {ty : List Sl} {pl : List Int} {i n : Nat}
theorem hyS_end (hn : n = ty.length) (h : n ≤ i) : hyF S k st pr mo (lsts ty) pl n (n - i) e a = (tolL e a mo (noL e ⟨26, k, ((n : Nat) : Int), S⟩ ((List.range n).map (argL e a st pl))), tolE e a mo (noL e ⟨26, k, ((n : Nat) : Int), S⟩ ((List.range n).map (argL e a st pl)))) := hyF_end h
theorem hyS_skip (hi : i < n) (h : kdA S (nthS ty i).2.2 = 0) : hyF S k st pr mo (lsts ty) pl n (n - i) e a = hyF S k st pr mo (lsts ty) pl n (n - (i + 1)) e a := hyF_skip hi (by rw [← lsts_nth]; exact h)
theorem hyS_one (hi : i < n) (h : kdA S (nthS ty i).2.2 = 1) : hyF S k st pr mo (lsts ty) pl n (n - i) e a = piP (hyF S k st pr mo (lsts ty) pl n (n - (i + 1)) (tolE e a mo (argL e a st pl i)) (a + 1)) (mkI pr 3) (tolL e a mo (argL e a st pl i)) := by
 have h' : kdA S (nthL (lsts ty) i) = 1 := by rw [← lsts_nth]; exact h
 rw [hyF_some hi (by omega), hyA_one h']
theorem hyS_two (hi : i < n) (h : kdA S (nthS ty i).2.2 = 2) : hyF S k st pr mo (lsts ty) pl n (n - i) e a = piP (hyF S k st pr mo (lsts ty) pl n (n - (i + 1)) (hy2 e a st pr mo (nthS ty i).2.2 (nth (nthS ty i).2.2 ((nthS ty i).2.2.length - 1)).N pl i).2 (a + 1)) (mkI pr 3) (hy2 e a st pr mo (nthS ty i).2.2 (nth (nthS ty i).2.2 ((nthS ty i).2.2.length - 1)).N pl i).1 := by
 have h' : kdA S (nthL (lsts ty) i) = 2 := by rw [← lsts_nth]; exact h
 rw [hyF_some hi (by omega), hyA_two (by omega), ← lsts_nth]
theorem agS_end (hn : n = ty.length) (h : n ≤ i) : agF S k st pr mo (lsts ty) n (n - i) e a pl = hyF S k st pr mo (lsts ty) pl n (n - 0) e a := agF_end h
theorem agS_some (hi : i < n) : agF S k st pr mo (lsts ty) n (n - i) e a pl = piP (agF S k st pr mo (lsts ty) n (n - (i + 1)) e (a + 1) (pl ++ [a + 1])) (orI (mkI (nthB st i) 2) (mkI pr 1)) (nthS ty i).2.2 := by
 rw [agF_some hi, ← lsts_nth]
theorem ty_at (h : ∀ t ∈ lsts ty, sml t ∧ t.length ≤ 4000) (hi : i < ty.length) : sml (nthS ty i).2.2 ∧ (nthS ty i).2.2.length ≤ 4000 := by
 rw [lsts_nth]
 exact h _ (nthL_mem (by rw [lsts_len]; exact hi))
end
end
section
/- The type of a case: what it comes to. -/
open Go Go.RowKit
def csT (C : List (List (List Nd))) (k : Int) : List (List Nd) := (nthLL C k.toNat).map erA
def csC (K L : Int) (S : ByteArray) (T B : List Nd) (C : List Tl) (k : Int) (st : List Bool) (mo : List Nd) : Int :=
 if ¬ scE K L S T B C = 0 then scE K L S T B C else if ¬ chk mo = 0 then chk mo else if k < 0 ∨ ((C.length : Nat) : Int) ≤ k ∨ ¬ st.length = (nthT C k.toNat).2.2.length then 1 else 0
def csP (S : ByteArray) (C : List (List (List Nd))) (k : Int) (st : List Bool) (pr : Bool) (mo : List Nd) : List Nd × Int := agF S k st pr mo (csT C k) (csT C k).length (csT C k).length 0 0 []
def csF (p : List Nd × Int) : Int := if p.2 = 0 then chk p.1 else p.2
def csE (K L : Int) (S : ByteArray) (T B : List Nd) (C : List Tl) (k : Int) (st : List Bool) (pr : Bool) (mo : List Nd) : Int :=
 if ¬ csC K L S T B C k st mo = 0 then csC K L S T B C k st mo else csF (csP S (lstsT C) k st pr mo)
def csL (K L : Int) (S : ByteArray) (T B : List Nd) (C : List Tl) (k : Int) (st : List Bool) (pr : Bool) (mo : List Nd) : List Nd :=
 if csE K L S T B C k st pr mo = 0 then (csP S (lstsT C) k st pr mo).1 else []
section
variable {K L k : Int} {S : ByteArray} {T B mo : List Nd} {C : List Tl} {st : List Bool} {pr : Bool}
theorem csE_no (h : ¬ csC K L S T B C k st mo = 0) : csE K L S T B C k st pr mo = csC K L S T B C k st mo := if_pos h
theorem csL_no (h : ¬ csC K L S T B C k st mo = 0) : csL K L S T B C k st pr mo = [] := if_neg (by rw [csE_no h]; exact h)
theorem csC_1 (h : ¬ scE K L S T B C = 0) : csC K L S T B C k st mo = scE K L S T B C := if_pos h
theorem csC_2 (h : scE K L S T B C = 0) (h2 : ¬ chk mo = 0) : csC K L S T B C k st mo = chk mo := by unfold csC; rw [if_neg (not_not_intro h), if_pos h2]
theorem csC_3 (h : scE K L S T B C = 0) (h2 : chk mo = 0) (h3 : k < 0 ∨ ((C.length : Nat) : Int) ≤ k ∨ ¬ st.length = (nthT C k.toNat).2.2.length) : csC K L S T B C k st mo = 1 := by
 unfold csC; rw [if_neg (not_not_intro h), if_neg (not_not_intro h2), if_pos h3]
theorem csC_0 (h : scE K L S T B C = 0) (h2 : chk mo = 0) (h3 : ¬ (k < 0 ∨ ((C.length : Nat) : Int) ≤ k ∨ ¬ st.length = (nthT C k.toNat).2.2.length)) : csC K L S T B C k st mo = 0 := by
 unfold csC; rw [if_neg (not_not_intro h), if_neg (not_not_intro h2), if_neg h3]
theorem csN_1 (h : ¬ scE K L S T B C = 0) : csL K L S T B C k st pr mo = [] ∧ csE K L S T B C k st pr mo = scE K L S T B C := by
 have e := csC_1 (k := k) (st := st) (mo := mo) h
 exact ⟨csL_no (by rw [e]; exact h), by rw [csE_no (by rw [e]; exact h), e]⟩
theorem csN_2 (h : scE K L S T B C = 0) (h2 : ¬ chk mo = 0) : csL K L S T B C k st pr mo = [] ∧ csE K L S T B C k st pr mo = chk mo := by
 have e := csC_2 (k := k) (st := st) h h2
 exact ⟨csL_no (by rw [e]; exact h2), by rw [csE_no (by rw [e]; exact h2), e]⟩
theorem csN_3 (h : scE K L S T B C = 0) (h2 : chk mo = 0) (h3 : k < 0 ∨ ((C.length : Nat) : Int) ≤ k ∨ ¬ st.length = (nthT C k.toNat).2.2.length) : csL K L S T B C k st pr mo = [] ∧ csE K L S T B C k st pr mo = 1 := by
 have e := csC_3 h h2 h3
 exact ⟨csL_no (by rw [e]; decide), by rw [csE_no (by rw [e]; decide), e]⟩
theorem csN_0 (h : scE K L S T B C = 0) (h2 : chk mo = 0) (h3 : ¬ (k < 0 ∨ ((C.length : Nat) : Int) ≤ k ∨ ¬ st.length = (nthT C k.toNat).2.2.length)) {ty : List Sl} (hty : lsts ty = csT (lstsT C) k) :
  csL K L S T B C k st pr mo = (if csF (agF S k st pr mo (lsts ty) ty.length (ty.length - 0) 0 0 []) = 0 then (agF S k st pr mo (lsts ty) ty.length (ty.length - 0) 0 0 []).1 else []) ∧ csE K L S T B C k st pr mo = csF (agF S k st pr mo (lsts ty) ty.length (ty.length - 0) 0 0 []) := by
 have e := csC_0 h h2 h3
 have e2 : csE K L S T B C k st pr mo = csF (csP S (lstsT C) k st pr mo) := if_neg (not_not_intro e)
 have e3 : csP S (lstsT C) k st pr mo = agF S k st pr mo (lsts ty) ty.length (ty.length - 0) 0 0 [] := by
  unfold csP
  rw [← hty, lsts_len]
  rfl
 refine ⟨?_, by rw [e2, e3]⟩
 unfold csL
 rw [e2, e3]
end
theorem cs_in {K : Int} {t b : List Nd} {C : List Tl} {i : Nat} (hcl : ∀ x ∈ (lstsT C).flatten, clT x = 0) (hall : ∀ x ∈ tmD K t b (lstsT C), sml x ∧ x.length ≤ 1000000) (hK : K = 3) (hi : i < C.length) : ∀ x ∈ lsts (nthT C i).2.2, chk x = 0 ∧ sml x := fun x hx => by
 have hm : x ∈ (lstsT C).flatten := List.mem_flatten.2 ⟨lsts (nthT C i).2.2, List.mem_map.2 ⟨nthT C i, nthT_mem hi, rfl⟩, hx⟩
 have h1 := hcl x hm
 have h2 := hall x (by unfold tmD; rw [if_neg (by omega), if_neg (by omega), if_pos hK]; exact hm)
 refine ⟨Classical.byContradiction fun h => ?_, h2.1⟩
 rw [clT_chk h] at h1
 exact h h1
theorem cs_at {T : List Sl} {j : Nat} (h : ∀ x ∈ lsts T, chk x = 0 ∧ sml x) (hj : j < T.length) : sml (nthS T j).2.2 ∧ (nthS T j).2.2.length ≤ 1000000 := by
 have := h _ (nthL_mem (l := lsts T) (k := j) (by rw [lsts_len]; exact hj))
 rw [lsts_nth]
 have h2 := (treeOf_ok this.1).2.2.2
 exact ⟨this.2, by omega⟩
theorem cs_nxt {T Ls : List Sl} {j c : Nat} {A : Option Addr} (hL : lsts Ls = ((lsts T).take j).map erA) (hj : j < T.length) : lsts (Ls ++ [((A, c, erA (nthS T j).2.2) : Sl)]) = ((lsts T).take (j + 1)).map erA := by
 have hj' : j < (lsts T).length := by rw [lsts_len]; exact hj
 rw [lsts_app, lsts_one, hL, List.take_succ_eq_append_getElem hj', List.map_append, lsts_nth]
 simp [nthL, hj']
theorem cs_len {T Ls : List Sl} {j : Nat} (hL : lsts Ls = ((lsts T).take j).map erA) (hj : j ≤ T.length) : Ls.length = j := by
 rw [← lsts_len, hL, List.length_map, List.length_take, lsts_len]
 omega
theorem cs_ty {T Ls : List Sl} {j : Nat} (h : ∀ x ∈ lsts T, chk x = 0 ∧ sml x) (hL : lsts Ls = ((lsts T).take j).map erA) : ∀ t ∈ lsts Ls, sml t ∧ t.length ≤ 4000 := fun t ht => by
 rw [hL] at ht
 obtain ⟨x, hx, rfl⟩ := List.mem_map.1 ht
 obtain ⟨h1, h2⟩ := h x (List.mem_of_mem_take hx)
 have h3 := (treeOf_ok h1).2.2.2
 have h4 := erA_le x
 exact ⟨(twice_facts h1 h2).1.1, by omega⟩
theorem cs_all {C : List Tl} {Ls : List Sl} {k : Int} {j : Nat} (hL : lsts Ls = ((lsts (nthT C k.toNat).2.2).take j).map erA) (hj : (nthT C k.toNat).2.2.length ≤ j) : lsts Ls = csT (lstsT C) k := by
 rw [hL, List.take_of_length_le (by rw [lsts_len]; exact hj), lstsT_nth]
 rfl
theorem pl_nil : ∀ j, -1000 ≤ nthI [] j ∧ nthI [] j ≤ 1000 := fun j => by simp [nthI]
end
section
/- Free variables of the types of cases, and of what is asked of relations. -/
open Go Go.RowKit
mutual
theorem mo_under : ∀ (x : T) (u d : Int), 0 ≤ d → moT (-1) (u + d) x ≤ max (-1) (moT (-1) u x - d)
 | .mk n l, u, d, hd => by
  simp only [moT]
  by_cases hk : n.K = 0
  ·
   simp only [hk, if_true]
   split <;> split <;> omega
  ·
   simp only [hk, if_false]
   have h := mo_unders l ((binds n).map (u + ·)) d hd
   have e : ((binds n).map (u + ·)).map (· + d) = (binds n).map (u + d + ·) := by
    rw [List.map_map]
    exact List.map_congr_left fun b _ => by show u + b + d = u + d + b; omega
   rw [e] at h
   exact h
theorem mo_unders : ∀ (l : List T) (us : List Int) (d : Int), 0 ≤ d → moTs (-1) l (us.map (· + d)) ≤ max (-1) (moTs (-1) l us - d)
 | [], us, d, _ => by simp only [moTs]; omega
 | y :: l, [], d, _ => by simp only [List.map_nil, moTs]; omega
 | y :: l, u :: us, d, hd => by
  simp only [List.map_cons, moTs]
  have := mo_under y u d hd
  have := mo_unders l us d hd
  omega
end
mutual
theorem mo_shift {b f N : Int} (hb : 0 ≤ b) (hf : 0 ≤ f) (hN : 0 ≤ N) : ∀ (x : T) (u : Int), moT (-1) u x < N → trE (shV b f) u x = 0 → moT (-1) u (trT (shV b f) u x) < max f (N + b)
 | .mk n l, u, h, h0 => by
  by_cases hk : n.K = 0
  ·
   simp only [moT, trE, trT, hk, if_true] at h h0 ⊢
   unfold shV at h0 ⊢
   by_cases h1 : f ≤ n.N - u
   ·
    simp only [h1, if_true] at h0 ⊢
    by_cases h2 : n.N + b - u < f
    ·
     simp only [h2, if_true] at h0
     omega
    ·
     simp only [h2, if_false] at h0 ⊢
     by_cases h3 : 99 < n.N + b
     ·
      simp only [h3, if_true] at h0
      omega
     ·
      simp only [h3, if_false, moT, if_true]
      split at h <;> split <;> omega
   ·
    simp only [h1, if_false, moT, hk, if_true]
    split <;> omega
  ·
   simp only [moT, trE, trT, hk, if_false] at h h0 ⊢
   exact mo_shifts hb hf hN l _ h h0
theorem mo_shifts {b f N : Int} (hb : 0 ≤ b) (hf : 0 ≤ f) (hN : 0 ≤ N) : ∀ (l : List T) (us : List Int), moTs (-1) l us < N → trEs (shV b f) l us = 0 → moTs (-1) (trTs (shV b f) l us) us < max f (N + b)
 | [], us, _, _ => by simp only [trTs, moTs]; omega
 | y :: l, [], _, _ => by simp only [trTs, moTs]; omega
 | y :: l, u :: us, h, h0 => by
  simp only [trTs, moTs, trEs] at h h0 ⊢
  by_cases h1 : trE (shV b f) u y = 0
  ·
   rw [if_pos h1] at h0
   have := mo_shift hb hf hN y u (by omega) h1
   have := mo_shifts hb hf hN l us (by omega) h0
   omega
  ·
   rw [if_neg h1] at h0
   exact absurd h0 h1
end
def FB (N : Int) (t : List Nd) : Prop := ∃ x : T, x.wf = true ∧ t = x.flat ∧ moT (-1) 0 x < N
theorem FB.mono {N M : Int} {t : List Nd} (h : FB N t) (hm : N ≤ M) : FB M t := by
 obtain ⟨x, h1, h2, h3⟩ := h
 exact ⟨x, h1, h2, by omega⟩
theorem FB.meas {N : Int} {t : List Nd} (h : FB N t) : measB t = true := by
 obtain ⟨x, h1, rfl, _⟩ := h
 exact meas_flat h1
theorem FB.mo {N : Int} {t : List Nd} (h : FB N t) : moT (-1) 0 (treeOf t) < N := by
 obtain ⟨x, h1, rfl, h3⟩ := h
 rw [treeOf_flat h1]
 exact h3
theorem FB.fr {N : Int} {t : List Nd} (h : FB N t) (hN : 0 ≤ N) : frF t ≤ N := by
 unfold frF
 split
 ·
  have := h.mo
  show moT (-1) 0 (treeOf t) + 1 ≤ N
  omega
 · exact hN
theorem FB.pos {N : Int} {t : List Nd} (h : FB N t) : 0 ≤ N := by
 obtain ⟨x, _, _, h3⟩ := h
 have := moT_ge (-1) x 0
 omega
theorem FB_fr {t : List Nd} (h : chk t = 0) : FB (frF t) t := by
 obtain ⟨h1, h2, _, _⟩ := treeOf_ok h
 refine ⟨treeOf t, h1, h2.symm, ?_⟩
 unfold frF
 rw [if_pos h]
 show moT (-1) 0 (treeOf t) < moT (-1) 0 (treeOf t) + 1
 omega
theorem FB_up {N n k : Int} {t : List Nd} (h : FB N t) (hn : 0 ≤ n) (hk : 0 ≤ k) (h0 : sfE t n k = 0) : FB (max k (N + n)) (sfA t n k) := by
 obtain ⟨hc, hw, h3, h4, he⟩ := sf_tree h0
 refine ⟨_, hw, h3, ?_⟩
 have h5 := h0
 rw [(sfE_ok hc).1] at h5
 have h6 := mo_shift (b := clamp n) (f := max 0 (clamp k)) (N := N) (by unfold clamp; omega) (by omega) h.pos (treeOf t) 0 h.mo h5
 have : clamp n ≤ n := by unfold clamp; omega
 have : clamp k ≤ k := by unfold clamp; omega
 omega
theorem nthLs_mem {l : List (List Nd)} {i : Int} (h0 : 0 ≤ i) (h : i < l.length) : nthLs l i ∈ l := nthL_mem (by omega)
section
variable {l : List (List Nd)} {M N : Int}
mutual
theorem mo_put (hM : 0 ≤ M) (hl : ∀ y ∈ l, FB M y) : ∀ (x : T) (u : Int), 0 ≤ u → x.wf = true → moT (-1) u x < N → trE (puV 0 l) u x = 0 → moT (-1) u (trT (puV 0 l) u x) < max M (N - l.length)
 | .mk n a, u, hu, hw, h, h0 => by
  obtain ⟨w1, w2, w3⟩ := wf_parts hw
  by_cases hk : n.K = 0
  ·
   simp only [moT, trE, trT, hk, if_true] at h h0 ⊢
   unfold puV at h0 ⊢
   by_cases h1 : n.N - u < 0
   ·
    simp only [h1, if_true, moT, hk]
    split <;> omega
   ·
    simp only [h1, if_false] at h0 ⊢
    by_cases h2 : n.N - u < 0 + l.length
    ·
     simp only [h2, if_true] at h0 ⊢
     have hm := hl _ (nthLs_mem (l := l) (i := n.N - u - 0) (by omega) (by omega))
     have hu2 := (FB_up hm (n := u + 0) (k := 0) (by omega) (by omega) h0).mo
     have := mo_under (treeOf (sfA (nthLs l (n.N - u - 0)) (u + 0) 0)) 0 u hu
     rw [Int.zero_add] at this
     omega
    ·
     simp only [h2, if_false, moT, if_true]
     split at h <;> split <;> omega
  ·
   simp only [moT, trE, trT, hk, if_false] at h h0 ⊢
   exact mo_puts hM hl a _ (fun v hv => ubinds hu v hv) w3 h h0
theorem mo_puts (hM : 0 ≤ M) (hl : ∀ y ∈ l, FB M y) : ∀ (a : List T) (us : List Int), (∀ v ∈ us, 0 ≤ v) → T.wfs a = true → moTs (-1) a us < N → trEs (puV 0 l) a us = 0 → moTs (-1) (trTs (puV 0 l) a us) us < max M (N - l.length)
 | [], us, _, _, _, _ => by simp only [trTs, moTs]; omega
 | y :: a, [], _, _, _, _ => by simp only [trTs, moTs]; omega
 | y :: a, u :: us, hu, hw, h, h0 => by
  obtain ⟨w1, w2⟩ := wf_cons hw
  simp only [trTs, moTs, trEs] at h h0 ⊢
  by_cases h1 : trE (puV 0 l) u y = 0
  ·
   rw [if_pos h1] at h0
   have := mo_put hM hl y u (hu u (by simp)) w1 (by omega) h1
   have := mo_puts hM hl a us (fun v hv => hu v (by simp [hv])) w2 (by omega) h0
   omega
  ·
   rw [if_neg h1] at h0
   exact absurd h0 h1
end
theorem FB_in {t : List Nd} (h : FB N t) (hM : 0 ≤ M) (hl : ∀ y ∈ l, FB M y) (h0 : inE t l = 0) : FB (max M (N - l.length)) (inA t l) := by
 have hck : ckE (t :: l) = 0 := Classical.byContradiction fun hc => by
  rw [(in_err hc).1] at h0
  exact hc h0
 obtain ⟨e1, e2⟩ := in_ok hck
 have hc : chk t = 0 := ck_oks hck t (by simp)
 rw [e1] at h0
 rw [e2]
 have h1 : trEL (puV 0 l) t 0 = 0 := Classical.byContradiction fun hn => by
  rw [(po_err hn).1] at h0
  exact hn h0
 have h2 := po_chk h1
 have h3 : chk (trL (puV 0 l) t 0) = 0 := by rw [← h2.1]; exact h0
 rw [h2.2, if_pos h3]
 have hw := (treeOf_meas (meas_chk hc)).1
 refine ⟨trT (puV 0 l) 0 (treeOf t), tr_wf (puV_wf (Int.le_refl _)) (treeOf t) 0 hw (Int.le_refl _) h1, if_pos h1, ?_⟩
 exact mo_put hM hl (treeOf t) 0 (Int.le_refl _) hw h.mo h1
end
def FBs (N : Int) : List Int → List (List Nd) → Prop
 | b :: bs, t :: l => FB (N + b) t ∧ 0 ≤ b ∧ FBs N bs l
 | [], [] => True
 | _, _ => False
theorem FBs_ex {N : Int} (hN : 0 ≤ N) : ∀ {bs : List Int} {l : List (List Nd)}, FBs N bs l → ∃ X : List T, T.wfs X = true ∧ X.length = bs.length ∧ l = X.map T.flat ∧ moTs (-1) X (bs.map (0 + ·)) < N
 | b :: bs, t :: l, h => by
  obtain ⟨⟨x, h1, h2, h3⟩, hb, h4⟩ := h
  obtain ⟨X, v1, v2, v3, v4⟩ := FBs_ex hN h4
  refine ⟨x :: X, by simp [T.wfs, h1, v1], by simp [v2], by simp [h2, v3], ?_⟩
  simp only [List.map_cons, moTs]
  have := mo_under x 0 b hb
  omega
 | [], [], _ => ⟨[], rfl, rfl, rfl, by simp only [List.map_nil, moTs]; omega⟩
 | [], _ :: _, h => h.elim
 | _ :: _, [], h => h.elim
theorem FB_node {N : Int} {n : Nd} {p : List (List Nd)} (hN : 0 ≤ N) (hr : right n = true) (hk : ¬ n.K = 0) (h : FBs N (binds n) p) : FB N (noL 0 n p) := by
 obtain ⟨X, v1, v2, v3, v4⟩ := FBs_ex hN h
 refine ⟨.mk n X, ?_, ?_, ?_⟩
 ·
  rw [T.wf_mk]
  simp only [Bool.and_eq_true, beq_iff_eq]
  exact ⟨⟨hr, by rw [v2]; rfl⟩, v1⟩
 ·
  show (if (0 : Int) = 0 then p.flatten ++ [n] else []) = _
  rw [if_pos rfl, v3, T.flat_mk, flats_flatten]
 ·
  simp only [moT, hk, if_false]
  exact v4
theorem FB_var {N i : Int} (h0 : 0 ≤ i) (h1 : i ≤ 99) (h : i < N) : FB N (noL 0 (vN i) []) := by
 refine ⟨.mk (vN i) [], ?_, rfl, ?_⟩
 ·
  rw [T.wf_mk]
  simp only [Bool.and_eq_true, beq_iff_eq]
  exact ⟨⟨by rw [right_var rfl]; exact decide_eq_true ⟨h0, h1, rfl, rfl⟩, rfl⟩, rfl⟩
 ·
  simp only [moT, if_true]
  split <;> omega
theorem FB_tick {N : Int} (hN : 0 ≤ N) : FB N (noL 0 tkN []) := FB_node hN (by decide) (by decide) trivial
theorem FB_pi {N m : Int} {a b : List Nd} (hm : 0 ≤ m ∧ m ≤ 3) (ha : FB N a) (hb : FB (N + 1) b) : FB N (noL 0 (piN m) [a, b]) := by
 refine FB_node ha.pos ?_ (by show ¬ (3 : Int) = 0; omega) ?_
 ·
  rw [right_pi (.inl rfl)]
  exact decide_eq_true ⟨hm.1, hm.2, rfl, rfl⟩
 ·
  have e : binds (piN m) = [0, 1] := rfl
  rw [e]
  exact ⟨ha.mono (by omega), by omega, hb, by omega, trivial⟩
theorem FB_app {N : Int} {a b : List Nd} (ha : FB N a) (hb : FB N b) : FB N (noL 0 ⟨5, 0, 0, ⟨#[]⟩⟩ [a, b]) := by
 refine FB_node ha.pos (by decide) (by decide) ?_
 have e : binds ⟨5, 0, 0, ⟨#[]⟩⟩ = [0, 0] := rfl
 rw [e]
 exact ⟨ha.mono (by omega), by omega, hb.mono (by omega), by omega, trivial⟩
def MB (e N : Int) (p : List Nd × Int) : Prop := (GE e → GE p.2) ∧ (p.2 = 0 → e = 0 ∧ FB N p.1)
theorem MB_pi {e N m : Int} {p : List Nd × Int} {a : List Nd} (hm : 0 ≤ m ∧ m ≤ 3) (ha : p.2 = 0 → FB N a) (h : MB e (N + 1) p) : MB e N (piP p m a) := by
 refine ⟨h.1, fun h0 => ?_⟩
 have h0' : p.2 = 0 := h0
 obtain ⟨h1, h2⟩ := h.2 h0'
 refine ⟨h1, ?_⟩
 show FB N (noL p.2 (piN m) [a, p.1])
 rw [h0']
 exact FB_pi hm (ha h0') h2
theorem MB_inst {e a : Int} {t : List Nd} {l : List (List Nd)} {M : Int} (hc : chk t = 0) (ha : 0 ≤ a) (hM : 0 ≤ M) (hl : upE e t a l.length = 0 → ∀ y ∈ l, FB M y) (hlM : M ≤ max 0 (frF t - l.length) + a) :
  MB e (max 0 (frF t - l.length) + a) (inL (upE e t a l.length) (upL e t a l.length) l, inQ (upE e t a l.length) (upL e t a l.length) l) := by
 refine ⟨fun hg => in_G (up_G hg (fun _ => hc) ha) (fun h0 => ?_), fun h0 => ?_⟩
 ·
  obtain ⟨h1, h2⟩ := up_zero h0
  intro x hx
  rcases List.mem_cons.1 hx with rfl | hx
  · exact meas_chk (up_meas h0)
  · exact (hl h0 x hx).meas
 ·
  obtain ⟨h1, h2⟩ := in_zero h0
  have hl' := hl h1
  obtain ⟨h3, h4⟩ := up_zero h1
  refine ⟨h3, ?_⟩
  show FB _ (inL (upE e t a l.length) (upL e t a l.length) l)
  rw [h1, inL_zero]
  rw [h3, upL_zero] at h2 ⊢
  refine (FB_in (FB_up (FB_fr hc) ha (by omega) h4) hM hl' h2).mono ?_
  omega
theorem MB.mono {e N M : Int} {p : List Nd × Int} (h : MB e N p) (hm : N ≤ M) : MB e M p := ⟨h.1, fun h0 => ⟨(h.2 h0).1, (h.2 h0).2.mono hm⟩⟩
theorem MB_piq {e N m : Int} {p q : List Nd × Int} (hm : 0 ≤ m ∧ m ≤ 3) (hq : MB e N q) (h : MB q.2 (N + 1) p) : MB e N (piP p m q.1) := by
 refine ⟨fun hg => h.1 (hq.1 hg), fun h0 => ?_⟩
 have h0' : p.2 = 0 := h0
 obtain ⟨h1, h2⟩ := h.2 h0'
 obtain ⟨h3, h4⟩ := hq.2 h1
 refine ⟨h3, ?_⟩
 show FB N (noL p.2 (piN m) [q.1, p.1])
 rw [h0']
 exact FB_pi hm h4 h2
theorem MB_up {e a : Int} {t : List Nd} (hc : chk t = 0) (ha : 0 ≤ a) : MB e (frF t + a) (upL e t a 0, upE e t a 0) := by
 refine ⟨fun hg => up_G hg (fun _ => hc) ha, fun h0 => ?_⟩
 obtain ⟨h1, h2⟩ := up_zero h0
 refine ⟨h1, ?_⟩
 show FB _ (upL e t a 0)
 rw [h1, upL_zero]
 have := (FB_fr hc).pos
 exact (FB_up (FB_fr hc) ha (by omega) h2).mono (by omega)
theorem at_FB {e a p N : Int} (h0 : e = 0) (h1 : 1 ≤ p) (hp : p ≤ a) (ha : a ≤ 100) (hN : a ≤ N) : FB N (atL e a p) := by
 unfold atL
 rw [h0]
 exact FB_var (by omega) (by omega) (by omega)
section
variable {e a x y z N : Int} {r A : List Nd}
theorem rel_MB (hc : chk r = 0) (hx : 1 ≤ x ∧ x ≤ a) (hy : 1 ≤ y ∧ y ≤ a) (ha : a ≤ 100) (hN : max 0 (frF r - 2) ≤ N) : MB e (N + a) (relL e a r x y, relE e a r x y) :=
 (MB_inst (l := [atL (upE e r a 2) a y, atL (upE e r a 2) a x]) (M := a) hc (by omega) (by omega) (fun h0 => by
  intro t ht
  simp only [List.mem_cons, List.not_mem_nil, or_false] at ht
  rcases ht with rfl | rfl
  · exact at_FB h0 hy.1 hy.2 ha (Int.le_refl _)
  · exact at_FB h0 hx.1 hx.2 ha (Int.le_refl _)) (by omega)).mono (by show max 0 (frF r - 2) + a ≤ N + a; omega)
theorem tr6_MB (hc : chk r = 0) (hx : 1 ≤ x ∧ x ≤ a) (hz : 1 ≤ z ∧ z ≤ a) (ha : a ≤ 90) (hN : max 0 (frF r - 2) ≤ N) : MB e (N + a) (tr6 e a r x z) := rel_MB hc hx hz (by omega) hN
theorem tr5_MB (hc : chk r = 0) (hx : 1 ≤ x ∧ x ≤ a) (hy : 1 ≤ y ∧ y ≤ a) (hz : 1 ≤ z ∧ z ≤ a) (ha : a ≤ 80) (hN : max 0 (frF r - 2) ≤ N) : MB e (N + a) (tr5 e a r x y z) := by
 refine MB_piq (q := (relL e a r y z, relE e a r y z)) (by omega) (rel_MB hc hy hz (by omega) hN) ?_
 rw [show N + a + 1 = N + (a + 1) by omega]
 exact tr6_MB hc (by omega) (by omega) (by omega) hN
theorem tr4_MB (hc : chk r = 0) (hx : 1 ≤ x ∧ x ≤ a) (hy : 1 ≤ y ∧ y ≤ a) (hz : 1 ≤ z ∧ z ≤ a) (ha : a ≤ 70) (hN : max 0 (frF r - 2) ≤ N) : MB e (N + a) (tr4 e a r x y z) := by
 refine MB_piq (q := (relL e a r x y, relE e a r x y)) (by omega) (rel_MB hc hx hy (by omega) hN) ?_
 rw [show N + a + 1 = N + (a + 1) by omega]
 exact tr5_MB hc (by omega) (by omega) (by omega) (by omega) hN
theorem tr3_MB (hc : chk r = 0) (hA : chk A = 0) (hx : 1 ≤ x ∧ x ≤ a) (hy : 1 ≤ y ∧ y ≤ a) (ha : a ≤ 60) (hN : max 0 (frF r - 2) ≤ N) (hM : frF A ≤ N) : MB e (N + a) (tr3 e a A r x y) := by
 refine MB_piq (q := (upL e A a 0, upE e A a 0)) (by omega) ((MB_up hA (by omega)).mono (by omega)) ?_
 rw [show N + a + 1 = N + (a + 1) by omega]
 exact tr4_MB hc (by omega) (by omega) (by omega) (by omega) hN
theorem tr2_MB (hc : chk r = 0) (hA : chk A = 0) (hx : 1 ≤ x ∧ x ≤ a) (ha : a ≤ 50) (hN : max 0 (frF r - 2) ≤ N) (hM : frF A ≤ N) : MB e (N + a) (tr2 e a A r x) := by
 refine MB_piq (q := (upL e A a 0, upE e A a 0)) (by omega) ((MB_up hA (by omega)).mono (by omega)) ?_
 rw [show N + a + 1 = N + (a + 1) by omega]
 exact tr3_MB hc hA (by omega) (by omega) (by omega) hN hM
theorem tr1_MB (hc : chk r = 0) (hA : chk A = 0) (h0 : 0 ≤ a) (ha : a ≤ 40) (hN : max 0 (frF r - 2) ≤ N) (hM : frF A ≤ N) : MB e (N + a) (tr1 e a A r) := by
 refine MB_piq (q := (upL e A a 0, upE e A a 0)) (by omega) ((MB_up hA (by omega)).mono (by omega)) ?_
 rw [show N + a + 1 = N + (a + 1) by omega]
 exact tr2_MB hc hA (by omega) (by omega) hN hM
theorem trv_ok (h : trvE A r = 0) : chk A = 0 ∧ chk r = 0 ∧ chk (trvL A r) = 0 ∧ frF (trvL A r) ≤ max (frF A) (max 0 (frF r - 2)) := by
 have h1 : trvC A r = 0 := Classical.byContradiction fun hn => by
  unfold trvE at h
  rw [if_pos hn] at h
  exact hn h
 have h2 : chk A = 0 ∧ chk r = 0 := by
  unfold trvC at h1
  by_cases hA : chk A = 0
  ·
   rw [if_neg (not_not_intro hA)] at h1
   exact ⟨hA, h1⟩
  ·
   rw [if_pos hA] at h1
   exact absurd h1 hA
 have hm := tr1_MB (e := 0) (a := 0) (N := max (frF A) (max 0 (frF r - 2))) h2.2 h2.1 (by omega) (by omega) (by omega) (by omega)
 have h4 : trvL A r = (tr1 0 0 A r).1 := if_pos h
 unfold trvE at h
 rw [if_neg (not_not_intro h1)] at h
 by_cases h3 : (tr1 0 0 A r).2 = 0
 ·
  rw [if_pos h3] at h
  refine ⟨h2.1, h2.2, by rw [h4]; exact h, ?_⟩
  rw [h4]
  exact ((hm.2 h3).2.mono (by omega)).fr (by omega)
 ·
  rw [if_neg h3] at h
  exact absurd h h3
theorem trv_no (h : ¬ trvE A r = 0) (hA : chk A = 0) (hr : chk r = 0) : grB (trvE A r) = true := by
 have h1 : trvC A r = 0 := by
  unfold trvC
  rw [if_neg (not_not_intro hA)]
  exact hr
 have hm := tr1_MB (e := 0) (a := 0) (N := max (frF A) (max 0 (frF r - 2))) hr hA (by omega) (by omega) (by omega) (by omega)
 have hg : GE (trvE A r) := by
  unfold trvE
  rw [if_neg (not_not_intro h1)]
  by_cases h3 : (tr1 0 0 A r).2 = 0
  ·
   rw [if_pos h3]
   exact GE.meas (hm.2 h3).2.meas
  ·
   rw [if_neg h3]
   exact hm.1 GE.zero
 unfold grB
 rcases hg with q | q | q | q
 · exact absurd q h
 all_goals simp [q]
end
end
section
/- Free variables of the types of cases. -/
open Go Go.RowKit
theorem orI_3 {x y : Int} (hx : 0 ≤ x ∧ x ≤ 3) (hy : 0 ≤ y ∧ y ≤ 3) : 0 ≤ orI x y ∧ orI x y ≤ 3 := by
 unfold orI
 have h : x.toNat ||| y.toNat < 2 ^ 2 := Nat.or_lt_two_pow (by omega) (by omega)
 omega
theorem mkI_3 {b : Bool} {z : Int} (h : 0 ≤ z ∧ z ≤ 3) : 0 ≤ mkI b z ∧ mkI b z ≤ 3 := by unfold mkI; split <;> omega
theorem bandI_3 {z : Int} : 0 ≤ bandI z 2 ∧ bandI z 2 ≤ 3 := by
 unfold bandI
 have := Nat.and_le_right (n := z.toNat) (m := 2)
 omega
section
variable {S : ByteArray} {k e a : Int} {st : List Bool} {pr : Bool} {mo x t : List Nd} {ty : List (List Nd)} {pl : List Int} {n i : Nat}
theorem arg_FB (h0 : e = 0) (hp : 1 ≤ nthI pl i ∧ nthI pl i ≤ a) (ha : a ≤ 100) : FB a (argL e a st pl i) := by
 unfold argL
 split
 · rw [h0]; exact FB_tick (by omega)
 · exact at_FB h0 hp.1 hp.2 ha (Int.le_refl _)
theorem tol_MB (hc : chk mo = 0) (ha : 0 ≤ a) (hx : e = 0 → FB a x) : MB e (max 0 (frF mo - 1) + a) (tolL e a mo x, tolE e a mo x) :=
 MB_inst (l := [x]) (M := a) hc ha ha (fun h0 => by
  intro t ht
  rw [List.mem_singleton.1 ht]
  exact hx (up_zero h0).1) (by omega)
theorem hfX_FB {z p : Int} (h0 : e = 0) (hp : 1 ≤ nthI pl i ∧ nthI pl i ≤ a) (hq : 1 ≤ p ∧ p ≤ a) (ha : a ≤ 100) : FB a (hfX e a st pl i z p) := by
 unfold hfX
 have h1 := arg_FB (st := st) h0 hp ha
 have h2 : FB a (plL e z (atL e a p)) := by
  unfold plL
  split
  · rw [h0]; exact FB_tick (by omega)
  · exact at_FB h0 hq.1 hq.2 ha (Int.le_refl _)
 rw [h0] at h1 h2 ⊢
 exact FB_app h1 h2
theorem dom_FB (hc : chk t = 0) (hf : frF t ≤ 0) (h3 : (nth t (t.length - 1)).K = 3) : FB 0 (nthL (agA t) 0) := by
 obtain ⟨m, l, hx, hr, hl, hw, _, h5, _, _⟩ := tree_parts (meas_chk hc)
 rw [h5] at h3
 have h2 : l.length = 2 := by rw [← hl]; exact many_3 h3
 rw [agA_ok hc]
 match l, h2 with
 | [x, y], _ =>
  have ep : nthL (ptL t) 0 = x.flat := by unfold ptL; rw [hx]; rfl
  rw [ep]
  refine ⟨x, (wf_cons hw).1, rfl, ?_⟩
  unfold frF at hf
  rw [if_pos hc] at hf
  unfold moL at hf
  have e : binds m = [0, 1] := by simp [binds, h3, shp]
  rw [hx] at hf
  simp only [moT, h3, e, moTs] at hf
  have q : moTs (-1) [x, y] [0, 1] = max (moT (-1) 0 x) (moTs (-1) [y] [1]) := by simp [moTs]
  simp at hf
  omega
theorem hy2_MB {z : Int} (hm : chk mo = 0) (hc : chk t = 0) (hf : frF t ≤ 0) (h3 : (nth t (t.length - 1)).K = 3) (ha : a ≤ 90) (h0 : 0 ≤ a) (hp : 1 ≤ nthI pl i ∧ nthI pl i ≤ a) : MB e (max 0 (frF mo - 1) + a) (hy2 e a st pr mo t z pl i) := by
 refine MB_pi (orI_3 bandI_3 (mkI_3 (by omega))) (fun _ => (dom_FB hc hf h3).mono (by omega)) ?_
 rw [show max 0 (frF mo - 1) + a + 1 = max 0 (frF mo - 1) + (a + 1) by omega]
 exact tol_MB hm (by omega) (fun h => hfX_FB h (by omega) (by omega) (by omega))
theorem hyA_MB (hm : chk mo = 0) (hc : chk (nthL ty i) = 0) (hf : frF (nthL ty i) ≤ 0) (h0 : 0 ≤ a) (ha : a ≤ 90) (hp : 1 ≤ nthI pl i ∧ nthI pl i ≤ a) (hk : ¬ kdA S (nthL ty i) = 0) : MB e (max 0 (frF mo - 1) + a) (hyA e a S st pr mo ty pl i) := by
 by_cases h1 : kdA S (nthL ty i) = 1
 ·
  rw [hyA_one h1]
  exact tol_MB hm h0 (fun h => arg_FB h hp (by omega))
 ·
  rw [hyA_two h1]
  exact hy2_MB hm hc hf (kd_two hk h1).2.2 ha h0 hp
theorem FBs_zero {N : Int} : ∀ {l : List (List Nd)}, (∀ y ∈ l, FB N y) → FBs N (List.replicate l.length 0) l
 | [], _ => trivial
 | y :: l, h => ⟨by rw [Int.add_zero]; exact h y (by simp), Int.le_refl _, FBs_zero (fun z hz => h z (by simp [hz]))⟩
theorem con_FB (h0 : e = 0) (hS : nameOk S = true) (hk : 0 ≤ k ∧ k < 6) (hn : n ≤ 6) (hp : ∀ j, j < n → 1 ≤ nthI pl j ∧ nthI pl j ≤ a) (ha0 : 0 ≤ a) (ha : a ≤ 100) : FB a (noL e ⟨26, k, ((n : Nat) : Int), S⟩ ((List.range n).map (argL e a st pl))) := by
 have hl : ((List.range n).map (argL e a st pl)).length = n := by simp
 have h1 : ∀ y ∈ (List.range n).map (argL e a st pl), FB a y := fun y hy => by
  obtain ⟨j, hj, rfl⟩ := List.mem_map.1 hy
  exact arg_FB h0 (hp j (List.mem_range.1 hj)) ha
 have h2 := FBs_zero h1
 rw [hl] at h2
 rw [h0] at h2 ⊢
 refine FB_node ha0 ?_ (by show ¬ (26 : Int) = 0; omega) ?_
 ·
  rw [right_con2 rfl]
  exact decide_eq_true ⟨hS, hk.1, hk.2, by show (0 : Int) ≤ (n : Int); omega, by show (n : Int) ≤ 6; omega⟩
 ·
  have e1 : binds ⟨26, k, ((n : Nat) : Int), S⟩ = List.replicate n 0 := by simp [binds]
  rw [e1]
  exact h2
def TyC (ty : List (List Nd)) : Prop := ∀ i, i < ty.length → chk (nthL ty i) = 0 ∧ frF (nthL ty i) ≤ 0
theorem hyF_MB (hm : chk mo = 0) (hty : TyC ty) (hn : n = ty.length) (hS : nameOk S = true) (hk : 0 ≤ k ∧ k < 6) (h6 : n ≤ 6) (hp : ∀ j, j < n → 1 ≤ nthI pl j ∧ nthI pl j ≤ n) : ∀ (m : Nat), m ≤ n → ∀ e a : Int, (n : Int) ≤ a → a + m ≤ 80 → MB e (max 0 (frF mo - 1) + a) (hyF S k st pr mo ty pl n m e a)
 | 0, _, e, a, h1, h2 => tol_MB hm (by omega) (fun h => con_FB h hS hk h6 (fun j hj => by have := hp j hj; omega) (by omega) (by omega))
 | m + 1, hmn, e, a, h1, h2 => by
  have hi : n - (m + 1) < ty.length := by omega
  unfold hyF
  split
  · exact hyF_MB hm hty hn hS hk h6 hp m (by omega) e a h1 (by omega)
  ·
   rename_i hkd
   have hq := hp (n - (m + 1)) (by omega)
   refine MB_piq (mkI_3 (by omega)) (hyA_MB hm (hty _ hi).1 (hty _ hi).2 (by omega) (by omega) (by omega) hkd) ?_
   rw [show max 0 (frF mo - 1) + a + 1 = max 0 (frF mo - 1) + (a + 1) by omega]
   exact hyF_MB hm hty hn hS hk h6 hp m (by omega) _ (a + 1) (by omega) (by omega)
theorem agF_MB (hm : chk mo = 0) (hty : TyC ty) (hn : n = ty.length) (hS : nameOk S = true) (hk : 0 ≤ k ∧ k < 6) (h6 : n ≤ 6) : ∀ (m : Nat), m ≤ n → ∀ (e a : Int) (pl : List Int), a = ((n - m : Nat) : Int) → pl.length = n - m → (∀ j, j < n - m → 1 ≤ nthI pl j ∧ nthI pl j ≤ n) → MB e (max 0 (frF mo - 1) + a) (agF S k st pr mo ty n m e a pl)
 | 0, _, e, a, pl, ha, hl, hp => hyF_MB hm hty hn hS hk h6 hp n (Nat.le_refl _) e a (by omega) (by omega)
 | m + 1, hmn, e, a, pl, ha, hl, hp => by
  have hi : n - (m + 1) < ty.length := by omega
  have h0 := hty _ hi
  unfold agF
  refine MB_pi (orI_3 (mkI_3 (by omega)) (mkI_3 (by omega))) (fun _ => (FB_fr h0.1).mono (by omega)) ?_
  rw [show max 0 (frF mo - 1) + a + 1 = max 0 (frF mo - 1) + (a + 1) by omega]
  refine agF_MB hm hty hn hS hk h6 m (by omega) e (a + 1) (pl ++ [a + 1]) (by omega) (by simp; omega) (fun j hj => ?_)
  unfold nthI at hp ⊢
  rw [List.getD_eq_getElem?_getD, List.getElem?_append]
  by_cases hjl : j < pl.length
  ·
   rw [if_pos hjl, ← List.getD_eq_getElem?_getD]
   exact hp j (by omega)
  ·
   rw [if_neg hjl, show j - pl.length = 0 by omega]
   simp
   omega
end
mutual
theorem mo_er : ∀ (x : T) (u : Int), moT (-1) u (erT x) ≤ moT (-1) u x
 | .mk n l, u => by
  by_cases hk : n.K = 28
  ·
   have e : moT (-1) u (erT (.mk n l)) = -1 := by simp [erT, hk, moT, tick, binds, shp, moTs]
   rw [e]
   exact moT_ge _ _ _
  ·
   simp only [erT, hk, if_false, moT]
   split
   · exact Int.le_refl _
   · exact mo_ers l _
theorem mo_ers : ∀ (l : List T) (us : List Int), moTs (-1) (erTs l) us ≤ moTs (-1) l us
 | [], us => by simp only [erTs]; exact Int.le_refl _
 | y :: l, [] => by simp only [erTs, moTs]; exact Int.le_refl _
 | y :: l, u :: us => by
  simp only [erTs, moTs]
  have := mo_er y u
  have := mo_ers l us
  omega
end
theorem er_clo {t : List Nd} (hc : chk t = 0) (hs : sml t) (hf : frF t ≤ 0) : chk (erA t) = 0 ∧ frF (erA t) ≤ 0 := by
 have h1 := (twice_facts hc hs).1.2.1
 refine ⟨h1, ?_⟩
 unfold frF at hf ⊢
 rw [if_pos hc] at hf
 rw [if_pos h1]
 unfold moL at hf ⊢
 rw [erA_ok hc, erL_tree hc]
 have := mo_er (treeOf t) 0
 omega
theorem dk_name {K L : Int} {S : ByteArray} {t b : List Nd} {c : List Tl} (h : dkE K L S t b c = 0) : nameOk S = true := by
 unfold dkE dkB frE at h
 split at h
 ·
  rename_i h1
  unfold frE at h
  split at h
  ·
   rename_i h2
   unfold mkI nmB at h2
   cases hq : nameOk S with
   | true => rfl
   | false => rw [hq] at h2; simp at h2
  · rename_i h2; exact absurd h h2
 · rename_i h1; exact absurd h h1
theorem cl_T {t : List Nd} (h : clT t = 0) : chk t = 0 ∧ frF t ≤ 0 := by
 have hc : chk t = 0 := Classical.byContradiction fun hn => by rw [clT_chk hn] at h; exact hn h
 refine ⟨hc, Classical.byContradiction fun hn => ?_⟩
 rw [clT_free hc (by omega)] at h
 exact absurd h (by decide)
section
variable {K L k : Int} {S : ByteArray} {T B mo : List Nd} {C : List Tl} {st : List Bool} {pr : Bool}
theorem cs_ty2 (hcl : ∀ x ∈ (lstsT C).flatten, clT x = 0) (hs : ∀ x ∈ (lstsT C).flatten, sml x) : TyC (csT (lstsT C) k) := fun i hi => by
 have hi' : i < (nthLL (lstsT C) k.toNat).length := by unfold csT at hi; rwa [List.length_map] at hi
 have hk : k.toNat < (lstsT C).length := Classical.byContradiction fun hn => by
  have : nthLL (lstsT C) k.toNat = [] := by unfold nthLL; rw [List.getD_eq_getElem?_getD, List.getElem?_eq_none (by omega)]; rfl
  rw [this] at hi'
  exact absurd hi' (by simp)
 have hm : nthL (nthLL (lstsT C) k.toNat) i ∈ (lstsT C).flatten := by
  refine List.mem_flatten.2 ⟨nthLL (lstsT C) k.toNat, ?_, nthL_mem hi'⟩
  have : nthLL (lstsT C) k.toNat = (lstsT C)[k.toNat] := by simp [nthLL, hk]
  rw [this]
  exact List.getElem_mem hk
 have e : nthL (csT (lstsT C) k) i = erA (nthL (nthLL (lstsT C) k.toNat) i) := by simp [csT, nthL, hi']
 rw [e]
 obtain ⟨h1, h2⟩ := cl_T (hcl _ hm)
 exact er_clo h1 (hs _ hm) h2
theorem cs_ok (h : csE K L S T B C k st pr mo = 0) (hs : ∀ x ∈ (lstsT C).flatten, sml x) : chk mo = 0 ∧ chk (csL K L S T B C k st pr mo) = 0 ∧ frF (csL K L S T B C k st pr mo) ≤ max 0 (frF mo - 1) := by
 have h1 : csC K L S T B C k st mo = 0 := Classical.byContradiction fun hn => by rw [csE_no hn] at h; exact hn h
 have h2 : scE K L S T B C = 0 := Classical.byContradiction fun hn => by rw [csC_1 hn] at h1; exact hn h1
 have h3 : chk mo = 0 := Classical.byContradiction fun hn => by rw [csC_2 h2 hn] at h1; exact hn h1
 have h4 : ¬ (k < 0 ∨ ((C.length : Nat) : Int) ≤ k ∨ ¬ st.length = (nthT C k.toNat).2.2.length) := fun hn => by rw [csC_3 h2 h3 hn] at h1; exact absurd h1 (by decide)
 obtain ⟨hK3, hC6, hA6, hcl⟩ := sc_ok h2
 have hd : dkE K L S T B C = 0 := Classical.byContradiction fun hn => by
  unfold scE at h2
  rw [if_pos hn] at h2
  exact hn h2
 have hkc : k.toNat < C.length := by omega
 have hn6 : (csT (lstsT C) k).length ≤ 6 := by
  unfold csT
  rw [List.length_map, ← lstsT_nth, lsts_len]
  exact hA6 _ (nthT_mem hkc)
 have hm := agF_MB (S := S) (k := k) (st := st) (pr := pr) (mo := mo) (ty := csT (lstsT C) k) (n := (csT (lstsT C) k).length) h3 (cs_ty2 hcl hs) rfl (dk_name hd) (by omega) hn6 (csT (lstsT C) k).length (Nat.le_refl _) 0 0 [] (by omega) (by simp) (fun j hj => by omega)
 have h5 : csL K L S T B C k st pr mo = (csP S (lstsT C) k st pr mo).1 := if_pos h
 have h6 : csF (csP S (lstsT C) k st pr mo) = 0 := by
  unfold csE at h
  rw [if_neg (not_not_intro h1)] at h
  exact h
 rw [h5]
 unfold csF at h6
 by_cases h7 : (csP S (lstsT C) k st pr mo).2 = 0
 ·
  rw [if_pos h7] at h6
  exact ⟨h3, h6, ((hm.2 h7).2.mono (by omega)).fr (by omega)⟩
 ·
  rw [if_neg h7] at h6
  exact absurd h6 h7
end
end
section
/- Declarations that a law holds to be too great. -/
open Go Go.RowKit
def muL (l : List (List Nd)) : Bool := decide (10 < l.length) || l.any (heavyB 80)
def muB (S : ByteArray) (T B : List Nd) (C : List (List (List Nd))) : Bool := (((heavyB 80 T || heavyB 80 B) || decide (100 < S.size)) || decide (10 < C.length)) || C.any muL
theorem muany_at {α : Type} {P : α → Bool} {l : List α} {k : Nat} {d : α} (hk : k < l.length) (h : P (l.getD k d) = true) : l.any P = true := by
 rw [List.any_eq_true]
 have e : l.getD k d = l[k] := by simp [hk]
 exact ⟨l[k], List.getElem_mem hk, by rw [← e]; exact h⟩
theorem muany_no {α : Type} {P : α → Bool} {l : List α} {d : α} (h : ∀ k, k < l.length → P (l.getD k d) = false) : l.any P = false := by
 rw [List.any_eq_false]
 intro x hx
 obtain ⟨k, hk, rfl⟩ := List.getElem_of_mem hx
 have := h k hk
 have e : l.getD k d = l[k] := by simp [hk]
 rw [e] at this
 simp [this]
theorem muto {Q : Nat → Prop} {k : Nat} (h : ∀ j, j < k → Q j) (hk : Q k) : ∀ j, j < k + 1 → Q j := fun j hj => by
 by_cases e : j = k
 · rw [e]; exact hk
 · exact h j (by omega)
theorem mu_x {C : List Tl} {i k : Nat} : nthL (nthLL (lstsT C) i) k = (nthS (nthT C i).2.2 k).2.2 := by rw [← lstsT_nth, ← lsts_nth]
theorem mu_xl {C : List Tl} {i : Nat} : (nthLL (lstsT C) i).length = (nthT C i).2.2.length := by rw [← lstsT_nth, lsts_len]
section
variable {S : ByteArray} {T B : List Nd} {C : List Tl} {i k : Nat}
theorem mu_h : (((heavyB 80 T || heavyB 80 B) || decide (100 < S.size)) || decide (10 < (lstsT C).length)) = (((heavyB 80 T || heavyB 80 B) || decide ((100 : Int) < ((S.size : Nat) : Int))) || decide ((10 : Int) < ((C.length : Nat) : Int))) := by
 rw [lstsT_len, show decide ((100 : Int) < ((S.size : Nat) : Int)) = decide (100 < S.size) by rw [Bool.eq_iff_iff]; simp; omega, show decide ((10 : Int) < ((C.length : Nat) : Int)) = decide (10 < C.length) by rw [Bool.eq_iff_iff]; simp; omega]
theorem mu_0 (h : (((heavyB 80 T || heavyB 80 B) || decide ((100 : Int) < ((S.size : Nat) : Int))) || decide ((10 : Int) < ((C.length : Nat) : Int))) = true) : muB S T B (lstsT C) = true := by
 unfold muB
 rw [mu_h, h, Bool.true_or]
theorem mu_1 (hi : i < C.length) (h : 10 < (nthT C i).2.2.length) : muB S T B (lstsT C) = true := by
 unfold muB
 rw [muany_at (P := muL) (k := i) (d := []) (by rw [lstsT_len]; exact hi) (by show muL (nthLL (lstsT C) i) = true; unfold muL; rw [mu_xl, decide_eq_true h, Bool.true_or]), Bool.or_true]
theorem mu_2 (hi : i < C.length) (hk : k < (nthT C i).2.2.length) (h : heavyB 80 (nthS (nthT C i).2.2 k).2.2 = true) : muB S T B (lstsT C) = true := by
 unfold muB
 rw [muany_at (P := muL) (k := i) (d := []) (by rw [lstsT_len]; exact hi) (by
  show muL (nthLL (lstsT C) i) = true
  unfold muL
  rw [muany_at (P := heavyB 80) (k := k) (d := []) (by rw [mu_xl]; exact hk) (by show heavyB 80 (nthL (nthLL (lstsT C) i) k) = true; rw [mu_x]; exact h), Bool.or_true]), Bool.or_true]
theorem mu_3 (h1 : (((heavyB 80 T || heavyB 80 B) || decide ((100 : Int) < ((S.size : Nat) : Int))) || decide ((10 : Int) < ((C.length : Nat) : Int))) = false) (hi : ∀ j, j < i → muL (nthLL (lstsT C) j) = false) (h : ¬ i < C.length) : muB S T B (lstsT C) = false := by
 unfold muB
 rw [mu_h, h1, muany_no (P := muL) (d := []) (fun j hj => hi j (by rw [lstsT_len] at hj; omega))]
 rfl
theorem mu_4 (h6 : ¬ 10 < (nthT C i).2.2.length) (hk : ∀ j, j < k → heavyB 80 (nthL (nthLL (lstsT C) i) j) = false) (h : ¬ k < (nthT C i).2.2.length) : muL (nthLL (lstsT C) i) = false := by
 unfold muL
 rw [mu_xl, decide_eq_false h6, muany_no (P := heavyB 80) (d := []) (fun j hj => hk j (by rw [mu_xl] at hj; omega))]
 rfl
theorem mu_y (h : heavyB 80 (nthS (nthT C i).2.2 k).2.2 = false) : heavyB 80 (nthL (nthLL (lstsT C) i) k) = false := by rw [mu_x]; exact h
theorem mu_no (h : muB S T B (lstsT C) = false) : sml T ∧ T.length ≤ 80 ∧ sml B ∧ B.length ≤ 80 ∧ S.size ≤ 100 ∧ C.length ≤ 10 ∧ (∀ s ∈ C, s.2.2.length ≤ 10) ∧ ∀ x ∈ (lstsT C).flatten, sml x ∧ x.length ≤ 80 := by
 unfold muB at h
 simp only [Bool.or_eq_false_iff] at h
 obtain ⟨⟨⟨⟨h1, h2⟩, h3⟩, h4⟩, h5⟩ := h
 obtain ⟨a1, a2⟩ := heavy_false h1
 obtain ⟨b1, b2⟩ := heavy_false h2
 have hL : ∀ l ∈ lstsT C, l.length ≤ 10 ∧ ∀ x ∈ l, sml x ∧ x.length ≤ 80 := fun l hl => by
  have q : muL l = false := by have := List.any_eq_false.1 h5 l hl; simpa using this
  unfold muL at q
  rw [Bool.or_eq_false_iff] at q
  refine ⟨by simpa using q.1, fun x hx => ?_⟩
  have q2 : heavyB 80 x = false := by have := List.any_eq_false.1 q.2 x hx; simpa using this
  obtain ⟨c1, c2⟩ := heavy_false q2
  exact ⟨c2, c1⟩
 refine ⟨a2, a1, b2, b1, by simpa using h3, by simpa [lstsT_len] using h4, fun s hs => ?_, fun x hx => ?_⟩
 ·
  have := (hL (lsts s.2.2) (List.mem_map.2 ⟨s, hs, rfl⟩)).1
  rwa [lsts_len] at this
 ·
  obtain ⟨l, hl, hx⟩ := List.mem_flatten.1 hx
  exact (hL l hl).2 x hx
theorem mu_tm {K : Int} (h : muB S T B (lstsT C) = false) : ∀ x ∈ tmD K T B (lstsT C), sml x ∧ x.length ≤ 1000000 := by
 obtain ⟨a1, a2, b1, b2, _, _, _, hx⟩ := mu_no h
 unfold tmD
 intro x hm
 split at hm
 ·
  simp only [List.mem_cons, List.not_mem_nil, or_false] at hm
  rcases hm with rfl | rfl
  · exact ⟨a1, by omega⟩
  · exact ⟨b1, by omega⟩
 ·
  split at hm
  ·
   rw [List.mem_singleton.1 hm]
   exact ⟨a1, by omega⟩
  ·
   split at hm
   ·
    have := hx x hm
    exact ⟨this.1, by omega⟩
   · cases hm
end
set_option maxRecDepth 100000 in
theorem sh18 {A1 A2 A3 : Option Addr} {c1 c2 c3 : Nat} : csE 3 1 ⟨#[78]⟩ [] [] [(A1, c1, []), (A2, c2, [(A3, c3, [⟨25, 0, 0, ⟨#[78]⟩⟩])])] 1 [false] false [⟨10, 0, 0, ⟨#[]⟩⟩] = 0 ∧
  csL 3 1 ⟨#[78]⟩ [] [] [(A1, c1, []), (A2, c2, [(A3, c3, [⟨25, 0, 0, ⟨#[78]⟩⟩])])] 1 [false] false [⟨10, 0, 0, ⟨#[]⟩⟩] = [⟨25, 0, 0, ⟨#[78]⟩⟩, ⟨10, 0, 0, ⟨#[]⟩⟩, ⟨10, 0, 0, ⟨#[]⟩⟩, ⟨3, 0, 0, ⟨#[]⟩⟩, ⟨3, 0, 0, ⟨#[]⟩⟩] := ⟨by kernel_rfl, by kernel_rfl⟩
theorem sh18_p {A1 A2 A3 : Option Addr} {c1 c2 c3 : Nat} : ∀ x ∈ tmD 3 [] [] (lstsT [(A1, c1, []), (A2, c2, [(A3, c3, [⟨25, 0, 0, ⟨#[78]⟩⟩])])]), sml x ∧ x.length ≤ 1000000 := by
 intro x hx
 have : x = [⟨25, 0, 0, ⟨#[78]⟩⟩] := by simpa [tmD, lstsT, lsts] using hx
 rw [this]
 exact ⟨sml_mem.2 fun m hm => by rw [List.mem_singleton.1 hm]; decide, by decide⟩
theorem sh18_b {A1 A2 A3 : Option Addr} {c1 c2 c3 : Nat} : ∀ s ∈ ([(A1, c1, []), (A2, c2, [(A3, c3, [⟨25, 0, 0, ⟨#[78]⟩⟩])])] : List Tl), s.2.2.length ≤ 100 := by simp
theorem sh18_m : sml [⟨10, 0, 0, ⟨#[]⟩⟩] := sml_mem.2 fun m hm => by rw [List.mem_singleton.1 hm]; decide
theorem cs_Z {K L k : Int} {S : ByteArray} {T B mo : List Nd} {C : List Tl} {st : List Bool} {pr : Bool} (h : csE K L S T B C k st pr mo = 0) (hS : S.size < 1000000) (hm : sml mo) (hs : ∀ x ∈ (lstsT C).flatten, sml x) : (csL K L S T B C k st pr mo).length ≤ 4000 ∧ sml (csL K L S T B C k st pr mo) := by
 obtain ⟨_, h1, _⟩ := cs_ok h hs
 refine ⟨(treeOf_ok h1).2.2.2, ?_⟩
 have h2 : csL K L S T B C k st pr mo = (csP S (lstsT C) k st pr mo).1 := if_pos h
 rw [h2]
 have h3 : scE K L S T B C = 0 := Classical.byContradiction fun hn => by rw [csE_no (by rw [csC_1 hn]; exact hn), csC_1 hn] at h; exact hn h
 obtain ⟨_, _, _, hcl⟩ := sc_ok h3
 refine (agF_Z hS hm (ty := csT (lstsT C) k) (fun t ht => ?_) rfl _ (Nat.le_refl _) 0 0 []).2
 obtain ⟨x, hx, rfl⟩ := List.mem_map.1 ht
 have hk : k.toNat < (lstsT C).length := Classical.byContradiction fun hn => by
  have : nthLL (lstsT C) k.toNat = [] := by unfold nthLL; rw [List.getD_eq_getElem?_getD, List.getElem?_eq_none (by omega)]; rfl
  rw [this] at hx
  cases hx
 have hm : x ∈ (lstsT C).flatten := by
  refine List.mem_flatten.2 ⟨nthLL (lstsT C) k.toNat, ?_, hx⟩
  have : nthLL (lstsT C) k.toNat = (lstsT C)[k.toNat] := by simp [nthLL, hk]
  rw [this]
  exact List.getElem_mem hk
 obtain ⟨h4, _⟩ := cl_T (hcl _ hm)
 have h5 := (twice_facts h4 (hs _ hm)).1
 have h6 := (treeOf_ok h4).2.2.2
 exact ⟨h5.1, by omega⟩
theorem trv_Z {A r : List Nd} (h : trvE A r = 0) (hA : sml A) (hr : sml r) (hl : A.length ≤ 5000) : (trvL A r).length ≤ 4000 ∧ sml (trvL A r) := by
 obtain ⟨_, _, h1, _⟩ := trv_ok h
 refine ⟨(treeOf_ok h1).2.2.2, ?_⟩
 have h2 : trvL A r = (tr1 0 0 A r).1 := if_pos h
 rw [h2]
 exact (tr1_Z hr hA hl).2
theorem frF_bd (t : List Nd) : 0 ≤ frF t ∧ frF t ≤ 100 := by
 unfold frF
 split
 ·
  rename_i h
  have := moL_bd (meas_chk h) (-1)
  omega
 · omega
end
end Go.Proofs.YtpfmnpaifchleaaGreatDoor
namespace Go.Proofs.YtpfmnpaifchleaaGreatDoor
open Go Go.RowKit
set_option linter.unusedSimpArgs false
set_option linter.unusedVariables false
set_option maxRecDepth 100000
set_option maxHeartbeats 1000000
theorem much18_calls (w0 : World) (Z : Nat → Prop) (hZ : ∀ k, Z k → k < w0.heap.size) (dK : Int) (dL : Int) (dS : ByteArray) (dTA : Option Addr) (dTc : Nat) (dT : List Nd) (dBA : Option Addr) (dBc : Nat) (dB : List Nd) (dCA : Option Addr) (dCc : Nat) (dC : List Tl) (hdT : (dRow 4 dTA dT.length dTc (encNs dT)).φ w0 Z) (hdB : (dRow 4 dBA dB.length dBc (encNs dB)).φ w0 Z) (hdC : (dRow 1 dCA dC.length dCc (encTs dC)).φ w0 Z) (hdCs : (dAllT dC).φ w0 Z) (hzS : dS.size ≤ 9223372036854775807 := by first | assumption | omega | (simp <;> omega)) :
    Calls Tryz.prog 5 [.agg #[.int .i64 (dK), .int .i64 (dL), .string dS, .slice dTA dT.length dTc, .slice dBA dB.length dBc, .slice dCA dC.length dCc]].toArray w0 (fun e w' => e = .returned (.bool (muB dS dT dB (lstsT dC))) ∧ Fr none_ w0 w') := by
 have b0 := s0 (M := none_) hZ (zc hdT (zc hdB (zc hdC (zc hdCs zn))))
 refine c_enter Tryz.func5 rfl Tryz.ntmps5 rfl fun c0 d0 => ?_
 refine wsc fun c0 f0 => bxx d0 b0 fun c0 h0 i0 j0 k0 => ?_
 refine aw j0 f0 fun h0 c0 => ?_
 refine wp_seq_k fun f0 h0 => wsc fun f0 j0 => lR c0 fun f0 d0 => ?_
 have f0 := k0.nf
 refine kcl d0 ok15 (heavy18_calls _ _ f0.il _ _ _ (f0.g 0)) ?_
 rintro d0 k0 ⟨rfl, c0⟩
 have k0 := f0.below c0.below
 refine ⟨_, rfl, fun c0 f0 => ?_⟩
 refine mv f0 fun c0 d0 => ?_
 refine l_join (fun ga gw => Reg ga 58 [(1, .pointer (some ⟨i0, 0, none⟩)), (2, .bool false), (12, .bool ((heavyB 80 dT) || (heavyB 80 dB))), (1000000, .bool false)] ∧ St w0 Z none_ gw [.box i0 25 [.int .i64 (dK), .int .i64 (dL), .string dS, .slice dTA dT.length dTc, .slice dBA dB.length dBc, .slice dCA dC.length dCc]] [dRow 4 dTA dT.length dTc (encNs dT), dRow 4 dBA dB.length dBc (encNs dB), dRow 1 dCA dC.length dCc (encTs dC), dAllT dC]) 4 ?_ ?_
 ·
  rcases Bool.eq_false_or_eq_true (heavyB 80 dT) with c0 | c0
  ·
   have f0 := d0.setb (d := 8) (b := true) rfl c0
   refine lR f0 fun b0 m0 => ?_
   refine wpList_nil ?_
   exact x_then_n ⟨(m0.sub (rc2 (rc (rb rfl (by (simp only [c0, bl]; done))) (rc rfl rnl)))), k0⟩
  have m0 := d0.setb (d := 8) (b := false) rfl c0
  refine lR m0 fun d0 b0 => ?_
  have d0 := k0.nf
  refine kcl b0 ok15 (heavy18_calls _ _ d0.il _ _ _ (d0.g 1)) ?_
  rintro b0 k0 ⟨rfl, m0⟩
  have k0 := d0.below m0.below
  refine ⟨_, rfl, fun m0 d0 => ?_⟩
  refine lR d0 fun m0 b0 => ?_
  refine wpList_nil ?_
  exact x_then_n ⟨(b0.sub (rc2 (rc (rb rfl (by (simp only [c0, bl]; done))) (rc rfl rnl)))), k0⟩
 rintro b0 k0 ⟨c0, m0⟩
 refine mv c0 fun k0 b0 => ?_
 refine lOr 4 (decide (100 < ((dS.size : Nat) : Int))) b0 fun k0 c0 => ?_
 refine mv c0 fun k0 b0 => ?_
 refine lOr 4 (decide (10 < ((dC.length : Nat) : Int))) b0 fun k0 c0 => ?_
 refine wn j0 ?_
 rcases Bool.eq_false_or_eq_true (((((heavyB 80 dT) || (heavyB 80 dB)) || (decide (100 < ((dS.size : Nat) : Int)))) || (decide (10 < ((dC.length : Nat) : Int))))) with j0 | j0
 ·
  have k0 := j0
  try simp only [bz] at k0
  refine wct c0 j0 fun k0 => ?_
  refine wsc fun b0 d0 => aw k0 d0 fun b0 f0 => ?_
  refine wp_ret <| x_then_r <| er1 f0 ?_
  refine ⟨?_, m0.fr⟩
  exact cre (ret_b (by exact (mu_0 (by assumption)).symm))
 have f0 := or_fl j0
 have d0 := or_fl f0
 have b0 := or_fl d0
 have b0 := or_fr d0
 have b0 := or_fr f0
 have f0 := of_decide_eq_false b0
 have f0 := or_fr j0
 have b0 := of_decide_eq_false f0
 refine wcf c0 j0 fun b0 => ?_
 refine wp_skip <| xn h0 <| wp_seq_k fun h0 j0 => wsc fun h0 c0 => aw b0 c0 fun h0 f0 => ?_
 refine wp_block ?_
 refine wp_loop_ghost (fun gn ga gw => ∃ i : Nat, (Reg ga 58 [(1, .pointer (some ⟨i0, 0, none⟩)), (1000000, .bool false), (3, .int .i64 ((i : Nat) : Int))]) ∧ (St w0 Z none_ gw [.box i0 25 [.int .i64 (dK), .int .i64 (dL), .string dS, .slice dTA dT.length dTc, .slice dBA dB.length dBc, .slice dCA dC.length dCc]] [dRow 4 dTA dT.length dTc (encNs dT), dRow 4 dBA dB.length dBc (encNs dB), dRow 1 dCA dC.length dCc (encTs dC), dAllT dC]) ∧ (i ≤ dC.length) ∧ (∀ j, j < i → muL (nthLL (lstsT dC) j) = false) ∧ (dC.length - i) = gn) _ ⟨0, (f0.sub (rc2 (rc rfl rnl))), m0, by omega, (fun _ h => by omega), rfl⟩ ?_
 rintro f0 m0 c0 ⟨i, h0, b0, hki, hi, d0⟩
 refine wp_seq_k fun d0 c0 => wsc fun d0 m0 => lR h0 fun d0 f0 => ?_
 refine wn m0 ?_
 rcases Decidable.em (((i : Nat) : Int) < ((dC.length : Nat) : Int)) with m0 | m0
 ·
  refine wct f0 (decide_eq_true m0) fun d0 => ?_
  refine wp_skip <| xn c0 <| wp_seq_k fun c0 h0 => wp_block ?_
  refine wp_seq_k fun c0 k0 => wsc fun c0 n0 => lR d0 fun c0 o0 => ?_
  refine ix i (i * 1) o0 (ts_elem (t := dC) (k := i) (b0.row (i := 2) rfl).2 (by omega)).some_ fun c0 d0 => ?_
  refine lde 0 (i * 1) d0 (ts_elem (t := dC) (k := i) (b0.row (i := 2) rfl).2 (by omega)) fun c0 o0 => ?_
  have c0 := b0.elT 3 i
  have d0 := c0.elA 3 i
  refine lR o0 fun c0 p0 => ?_
  refine wn n0 ?_
  rcases Decidable.em (10 < (((nthT dC i).2.2.length : Nat) : Int)) with n0 | n0
  ·
   refine wct p0 (decide_eq_true n0) fun c0 => ?_
   refine wsc fun o0 q0 => aw c0 q0 fun o0 t0 => ?_
   refine wp_ret <| x_then_r <| x_block_r <| x_then_r <| x_then_r <| x_block_r <| x_then_r <| er1 t0 ?_
   refine ⟨?_, d0.fr⟩
   exact cre (ret_b (by exact (mu_1 (i := i) (by omega) (by omega)).symm))
  refine wcf p0 (decide_eq_false n0) fun t0 => ?_
  refine wp_skip <| xn k0 <| wsc fun k0 n0 => aw t0 n0 fun k0 p0 => ?_
  refine wp_block ?_
  refine wp_loop_ghost (fun gn ga gw => ∃ k : Nat, (Reg ga 58 [(1, .pointer (some ⟨i0, 0, none⟩)), (1000000, .bool false), (3, .int .i64 ((i : Nat) : Int)), (4, .int .i64 ((k : Nat) : Int))]) ∧ (St w0 Z none_ gw [.box i0 25 [.int .i64 (dK), .int .i64 (dL), .string dS, .slice dTA dT.length dTc, .slice dBA dB.length dBc, .slice dCA dC.length dCc]] [dRow 4 dTA dT.length dTc (encNs dT), dRow 4 dBA dB.length dBc (encNs dB), dRow 1 dCA dC.length dCc (encTs dC), dAllT dC, dRow 1 ((nthT dC i).1) ((nthT dC i).2.2.length) ((nthT dC i).2.1) (encSs ((nthT dC i).2.2)), dAll ((nthT dC i).2.2)]) ∧ (k ≤ (nthT dC i).2.2.length) ∧ (∀ j, j < k → heavyB 80 (nthL (nthLL (lstsT dC) i) j) = false) ∧ ((nthT dC i).2.2.length - k) = gn) _ ⟨0, (p0.sub (rc2 (rc rfl (rc rfl rnl)))), d0, by omega, (fun _ h => by omega), rfl⟩ ?_
  rintro p0 d0 i0 ⟨k, n0, k0, hkk, t0, q0⟩
  refine wp_seq_k fun q0 i0 => wsc fun q0 d0 => lR n0 fun q0 p0 => ?_
  refine ix i (i * 1) p0 (ts_elem (t := dC) (k := i) (k0.row (i := 2) rfl).2 (by omega)).some_ fun q0 n0 => ?_
  refine lde 0 (i * 1) n0 (ts_elem (t := dC) (k := i) (k0.row (i := 2) rfl).2 (by omega)) fun q0 p0 => ?_
  have q0 := k0.elT 3 i
  have k0 := q0.elA 3 i
  refine lR p0 fun q0 n0 => ?_
  refine wn d0 ?_
  rcases Decidable.em (((k : Nat) : Int) < (((nthT dC i).2.2.length : Nat) : Int)) with d0 | d0
  ·
   refine wct n0 (decide_eq_true d0) fun q0 => ?_
   refine wp_skip <| xn i0 <| wp_seq_k fun i0 p0 => wp_block ?_
   refine wsc fun i0 o0 => lR q0 fun i0 c0 => ?_
   refine ix i (i * 1) c0 (ts_elem (t := dC) (k := i) (k0.row (i := 2) rfl).2 (by omega)).some_ fun i0 q0 => ?_
   refine lde 0 (i * 1) q0 (ts_elem (t := dC) (k := i) (k0.row (i := 2) rfl).2 (by omega)) fun i0 c0 => ?_
   have i0 := k0.elT 3 i
   have q0 := i0.elA 3 i
   refine mv c0 fun i0 u0 => ?_
   refine ix k (k * 1) u0 (ss_elem (t := (nthT dC i).2.2) (k := k) (q0.row (i := 8) rfl).2 (by omega)).some_ fun i0 c0 => ?_
   refine lde 0 (k * 1) c0 (ss_elem (t := (nthT dC i).2.2) (k := k) (q0.row (i := 8) rfl).2 (by omega)) fun i0 u0 => ?_
   have i0 := q0.el 9 k
   have q0 := i0.nf
   refine kcl u0 ok15 (heavy18_calls _ _ q0.il _ _ ((nthS ((nthT dC i).2.2) k).2.2) (q0.g 10)) ?_
   rintro u0 i0 ⟨rfl, c0⟩
   have i0 := q0.below c0.below
   refine ⟨_, rfl, fun c0 q0 => ?_⟩
   refine wn o0 ?_
   rcases Bool.eq_false_or_eq_true (heavyB 80 ((nthS ((nthT dC i).2.2) k).2.2)) with o0 | o0
   ·
    refine wct q0 o0 fun c0 => ?_
    refine wsc fun u0 v0 => aw c0 v0 fun u0 x0 => ?_
    refine wp_ret <| x_block_r <| x_then_r <| x_then_r <| x_block_r <| x_block_r <| x_then_r <| x_then_r <| x_block_r <| x_then_r <| er1 x0 ?_
    refine ⟨?_, i0.fr⟩
    exact cre (ret_b (by exact (mu_2 (i := i) (k := k) (by omega) (by omega) (by assumption)).symm))
   refine wcf q0 o0 fun x0 => ?_
   refine wp_skip <| x_block_n <| xn p0 <| c_region ?_
   refine mv x0 fun p0 o0 => ?_
   refine adi ((k + 1 : Nat) : Int) o0 fun p0 x0 => ?_
   refine asg x0 fun p0 o0 => ?_
   refine wpList_nil ?_
   have p0 := i0.forget 10
   have i0 := p0.forget 9
   have p0 := i0.forget 8
   have i0 := p0.forget 7
   have p0 := i0.forget 6
   exact ⟨_, by omega, k + 1, (o0.sub (rc2 (rc rfl (rc rfl rnl)))), p0, by omega, muto t0 (mu_y (by assumption)), rfl⟩
  refine wcf n0 (decide_eq_false d0) fun p0 => ?_
  refine wp_exit ?_
  refine x_then_e ?_
  refine x_then_e ?_
  refine x_block_eq ?_
  refine x_block_n <| xn h0 <| c_region ?_
  refine mv p0 fun h0 d0 => ?_
  refine adi ((i + 1 : Nat) : Int) d0 fun h0 p0 => ?_
  refine asg p0 fun h0 d0 => ?_
  refine wpList_nil ?_
  have h0 := k0.forget 7
  have k0 := h0.forget 6
  have h0 := k0.forget 5
  have k0 := h0.forget 4
  exact ⟨_, by omega, i + 1, (d0.sub (rc2 (rc rfl rnl))), k0, by omega, muto hi (mu_4 (k := k) (by omega) t0 (by omega)), rfl⟩
 refine wcf f0 (decide_eq_false m0) fun k0 => ?_
 refine wp_exit ?_
 refine x_then_e ?_
 refine x_then_e ?_
 refine x_block_eq ?_
 refine xn j0 <| wsc fun j0 m0 => aw k0 m0 fun j0 f0 => ?_
 refine wp_ret <| er1 f0 ?_
 refine ⟨?_, b0.fr⟩
 exact cre (ret_b (by exact (mu_3 (by assumption) hi (by omega)).symm))
end Go.Proofs.YtpfmnpaifchleaaGreatDoor
namespace Go.Proofs.YtpfmnpaifchleaaGreatDoor
set_option linter.unusedSimpArgs false
set_option linter.unusedVariables false
section
/- The free variables of a term, counted over its nodes. -/
open Go Go.RowKit
def mxF (t : List Nd) (a : Int) (x : Int × Int) : Int := if (nth t x.1.toNat).K = 0 ∧ x.2 ≤ (nth t x.1.toNat).N then max a ((nth t x.1.toNat).N - x.2 + 1) else a
def mxS (t : List Nd) (a : Int) (pre : List (Int × Int)) : Int := pre.foldl (mxF t) a
theorem mxS_snoc (t : List Nd) (a : Int) (pre : List (Int × Int)) (x : Int × Int) : mxS t a (pre ++ [x]) = mxF t (mxS t a pre) x := by simp [mxS]
theorem mxF_yes {t : List Nd} {a : Int} {i j : Nat} (h : (nth t i).K = 0) (h2 : (j : Int) ≤ (nth t i).N) : mxF t a ((i : Int), (j : Int)) = max a ((nth t i).N - (j : Int) + 1) := by
 unfold mxF
 rw [if_pos (by simpa using ⟨h, h2⟩)]
 simp
theorem mxF_no {t : List Nd} {a : Int} {i j : Nat} (h : ¬ ((nth t i).K = 0 ∧ (j : Int) ≤ (nth t i).N)) : mxF t a ((i : Int), (j : Int)) = a := by
 unfold mxF
 rw [if_neg (by simpa using h)]
mutual
theorem mx_T : ∀ (x : T) (t u v : List Nd) (k a : Int), x.wf = true → t = u ++ x.flat ++ v → 0 ≤ a → mxS t a (visT u.length k x) = max a (moT (-1) k x + 1)
 | .mk n l, t, u, v, k, a, hw, ht, ha => by
  obtain ⟨h1, h2, h3⟩ := wf_parts hw
  have hn : nth t (u.length + (T.flats l).length) = n := by
   rw [ht]
   simp [nth, T.flat_mk]
  have hroot : mxS t a (visT (u.length : Int) k (.mk n l)) = mxS t (mxF t a (((u.length + (T.flats l).length : Nat) : Int), k)) (visTs u.length l ((binds n).map (k + ·))) := by
   simp [mxS, visT]
  rw [hroot]
  by_cases hk : n.K = 0
  ·
   have hl : l = [] := by
    have : many n = 0 := by simp [many, binds, hk, shp]
    rw [this] at h2
    exact List.eq_nil_of_length_eq_zero h2.symm
   subst hl
   simp only [visTs, mxS, List.foldl_nil, moT, hk, if_true]
   unfold mxF
   simp only [Int.toNat_natCast, hn, hk, true_and]
   by_cases q : k ≤ n.N
   · rw [if_pos q, if_pos ⟨by omega, .inl (by decide)⟩]
   ·
    rw [if_neg q, if_neg (by omega)]
    omega
  ·
   have hF : mxF t a (((u.length + (T.flats l).length : Nat) : Int), k) = a := by
    unfold mxF
    simp only [Int.toNat_natCast, hn, hk, false_and, if_false]
   rw [hF]
   simp only [moT, hk, if_false]
   exact mx_Ts l t u (n :: v) _ a h3 (by rw [ht, T.flat_mk]; simp) ha
theorem mx_Ts : ∀ (l : List T) (t u v : List Nd) (ks : List Int) (a : Int), T.wfs l = true → t = u ++ T.flats l ++ v → 0 ≤ a → mxS t a (visTs u.length l ks) = max a (moTs (-1) l ks + 1)
 | [], t, u, v, ks, a, _, _, ha => by simp only [visTs, mxS, List.foldl_nil, moTs]; omega
 | y :: l, t, u, v, [], a, _, _, ha => by simp only [visTs, mxS, List.foldl_nil, moTs]; omega
 | y :: l, t, u, v, k :: ks, a, hw, ht, ha => by
  obtain ⟨h1, h2⟩ := wf_cons hw
  rw [T.flats_cons] at ht
  have a1 := mx_Ts l t (u ++ y.flat) v ks a h2 (by rw [ht]; simp) ha
  have e : ((u ++ y.flat).length : Int) = (u.length : Int) + (y.flat.length : Int) := by simp
  rw [e] at a1
  have a2 := mx_T y t u (T.flats l ++ v) k (mxS t a (visTs ((u.length : Int) + (y.flat.length : Int)) l ks)) h1 (by rw [ht]; simp) (by rw [a1]; omega)
  have e2 : mxS t a (visTs (u.length : Int) (y :: l) (k :: ks)) = mxS t (mxS t a (visTs ((u.length : Int) + (y.flat.length : Int)) l ks)) (visT (u.length : Int) k y) := by
   simp [mxS, visTs]
  rw [e2, a2, a1]
  simp only [moTs]
  omega
end
theorem mx_all {t : List Nd} (hc : chk t = 0) : mxS t 0 (nodesL t) = frF t := by
 obtain ⟨hw, hf, _, _⟩ := treeOf_ok hc
 have h := mx_T (treeOf t) t [] [] 0 0 hw (by simp [hf]) (Int.le_refl 0)
 simp only [List.length_nil] at h
 have hm := moT_ge (-1) (treeOf t) 0
 unfold frF
 rw [if_pos hc]
 show mxS t 0 (visT 0 0 (treeOf t)) = moT (-1) 0 (treeOf t) + 1
 have h' : mxS t 0 (visT 0 0 (treeOf t)) = max 0 (moT (-1) 0 (treeOf t) + 1) := h
 rw [h']
 omega
end
end Go.Proofs.YtpfmnpaifchleaaGreatDoor
namespace Go.Proofs.YtpfmnpaifchleaaGreatDoor
open Go Go.RowKit
set_option linter.unusedSimpArgs false
set_option linter.unusedVariables false
set_option maxRecDepth 100000
set_option maxHeartbeats 1000000
theorem binds_calls (w0 : World) (Z : Nat → Prop) (hZ : ∀ k, Z k → k < w0.heap.size) (n : Nd) (hShp : Shapes w0 Z) (hs : n.S.size < 1000000 := by first | assumption | omega | (simp <;> omega)) :
    Calls Tryz.prog 89 [.agg #[.int .i64 (n.K), .int .i64 (n.N), .int .i64 (n.M), .string n.S]].toArray w0 (fun e w' => ∃ (rA0 : Option Addr) (rc0 : Nat), e = .returned (.tuple #[.slice rA0 (bindsR n).length rc0, .bool (right n)]) ∧ Fr none_ w0 w' ∧ (dRow 1 rA0 ((bindsR n).length) rc0 (encIs (bindsR n))).φ w' (nxt Z w0 w')) := by
 have b0 := s0 (M := none_) hZ (zc (d := dShapes) hShp zn)
 refine c_enter Tryz.func89 rfl Tryz.ntmps89 rfl fun c0 d0 => ?_
 refine wsc fun c0 f0 => bxx d0 b0 fun c0 h0 i0 j0 k0 => ?_
 refine lR j0 fun i0 h0 => ?_
 refine wn f0 <| wp_seq_k fun f0 i0 => wsc fun f0 j0 => lR h0 fun f0 c0 => ?_
 have f0 := k0.nf
 refine kcl c0 ok126 (right_calls _ _ f0.il n (f0.g 0)) ?_
 rintro c0 k0 ⟨rfl, h0⟩
 have k0 := f0.below h0.below
 refine ⟨_, rfl, fun h0 f0 => ?_⟩
 refine lR f0 fun h0 c0 => ?_
 refine wn j0 ?_
 rcases Bool.eq_false_or_eq_true (right n) with j0 | j0
 ·
  have hk := right_K j0
  refine wcfb c0 rfl (by rw [j0]; rfl) fun h0 => ?_
  refine wp_skip <| xn i0 <| wp_seq_k fun i0 f0 => wsc fun i0 d0 => lR h0 fun i0 b0 => ?_
  refine wn d0 <| wp_block ?_
  refine wsc fun d0 i0 => lR b0 fun d0 h0 => ?_
  refine wn i0 ?_
  rcases Decidable.em ((n.K) = 26) with i0 | i0
  ·
   have hcn := right_con (by assumption) (by omega)
   refine wct h0 (decide_eq_true i0) fun d0 => ?_
   refine wsc fun b0 m0 => lR d0 fun b0 n0 => ?_
   have b0 : (n.M) = ((n.M.toNat : Nat) : Int) := by omega
   refine m_makeInts (n := n.M.toNat) sv n0 k0 rfl rfl rfl rfl b0 b0 Tryz.underlying57 zi3 (by omega) (by decide) fun d0 o0 p0 q0 t0 => ?_
   have o0 : (List.replicate (n.M.toNat) (0 : Int)).length = n.M.toNat := by simp
   refine lR q0 fun o0 d0 => ?_
   refine wn m0 <| wp_ret <| x_block_r <| x_then_r <| er2 d0 ?_
   have d0 : bindsR n = List.replicate (n.M.toNat) (0 : Int) := by unfold bindsR; rw [if_pos (by assumption)]; simp [binds, i0]
   rw [d0]
   have d0 := t0.pub 1 (dRow 1 (some ⟨p0, 0, none⟩) ((List.replicate (n.M.toNat) (0 : Int) : List Int).length) ((List.replicate (n.M.toNat) (0 : Int) : List Int).length) (encIs (List.replicate (n.M.toNat) (0 : Int))))
   refine ⟨(some ⟨p0, 0, none⟩), ((List.replicate (n.M.toNat) (0 : Int) : List Int).length), ?_, d0.fr, d0.rx 1⟩
   exact ret_t2 rfl (ret_b (by (simp [j0, i0]; done)))
  refine wcf h0 (decide_eq_false i0) fun d0 => ?_
  refine wsc fun h0 p0 => lR d0 fun h0 t0 => ?_
  refine wn p0 ?_
  rcases Decidable.em ((n.K) = 27) with p0 | p0
  ·
   have hel := right_elim (by assumption) (by omega)
   refine wct t0 (decide_eq_true p0) fun h0 => ?_
   refine wsc fun d0 m0 => bsl h0 k0 fun d0 o0 q0 b0 n0 => ?_
   refine lR b0 fun q0 o0 => ?_
   refine adi (n.M + 1) o0 fun q0 b0 => ?_
   have q0 : (n.M + 1) = ((n.M.toNat + 1 : Nat) : Int) := by omega
   refine m_appendZ (i := 1) ([1]) (n.M.toNat + 1) sv b0 n0 rfl rfl rfl rfl rfl q0 (by omega) (by simp) (by simp; omega) Tryz.underlying57 Tryz.underlying3 zi3 (by decide) fun o0 d0 h0 u0 v0 x0 y0 => ?_
   refine lR x0 fun v0 d0 => ?_
   refine wn m0 <| wp_ret <| x_block_r <| x_then_r <| er2 d0 ?_
   have d0 : bindsR n = ([1]) ++ List.replicate (n.M.toNat + 1) 0 := by unfold bindsR; rw [if_pos (by assumption)]; simp [binds, i0, p0]
   rw [d0]
   have d0 := y0.pub 1 (dRow 1 h0 ((([1]) ++ List.replicate (n.M.toNat + 1) 0 : List Int).length) u0 (encIs (([1]) ++ List.replicate (n.M.toNat + 1) 0)))
   refine ⟨h0, u0, ?_, d0.fr, d0.rx 1⟩
   exact ret_t2 rfl (ret_b (by (simp [j0, i0, p0]; done)))
  refine wcf t0 (decide_eq_false p0) fun d0 => ?_
  refine wp_skip <| x_block_n <| xn f0 <| wsc fun f0 t0 => lR d0 fun f0 u0 => ?_
  refine m_indexA (i := ((n.K)).toNat) (j := (((n.K)).toNat) * 4) sv u0 rfl rfl rfl rfl Tryz.underlying155 sz154 (by omega) (by omega) rfl (by decide) fun f0 d0 => ?_
  refine m_fieldE (j' := (((n.K)).toNat) * 4) sv d0 rfl rfl rfl rfl Tryz.underlying154 rfl sz57 rfl rfl (by decide) fun f0 u0 => ?_
  obtain ⟨f0, d0, h0, y0⟩ := shapes_at (k0.get (i := 0) rfl) (((n.K)).toNat) (by omega)
  have m0 := k0.data (dRow 1 f0 (shp (((n.K)).toNat)).b.length d0 (encIs (shp (((n.K)).toNat)).b)) h0
  refine m_loadE sv u0 rfl rfl rfl 0 ((((n.K)).toNat) * 4) y0 rfl rfl Tryz.underlying57 rfl (by decide) fun h0 d0 => ?_
  have h0 := m0.nf
  refine kcl d0 ok127 (cloneI_calls _ _ h0.il _ _ ((shp (((n.K)).toNat)).b) (h0.g 1) (hl := (Nat.le_trans (shp_le _) (by omega)))) ?_
  rintro d0 m0 ⟨y0, u0, rfl, f0, v0⟩
  have m0 := h0.below f0.below
  have f0 := h0.dN m0 v0
  refine ⟨_, rfl, fun m0 v0 => ?_⟩
  refine lR v0 fun m0 h0 => ?_
  refine wn t0 <| wp_ret <| er2 h0 ?_
  have h0 : bindsR n = ((shp (((n.K)).toNat)).b) := by unfold bindsR; rw [if_pos (by assumption)]; simp [binds, i0, p0]
  rw [h0]
  refine ⟨y0, u0, ?_, f0.fr, f0.rx 2⟩
  exact ret_t2 rfl (ret_b (by (simp [j0, i0, p0]; done)))
 refine wctb c0 rfl (by rw [j0]; rfl) fun p0 => ?_
 refine wsc fun c0 i0 => lR p0 fun c0 f0 => ?_
 refine wn i0 <| wp_ret <| x_then_r <| er2 f0 ?_
 have f0 : bindsR n = [] := by unfold bindsR; rw [if_neg (by simp [j0])]
 rw [f0]
 refine ⟨none, 0, ?_, k0.fr, ⟨Nat.le_refl _, RowI.nil _ _ _ _⟩⟩
 exact ret_t2 rfl (ret_b (by (simp [j0]; done)))
end Go.Proofs.YtpfmnpaifchleaaGreatDoor
