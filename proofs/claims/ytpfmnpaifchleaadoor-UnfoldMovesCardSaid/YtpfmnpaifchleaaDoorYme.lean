import Derived.Test.YtpfmnpaifchleaaDoorYmd
namespace Go.Proofs.YtpfmnpaifchleaaDoor
open Go Go.RowKit
set_option linter.unusedSimpArgs false
set_option linter.unusedVariables false
set_option maxRecDepth 100000
set_option maxHeartbeats 1000000
theorem rof_calls (w0 : World) (Z : Nat → Prop) (hZ : ∀ k, Z k → k < w0.heap.size) (n : Nd) (pA : Option Addr) (pc : Nat) (p : List Sl) (hp : (dRow 1 pA p.length pc (encSs p)).φ w0 Z) (hps : (dAll p).φ w0 Z) (hl : p.length ≤ 10 := by first | assumption | omega | (simp <;> omega)) (hb : (lsts p).flatten.length ≤ 50000000 := by first | assumption | omega | (simp <;> omega)) :
    Calls Tryd.prog 53 [.agg #[.int .i64 (n.K), .int .i64 (n.N), .int .i64 (n.M), .string n.S], .slice pA p.length pc].toArray w0 (fun e w' => ∃ (rA0 : Option Addr) (rc0 : Nat), e = .returned (.slice rA0 ((lsts p).flatten ++ [n]).length rc0) ∧ Fr none_ w0 w' ∧ (dRow 4 rA0 (((lsts p).flatten ++ [n]).length) rc0 (encNs ((lsts p).flatten ++ [n]))).φ w' (nxt Z w0 w')) := by
 have b0 := s0 (M := none_) hZ (zc hp (zc hps zn))
 refine c_enter Tryd.func53 rfl Tryd.ntmps53 rfl fun c0 d0 => ?_
 refine wsc fun c0 f0 => bxx d0 b0 fun c0 h0 i0 j0 k0 => ?_
 refine aw j0 f0 fun h0 c0 => ?_
 refine wsc fun f0 h0 => bsl c0 k0 fun f0 j0 d0 b0 m0 => ?_
 refine aw b0 h0 fun j0 f0 => ?_
 refine wp_seq_k fun h0 j0 => wsc fun h0 b0 => aw f0 b0 fun h0 c0 => ?_
 refine wp_block ?_
 refine wp_loop_ghost (fun gn ga gw => ∃ k : Nat, ∃ Ao : Option Addr, ∃ co : Nat, (Reg ga 24 [(1000000, .bool false), (1, .slice pA p.length pc), (2, .pointer (some ⟨i0, 0, none⟩)), (4, .slice none 0 0), (6, .int .i64 ((k : Nat) : Int)), (5, .slice Ao (((lsts (p.take k)).flatten).length) co)]) ∧ (St w0 Z none_ gw [.box i0 39 [.int .i64 (n.K), .int .i64 (n.N), .int .i64 (n.M), .string n.S], .row Ao (((lsts (p.take k)).flatten).length) co 39 4 (encNs ((lsts (p.take k)).flatten))] [dRow 1 pA p.length pc (encSs p), dAll p]) ∧ (k ≤ p.length) ∧ (p.length - k) = gn) _ ⟨0, (some ⟨d0, 0, none⟩), 0, (c0.sub (rc4 (rc rfl (rc rfl rnl)))), m0, by omega, rfl⟩ ?_
 rintro c0 m0 d0 ⟨k, Ao, co, i0, b0, hk, h0⟩
 have hfl := flat_total p k
 refine wp_seq_k fun h0 d0 => wsc fun h0 m0 => lR i0 fun h0 c0 => ?_
 refine wn m0 ?_
 rcases Decidable.em (((k : Nat) : Int) < ((p.length : Nat) : Int)) with m0 | m0
 ·
  have hfl2 := flat_total p (k + 1)
  rw [flat_step (by omega), List.length_append] at hfl2
  refine wct c0 (decide_eq_true m0) fun h0 => ?_
  refine wp_skip <| xn d0 <| wp_seq_k fun d0 i0 => wp_block ?_
  refine c_region ?_
  refine lR h0 fun d0 f0 => ?_
  refine ix k (k * 1) f0 (ss_elem (t := p) (k := k) (b0.row (i := 0) rfl).2 (by omega)).some_ fun d0 h0 => ?_
  refine lde 0 (k * 1) h0 (ss_elem (t := p) (k := k) (b0.row (i := 0) rfl).2 (by omega)) fun d0 f0 => ?_
  have d0 := b0.el 1 k
  refine m_appendF (f := encN) (i := 1) ((lsts (p.take k)).flatten) ((nthS p k).2.2) sv f0 d0 rfl rfl rfl rfl rfl encN_len (encN_one _) Tryd.underlying22 zi39 rfl rfl (d0.row (i := 2) rfl).2.news rfl (by omega) (by decide) fun h0 k0 n0 o0 p0 q0 t0 => ?_
  have p0 : (((lsts (p.take k)).flatten) ++ ((nthS p k).2.2)).length = ((lsts (p.take k)).flatten).length + (nthS p k).2.2.length := by (simp only [List.length_append, List.length_take, List.length_cons, List.length_nil]; done)
  refine asg q0 fun p0 k0 => ?_
  refine wpList_nil ?_
  refine x_block_n <| xn i0 <| c_region ?_
  refine mv k0 fun i0 p0 => ?_
  refine adi ((k + 1 : Nat) : Int) p0 fun i0 k0 => ?_
  refine asg k0 fun i0 p0 => ?_
  refine wpList_nil ?_
  have i0 : ((lsts (p.take k)).flatten) ++ ((nthS p k).2.2) = (lsts (p.take (k + 1))).flatten := (flat_step (by omega)).symm
  have k0 := p0
  have p0 := t0
  rw [i0] at k0 p0
  have i0 := p0.forget 2
  exact ⟨_, by omega, k + 1, n0, o0, (k0.sub (rc4 (rc rfl (rc rfl rnl)))), i0, by omega, rfl⟩
 refine wcf c0 (decide_eq_false m0) fun i0 => ?_
 refine wp_exit ?_
 refine x_then_e ?_
 refine x_then_e ?_
 refine x_block_eq ?_
 refine xn j0 <| wsc fun j0 m0 => lR i0 fun j0 c0 => ?_
 refine bsl c0 b0 fun j0 i0 k0 o0 n0 => ?_
 refine m_appendF (f := encN) (i := 1) ((lsts (p.take k)).flatten) ([n]) sv o0 n0 rfl rfl rfl rfl rfl encN_len (encN_one _) Tryd.underlying22 zi39 rfl rfl (own_lnews (f := encN) (n0.res (i := 2) rfl)) rfl (by (simp only [List.length_cons, List.length_nil]; omega)) (by decide) fun k0 i0 j0 c0 b0 p0 t0 => ?_
 have b0 : (((lsts (p.take k)).flatten) ++ ([n]) : List Nd).length = ((lsts (p.take k)).flatten).length + 1 := by (simp only [List.length_append, List.length_take, List.length_cons, List.length_nil]; done)
 have b0 := t0.erase 2
 refine aw p0 m0 fun t0 i0 => ?_
 refine wp_ret <| er1 i0 ?_
 have i0 : (lsts p).flatten ++ [n] = ((lsts (p.take k)).flatten) ++ ([n]) := by rw [List.take_of_length_le (by omega)]
 rw [i0]
 have i0 := b0.pub 1 (dRow 4 j0 ((((lsts (p.take k)).flatten) ++ ([n]) : List Nd).length) c0 (encNs (((lsts (p.take k)).flatten) ++ ([n]))))
 refine ⟨j0, c0, ?_, i0.fr, i0.rx 2⟩
 exact cr rfl
theorem rcount_calls_rec (rn : Nat) : ∀ (w0 : World) (Z : Nat → Prop) (hZ : ∀ k, Z k → k < w0.heap.size) (tA : Option Addr) (tc : Nat) (t : List Nd) (k : Int) (u : Int) (ht : (dRow 4 tA t.length tc (encNs t)).φ w0 Z) (hl : t.length ≤ 1000000) (hsm : sml t) (hb : measB t = true) (hu0 : 0 ≤ u) (hub : u + 2 * t.length ≤ 10000000) (hrn : t.length = rn),
    Calls Tryd.prog 34 [.slice tA t.length tc, .int .i64 k, .int .i64 u].toArray w0 (fun e w' => e = .returned (.tuple #[.int .i64 ((usL t k u : Nat) : Int), .int .i64 (moL t k u)]) ∧ Fr none_ w0 w') := by
 induction rn using Nat.strongRecOn
 rename_i rn ih
 intro w0 Z hZ tA tc t k u ht hl hsm hb hu0 hub hrn
 have b0 := s0 (M := none_) hZ (zc ht zn)
 have hp0 := meas_pos hb
 have hrt := right_at hb (show t.length - 1 < t.length by omega)
 have hbl := bindL_right hrt
 have hbm := bindL_many hrt
 have hpm := ptL_length hb
 refine c_enter Tryd.func34 rfl Tryd.ntmps34 rfl fun c0 d0 => ?_
 refine wsc fun c0 f0 => lR d0 fun c0 h0 => ?_
 refine wn f0 <| wsc fun f0 c0 => mv h0 fun f0 d0 => ?_
 have f0 := b0.nf
 refine kcl d0 ok28 (rroot_calls _ _ f0.il _ _ _ (f0.g 0)) ?_
 rintro d0 b0 ⟨rfl, h0⟩
 have b0 := f0.below h0.below
 refine ⟨_, rfl, fun h0 f0 => ?_⟩
 refine alc f0 b0 fun h0 d0 i0 j0 k0 => ?_
 refine sto 0 j0 k0 fun d0 h0 f0 b0 => ?_
 refine wn c0 <| wp_seq_k fun c0 h0 => wsc fun c0 d0 => lR f0 fun c0 k0 => ?_
 refine wn d0 ?_
 rcases Decidable.em ((((nth t (t.length - 1)).K)) = 0) with d0 | d0
 ·
  obtain ⟨c0, f0⟩ := var_at hb (by omega)
  refine wct k0 (decide_eq_true d0) fun f0 => ?_
  refine wsc fun c0 j0 => lR f0 fun c0 m0 => ?_
  refine sbi (((nth t (t.length - 1)).N) - u) m0 fun c0 f0 => ?_
  refine aw f0 j0 fun c0 m0 => ?_
  refine wp_seq_k fun j0 c0 => wsc fun j0 f0 => lR m0 fun j0 n0 => ?_
  refine l_join (fun ga gw => Reg ga 75 [(0, .slice tA t.length tc), (1, .int .i64 (k)), (2, .int .i64 (u)), (6, .int .i64 0), (7, .int .i64 0), (8, .pointer (some ⟨i0, 0, none⟩)), (9, .int .i64 (((nth t (t.length - 1)).N) - u)), (37, .bool ((decide (0 ≤ (((nth t (t.length - 1)).N) - u))) && ((decide ((k) < 0)) || (decide ((((nth t (t.length - 1)).N) - u) = (k)))))), (1000000, .bool false)] ∧ St w0 Z none_ gw [.box i0 39 [.int .i64 (((nth t (t.length - 1)).K)), .int .i64 (((nth t (t.length - 1)).N)), .int .i64 (((nth t (t.length - 1)).M)), .string ((nth t (t.length - 1)).S)]] [dRow 4 tA t.length tc (encNs t)]) 8 ?_ ?_
  ·
   rcases Decidable.em (0 ≤ (((nth t (t.length - 1)).N) - u)) with j0 | j0
   ·
    have m0 := n0.setb (d := 29) (b := true) rfl (decide_eq_true j0)
    refine lR m0 fun o0 p0 => ?_
    rcases Decidable.em ((k) < 0) with o0 | o0
    ·
     have m0 := p0.setb (d := 32) (b := true) rfl (decide_eq_true o0)
     refine lR m0 fun q0 t0 => ?_
     refine wpList_nil ?_
     exact x_then_n ⟨(t0.sub (rc4 (rc2 (rc rfl (rc (rb rfl (by (simp only [decide_eq_true j0, if_pos j0, decide_eq_true o0, if_pos o0, bl]; done))) (rc rfl rnl)))))), b0⟩
    have t0 := p0.setb (d := 32) (b := false) rfl (decide_eq_false o0)
    refine lR t0 fun p0 q0 => ?_
    refine wpList_nil ?_
    exact x_then_n ⟨(q0.sub (rc4 (rc2 (rc rfl (rc (rb rfl (by (simp only [decide_eq_true j0, if_pos j0, decide_eq_false o0, if_neg o0, bl]; done))) (rc rfl rnl)))))), b0⟩
   have q0 := n0.setb (d := 29) (b := false) rfl (decide_eq_false j0)
   refine lR q0 fun n0 o0 => ?_
   refine wpList_nil ?_
   exact x_then_n ⟨(o0.sub (rc4 (rc2 (rc rfl (rc (rb rfl (by (simp only [decide_eq_false j0, if_neg j0, bl]; done))) (rc rfl rnl)))))), b0⟩
  rintro o0 j0 ⟨n0, q0⟩
  refine wn f0 ?_
  rcases Bool.eq_false_or_eq_true (((decide (0 ≤ (((nth t (t.length - 1)).N) - u))) && ((decide ((k) < 0)) || (decide ((((nth t (t.length - 1)).N) - u) = (k)))))) with f0 | f0
  ·
   have j0 := and_tl f0
   have o0 := of_decide_eq_true j0
   have o0 := and_tr f0
   have j0 := o0
   try simp only [bz] at j0
   refine wct n0 f0 fun j0 => ?_
   refine wsc fun o0 p0 => lR j0 fun o0 t0 => ?_
   refine wn p0 <| wp_ret <| x_then_r <| x_then_r <| er2 t0 ?_
   refine ⟨?_, q0.fr⟩
   exact ret_t2 (ret_i (by (rw [(us_var hb (by omega)).1]; split <;> omega))) (ret_i (by (rw [(us_var hb (by omega)).2]; split <;> omega)))
  have t0 := f0
  try simp only [bz] at t0
  refine wcf n0 f0 fun t0 => ?_
  refine wp_skip <| xn c0 <| wsc fun c0 f0 => lR t0 fun c0 n0 => ?_
  refine wn f0 <| wp_ret <| x_then_r <| er2 n0 ?_
  refine ⟨?_, q0.fr⟩
  exact ret_t2 (ret_i (by (rw [(us_var hb (by omega)).1]; split <;> omega))) (ret_i (by (rw [(us_var hb (by omega)).2]; split <;> omega)))
 refine wcf k0 (decide_eq_false d0) fun q0 => ?_
 refine wp_skip <| xn h0 <| wsc fun h0 d0 => lR q0 fun h0 k0 => ?_
 have h0 := b0.nf
 refine kcl k0 ok51 (rbinds_calls _ _ h0.il (nth t (t.length - 1)) (hs := (hsm _ (by omega)))) ?_
 rintro k0 b0 ⟨q0, n0, rfl, f0, c0⟩
 have b0 := h0.below f0.below
 have f0 := h0.dN b0 c0
 refine ⟨_, rfl, fun b0 c0 => ?_⟩
 refine lR c0 fun b0 h0 => ?_
 refine wn d0 <| wsc fun d0 b0 => mv h0 fun d0 c0 => ?_
 have d0 := f0.nf
 refine kcl c0 ok31 (rparts_calls _ _ d0.il _ _ _ (d0.g 0)) ?_
 rintro c0 f0 ⟨h0, k0, t0, rfl, p0, o0, j0, m0⟩
 have f0 := d0.below p0.below
 have p0 := d0.dN f0 o0
 have f0 := d0.dN p0 j0
 refine ⟨_, rfl, fun p0 j0 => ?_⟩
 refine aw j0 b0 fun p0 d0 => ?_
 refine wsc fun b0 p0 => aw d0 p0 fun b0 j0 => ?_
 refine wsc fun p0 b0 => aw j0 b0 fun p0 d0 => ?_
 refine wp_seq_k fun b0 p0 => wsc fun b0 j0 => aw d0 j0 fun b0 o0 => ?_
 refine wp_block ?_
 refine wp_loop_ghost (fun gn ga gw => ∃ j : Nat, (Reg ga 75 [(1000000, .bool false), (1, .int .i64 (k)), (2, .int .i64 (u)), (6, .int .i64 0), (7, .int .i64 0), (10, .slice q0 ((bindL (nth t (t.length - 1))).length) n0), (12, .slice h0 t0.length k0), (15, .int .i64 ((j : Nat) : Int)), (13, .int .i64 ((usP t k u j : Nat) : Int)), (14, .int .i64 ((moP t k u j)))]) ∧ (St w0 Z none_ gw [.box i0 39 [.int .i64 (((nth t (t.length - 1)).K)), .int .i64 (((nth t (t.length - 1)).N)), .int .i64 (((nth t (t.length - 1)).M)), .string ((nth t (t.length - 1)).S)]] [dRow 4 tA t.length tc (encNs t), dRow 1 q0 ((bindL (nth t (t.length - 1))).length) n0 (encIs (bindL (nth t (t.length - 1)))), dRow 1 h0 t0.length k0 (encSs t0), dAll t0]) ∧ (j ≤ t0.length) ∧ (t0.length - j) = gn) _ ⟨0, (o0.sub (rc4 (rc4 (rc (ri rfl (by simp [usP, usTs])) (rc (ri rfl (by simp [moP, moTs])) rnl))))), f0, by omega, rfl⟩ ?_
 rintro o0 f0 k0 ⟨j, h0, n0, hj, q0⟩
 have hrl : t0.length = (ptL t).length := by rw [← lsts_len, m0]
 have hp8 := ptL_le hb
 have hbj : 0 ≤ nthI (bindL (nth t (t.length - 1))) j ∧ nthI (bindL (nth t (t.length - 1))) j ≤ 2 := by rw [hbl]; exact binds_nth j
 have hup := usP_le hb k u j
 refine wp_seq_k fun q0 k0 => wsc fun q0 f0 => lR h0 fun q0 o0 => ?_
 refine wn f0 ?_
 rcases Decidable.em (((j : Nat) : Int) < ((t0.length : Nat) : Int)) with f0 | f0
 ·
  obtain ⟨hpe, hpk, hpb, hpl, hps, hp0'⟩ := part_at hb hsm m0 (show j < t0.length by omega)
  obtain ⟨hu1, hu2⟩ := us_step (k := k) (u := u) hb hpk
  have hul := usL_le hpb k (u + nthI (bindL (nth t (t.length - 1))) j)
  refine wct o0 (decide_eq_true f0) fun m0 => ?_
  refine wp_skip <| xn k0 <| wp_seq_k fun k0 q0 => wp_block ?_
  refine wp_seq_k fun k0 h0 => ?_
  obtain ⟨k0, j0, b0⟩ := n0.agree
  refine d_reg3 (n := 17) b0 4 pn (pan_then (pan_block (pan_then (pan_then (pan_block (pan_then pan_body)))))) fun k0 d0 c0 u0 v0 x0 => ?_
  refine dR [0, 1] m0 fun u0 k0 => ?_
  refine dix 2 j (j * 1) k0 (fun x hx => (ss_elem (t := t0) (k := j) (sdat (j0 2 _ rfl) hx.ag).2 (by omega)).some_) fun u0 m0 => ?_
  refine dle 3 0 (j * 1) m0 (fun x hx => ss_elem (t := t0) (k := j) (sdat (j0 2 _ rfl) hx.ag).2 (by omega)) fun u0 k0 => ?_
  have u0 := v0.el 3 j
  refine dR [4, 5, 6, 7] k0 fun v0 m0 => ?_
  refine dix 8 j (j * 1) m0 (fun x hx => (ints_elem (t := bindL (nth t (t.length - 1))) (k := j) (sdat (j0 1 _ rfl) hx.ag).2 (by omega)).some_) fun v0 k0 => ?_
  refine dle 9 0 (j * 1) k0 (fun x hx => ints_elem (t := bindL (nth t (t.length - 1))) (k := j) (sdat (j0 1 _ rfl) hx.ag).2 (by omega)) fun v0 m0 => ?_
  refine dt 10 rfl d0 m0 (want_n rfl) (fun x hx => r_add (z := (u + (nthI (bindL (nth t (t.length - 1))) j))) (sy m0) m0 rfl rfl rfl rfl (by decide) (by omega) (by omega) (by omega) gt) x0 fun v0 k0 => ?_
  refine d1 11 ?_
  have v0 := u0.nf
  refine kcl k0 ok34 (ih (((nthS t0 j).2.2).length) (by omega) _ (imm Z w0 [.box i0 39 [.int .i64 (((nth t (t.length - 1)).K)), .int .i64 (((nth t (t.length - 1)).N)), .int .i64 (((nth t (t.length - 1)).M)), .string ((nth t (t.length - 1)).S)]] _) (fun _ h => h.1) _ _ ((nthS t0 j).2.2) (k) (u + (nthI (bindL (nth t (t.length - 1))) j)) (v0.g 5) (by omega) (by assumption) (by assumption) (by omega) (by omega) rfl) ?_
  rintro k0 i0 ⟨rfl, u0⟩
  have i0 := v0.below u0.below
  refine ⟨_, rfl, fun u0 v0 => ?_⟩
  have u0 := sWI i0 4 pn
  refine ⟨u0, ?_⟩
  refine dR [12, 13, 14, 15, 16] v0 fun u0 k0 => ?_
  refine wpAnyH_done (by kernel_rfl) (c0 _ _ ?_) _
  refine xn h0 <| wsc fun h0 c0 => lR k0 fun h0 u0 => ?_
  refine adi ((usP t k u j + usL ((nthS t0 j).2.2) (k) (u + (nthI (bindL (nth t (t.length - 1))) j)) : Nat) : Int) u0 fun h0 k0 => ?_
  refine asg k0 fun h0 u0 => ?_
  refine wpList_nil (x_then_n (c0 _ _ (c_region ?_)))
  refine lR u0 fun c0 h0 => ?_
  refine r_max sv h0 rfl rfl rfl rfl rfl (by decide) fun c0 u0 => ?_
  refine asg u0 fun c0 h0 => ?_
  refine wpList_nil ?_
  refine x_block_n <| xn q0 <| c_region ?_
  refine mv h0 fun q0 c0 => ?_
  refine adi ((j + 1 : Nat) : Int) c0 fun q0 h0 => ?_
  refine asg h0 fun q0 c0 => ?_
  refine wpList_nil ?_
  have q0 := i0.forget 5
  have i0 := q0.forget 4
  exact ⟨_, by omega, j + 1, (c0.sub (rc4 (rc4 (rc (ri rfl (by rw [hu1, hpe, hbl]; try omega)) (rc (ri rfl (by rw [hu2, hpe, hbl])) rnl))))), i0, by omega, rfl⟩
 refine wcf o0 (decide_eq_false f0) fun i0 => ?_
 refine wp_exit ?_
 refine x_then_e ?_
 refine x_then_e ?_
 refine x_block_eq ?_
 refine xn p0 <| wsc fun p0 f0 => lR i0 fun p0 o0 => ?_
 refine wn f0 <| wp_ret <| er2 o0 ?_
 refine ⟨?_, n0.fr⟩
 exact ret_t2 (ret_i (by (rw [(us_root hb (by omega)).1]; congr 2; omega))) (ret_i (by (rw [(us_root hb (by omega)).2]; congr 1; omega)))
theorem rcount_calls (w0 : World) (Z : Nat → Prop) (hZ : ∀ k, Z k → k < w0.heap.size) (tA : Option Addr) (tc : Nat) (t : List Nd) (k : Int) (u : Int) (ht : (dRow 4 tA t.length tc (encNs t)).φ w0 Z) (hl : t.length ≤ 1000000 := by first | assumption | omega | (simp <;> omega)) (hsm : sml t := by first | assumption | omega | (simp <;> omega)) (hb : measB t = true := by first | assumption | omega | (simp <;> omega)) (hu0 : 0 ≤ u := by first | assumption | omega | (simp <;> omega)) (hub : u + 2 * t.length ≤ 10000000 := by first | assumption | omega | (simp <;> omega)) :
    Calls Tryd.prog 34 [.slice tA t.length tc, .int .i64 k, .int .i64 u].toArray w0 (fun e w' => e = .returned (.tuple #[.int .i64 ((usL t k u : Nat) : Int), .int .i64 (moL t k u)]) ∧ Fr none_ w0 w') := rcount_calls_rec _ w0 Z hZ tA tc t k u ht hl hsm hb hu0 hub rfl
theorem rfree_calls (w0 : World) (Z : Nat → Prop) (hZ : ∀ k, Z k → k < w0.heap.size) (tA : Option Addr) (tc : Nat) (t : List Nd) (ht : (dRow 4 tA t.length tc (encNs t)).φ w0 Z) (hl : t.length ≤ 1000000 := by first | assumption | omega | (simp <;> omega)) (hsm : sml t := by first | assumption | omega | (simp <;> omega)) :
    Calls Tryd.prog 18 [.slice tA t.length tc].toArray w0 (fun e w' => e = .returned (.tuple #[.int .i64 (frF t), .int .i64 (chk t)]) ∧ Fr none_ w0 w') := by
 have b0 := s0 (M := none_) hZ (zc ht zn)
 refine c_enter Tryd.func18 rfl Tryd.ntmps18 rfl fun c0 d0 => ?_
 refine wsc fun c0 f0 => lR d0 fun c0 h0 => ?_
 refine wn f0 <| wsc fun f0 c0 => mv h0 fun f0 d0 => ?_
 have f0 := b0.nf
 refine kcl d0 ok24 (rcheck_calls _ _ f0.il _ _ _ (f0.g 0)) ?_
 rintro d0 b0 ⟨rfl, h0⟩
 have b0 := f0.below h0.below
 refine ⟨_, rfl, fun h0 f0 => ?_⟩
 refine aw f0 c0 fun h0 d0 => ?_
 refine wp_seq_k fun c0 h0 => wsc fun c0 f0 => lR d0 fun c0 i0 => ?_
 refine wn f0 ?_
 rcases Decidable.em (((chk t)) = 0) with f0 | f0
 ·
  have hmo := moL_bd (meas_chk f0) (-1)
  refine wcfb i0 rfl (by rw [(decide_eq_true f0)]; rfl) fun c0 => ?_
  refine wp_skip <| xn h0 <| wsc fun h0 d0 => mv c0 fun h0 j0 => ?_
  have h0 := b0.nf
  refine kcl j0 ok34 (rcount_calls _ _ h0.il _ _ _ (-1) 0 (h0.g 0) (hl := hl) (hsm := hsm) (hb := (meas_chk (by omega))) (hu0 := (by omega)) (hub := (by omega))) ?_
  rintro j0 c0 ⟨rfl, k0⟩
  have c0 := h0.below k0.below
  refine ⟨_, rfl, fun k0 h0 => ?_⟩
  refine lR h0 fun k0 j0 => ?_
  refine wn d0 <| wsc fun d0 k0 => mv j0 fun d0 h0 => ?_
  refine adi ((moL t (-1) 0) + 1) h0 fun d0 j0 => ?_
  refine lR j0 fun d0 h0 => ?_
  refine wn k0 <| wp_ret <| er2 h0 ?_
  refine ⟨?_, c0.fr⟩
  exact ret_t2 (ret_i (by first | (unfold frF; rw [if_neg (by omega)]; done) | (unfold frF; rw [if_pos (by omega)]))) (ret_i (by omega))
 refine wctb i0 rfl (by rw [(decide_eq_false f0)]; rfl) fun c0 => ?_
 refine wsc fun f0 i0 => lR c0 fun f0 h0 => ?_
 refine wn i0 <| wp_ret <| x_then_r <| er2 h0 ?_
 refine ⟨?_, b0.fr⟩
 exact ret_t2 (ret_i (by first | (unfold frF; rw [if_neg (by omega)]; done) | (unfold frF; rw [if_pos (by omega)]))) (ret_i (by omega))
theorem rclamp_calls (w0 : World) (Z : Nat → Prop) (hZ : ∀ k, Z k → k < w0.heap.size) (n : Int)  :
    Calls Tryd.prog 33 [.int .i64 n].toArray w0 (fun e w' => e = .returned (.int .i64 (clamp n)) ∧ Fr none_ w0 w') := by
 have b0 := s0 (M := none_) hZ zn
 refine c_enter Tryd.func33 rfl Tryd.ntmps33 rfl fun c0 d0 => ?_
 refine wsc fun c0 f0 => aw d0 f0 fun c0 h0 => ?_
 refine wsc fun f0 c0 => mv h0 fun f0 d0 => ?_
 refine r_min sv d0 rfl rfl rfl rfl rfl (by decide) fun f0 h0 => ?_
 refine r_max sv h0 rfl rfl rfl rfl rfl (by decide) fun f0 d0 => ?_
 refine aw d0 c0 fun f0 h0 => ?_
 refine wp_ret <| er1 h0 ?_
 refine ⟨?_, b0.fr⟩
 exact cr (ret_i (by unfold clamp; omega))
theorem rshift_calls_rec (rn : Nat) : ∀ (w0 : World) (Z : Nat → Prop) (hZ : ∀ k, Z k → k < w0.heap.size) (tA : Option Addr) (tc : Nat) (t : List Nd) (b : Int) (fr : Int) (u : Int) (ht : (dRow 4 tA t.length tc (encNs t)).φ w0 Z) (hl : t.length ≤ 1000000) (hsm : sml t) (hb : measB t = true) (hu0 : 0 ≤ u) (hub : u + 2 * t.length ≤ 10000000) (hb1 : -1000000 ≤ b) (hb2 : b ≤ 1000000) (hrn : t.length = rn),
    Calls Tryd.prog 32 [.slice tA t.length tc, .int .i64 b, .int .i64 fr, .int .i64 u].toArray w0 (fun e w' => ∃ (rA0 : Option Addr) (rc0 : Nat), e = .returned (.tuple #[.slice rA0 (trL (shV b fr) t u).length rc0, .int .i64 (trEL (shV b fr) t u)]) ∧ Fr none_ w0 w' ∧ (dRow 4 rA0 ((trL (shV b fr) t u).length) rc0 (encNs (trL (shV b fr) t u))).φ w' (nxt Z w0 w')) := by
 induction rn using Nat.strongRecOn
 rename_i rn ih
 intro w0 Z hZ tA tc t b fr u ht hl hsm hb hu0 hub hb1 hb2 hrn
 have b0 := s0 (M := none_) hZ (zc ht zn)
 have hp0 := meas_pos hb
 have hrt := right_at hb (show t.length - 1 < t.length by omega)
 have hbl := bindL_right hrt
 have hbm := bindL_many hrt
 have hpm := ptL_length hb
 refine c_enter Tryd.func32 rfl Tryd.ntmps32 rfl fun c0 d0 => ?_
 refine wsc fun c0 f0 => lR d0 fun c0 h0 => ?_
 refine wn f0 <| wsc fun f0 c0 => mv h0 fun f0 d0 => ?_
 have f0 := b0.nf
 refine kcl d0 ok28 (rroot_calls _ _ f0.il _ _ _ (f0.g 0)) ?_
 rintro d0 b0 ⟨rfl, h0⟩
 have b0 := f0.below h0.below
 refine ⟨_, rfl, fun h0 f0 => ?_⟩
 refine alc f0 b0 fun h0 d0 i0 j0 k0 => ?_
 refine sto 0 j0 k0 fun d0 h0 f0 b0 => ?_
 refine wn c0 <| wp_seq_k fun c0 h0 => wsc fun c0 d0 => lR f0 fun c0 k0 => ?_
 refine l_and 6 (decide ((fr) ≤ (((nth t (t.length - 1)).N) - u))) k0 (fun c0 f0 j0 => ?_) fun m0 n0 => ?_
 ·
  have m0 := of_decide_eq_true c0
  obtain ⟨c0, k0⟩ := var_at hb m0
  refine m_field (j' := 1) (st_listV_w (wt f0)) f0 rfl rfl rfl Tryd.underlying39 rfl sz3 rfl rfl (by decide) fun m0 o0 => ?_
  refine m_load (i := 0) (st_listV_w (wt o0)) o0 b0 rfl rfl rfl rfl rfl Tryd.underlying3 rfl (by decide) fun m0 f0 => ?_
  refine r_move (st_listV_w (wt f0)) f0 rfl rfl rfl (by decide) fun m0 o0 => ?_
  refine sbi (((nth t (t.length - 1)).N) - u) o0 fun m0 f0 => ?_
  refine r_move (st_listV_w (wt f0)) f0 rfl rfl rfl (by decide) fun m0 o0 => ?_
  refine r_geq (st_listV_w (wt o0)) o0 rfl rfl rfl rfl (by decide) fun m0 f0 => ?_
  refine r_pick_t sv f0 rfl rfl rfl rfl (by decide) fun m0 o0 => ?_
  exact j0.fin o0
 refine wn d0 ?_
 rcases Bool.eq_false_or_eq_true (((decide ((((nth t (t.length - 1)).K)) = 0)) && (decide ((fr) ≤ (((nth t (t.length - 1)).N) - u))))) with d0 | d0
 ·
  have o0 := and_tl d0
  have j0 := of_decide_eq_true o0
  obtain ⟨c0, k0⟩ := var_at hb j0
  have j0 := and_tr d0
  have k0 := of_decide_eq_true j0
  refine wct n0 d0 fun k0 => ?_
  refine wsc fun j0 c0 => lR k0 fun j0 o0 => ?_
  refine adi (((nth t (t.length - 1)).N) + b) o0 fun j0 k0 => ?_
  refine aw k0 c0 fun j0 o0 => ?_
  refine wp_seq_k fun c0 j0 => wsc fun c0 k0 => lR o0 fun c0 m0 => ?_
  refine sbi (((nth t (t.length - 1)).N) + b - u) m0 fun c0 o0 => ?_
  refine lR o0 fun c0 m0 => ?_
  refine wn k0 ?_
  rcases Decidable.em ((((nth t (t.length - 1)).N) + b - u) < (fr)) with k0 | k0
  ·
   refine wct m0 (decide_eq_true k0) fun c0 => ?_
   refine wsc fun o0 f0 => lR c0 fun o0 p0 => ?_
   refine wn f0 <| wp_ret <| x_then_r <| x_then_r <| er2 p0 ?_
   have p0 : trL (shV b fr) t u = [] := by exact (sh_low hb (by omega) (by omega) (by omega)).2
   rw [p0]
   refine ⟨none, 0, ?_, b0.fr, ⟨Nat.le_refl _, RowI.nil _ _ _ _⟩⟩
   exact ret_t2 rfl (ret_i (by first | omega | (rw [(sh_low hb (by omega) (by omega) (by omega)).1])))
  refine wcf m0 (decide_eq_false k0) fun p0 => ?_
  refine wp_skip <| xn j0 <| wp_seq_k fun j0 k0 => wsc fun j0 m0 => lR p0 fun j0 f0 => ?_
  refine wn m0 ?_
  rcases Decidable.em (99 < (((nth t (t.length - 1)).N) + b)) with m0 | m0
  ·
   refine wct f0 (decide_eq_true m0) fun j0 => ?_
   refine wsc fun p0 o0 => lR j0 fun p0 c0 => ?_
   refine wn o0 <| wp_ret <| x_then_r <| x_then_r <| er2 c0 ?_
   have c0 : trL (shV b fr) t u = [] := by exact (sh_high hb (by omega) (by omega) (by omega) (by omega)).2
   rw [c0]
   refine ⟨none, 0, ?_, b0.fr, ⟨Nat.le_refl _, RowI.nil _ _ _ _⟩⟩
   exact ret_t2 rfl (ret_i (by first | (rw [(sh_high hb (by omega) (by omega) (by omega) (by omega)).1]) | (rw [(sh_good hb (by omega) (by omega) (by omega) (by omega)).1]) | (rw [hs1, hpe, hbl]; done)))
  refine wcf f0 (decide_eq_false m0) fun c0 => ?_
  refine wp_skip <| xn k0 <| wsc fun k0 m0 => mv c0 fun k0 f0 => ?_
  refine bld f0 fun k0 c0 => ?_
  refine bsl c0 b0 fun k0 f0 o0 p0 j0 => ?_
  refine lR p0 fun f0 k0 => ?_
  refine wn m0 <| wp_ret <| x_then_r <| er2 k0 ?_
  have k0 : trL (shV b fr) t u = [(⟨0, (((nth t (t.length - 1)).N) + b), 0, (⟨#[]⟩ : ByteArray)⟩ : Nd)] := (sh_good hb (by omega) (by omega) (by omega) (by omega)).2
  rw [k0]
  have k0 := j0.pub 1 (dRow 4 (some ⟨o0, 0, none⟩) 1 1 (encNs ([(⟨0, (((nth t (t.length - 1)).N) + b), 0, (⟨#[]⟩ : ByteArray)⟩ : Nd)])))
  refine ⟨(some ⟨o0, 0, none⟩), 1, ?_, k0.fr, k0.rx 1⟩
  exact ret_t2 rfl (ret_i (by first | (rw [(sh_high hb (by omega) (by omega) (by omega) (by omega)).1]) | (rw [(sh_good hb (by omega) (by omega) (by omega) (by omega)).1]) | (rw [hs1, hpe, hbl]; done)))
 have k0 := d0
 try simp only [bz] at k0
 refine wcf n0 d0 fun k0 => ?_
 refine wp_skip <| xn h0 <| wsc fun h0 d0 => lR k0 fun h0 n0 => ?_
 have h0 := b0.nf
 refine kcl n0 ok51 (rbinds_calls _ _ h0.il (nth t (t.length - 1)) (hs := (hsm _ (by omega)))) ?_
 rintro n0 b0 ⟨k0, o0, rfl, j0, m0⟩
 have b0 := h0.below j0.below
 have j0 := h0.dN b0 m0
 refine ⟨_, rfl, fun b0 m0 => ?_⟩
 refine lR m0 fun b0 h0 => ?_
 refine wn d0 <| wsc fun d0 b0 => mv h0 fun d0 m0 => ?_
 have d0 := j0.nf
 refine kcl m0 ok31 (rparts_calls _ _ d0.il _ _ _ (d0.g 0)) ?_
 rintro m0 j0 ⟨h0, n0, f0, rfl, p0, c0, q0, t0⟩
 have j0 := d0.below p0.below
 have p0 := d0.dN j0 c0
 have j0 := d0.dN p0 q0
 refine ⟨_, rfl, fun p0 q0 => ?_⟩
 refine aw q0 b0 fun p0 d0 => ?_
 refine wsc fun b0 p0 => ?_
 have b0 := j0.data (dAll []) all_nil
 refine bsl d0 b0 fun j0 q0 c0 m0 u0 => ?_
 refine aw m0 p0 fun q0 j0 => ?_
 refine wp_seq_k fun p0 q0 => wsc fun p0 m0 => aw j0 m0 fun p0 b0 => ?_
 refine wp_block ?_
 refine wp_loop_ghost (fun gn ga gw => ∃ j : Nat, ∃ Ls : List Sl, ∃ Ao : Option Addr, ∃ co : Nat, (Reg ga 86 [(1000000, .bool false), (1, .int .i64 (b)), (2, .int .i64 (fr)), (3, .int .i64 (u)), (10, .pointer (some ⟨i0, 0, none⟩)), (12, .slice k0 ((bindL (nth t (t.length - 1))).length) o0), (14, .slice h0 f0.length n0), (16, .int .i64 ((j : Nat) : Int)), (15, .slice Ao ((Ls).length) co)]) ∧ (St w0 Z none_ gw [.box i0 39 [.int .i64 (((nth t (t.length - 1)).K)), .int .i64 (((nth t (t.length - 1)).N)), .int .i64 (((nth t (t.length - 1)).M)), .string ((nth t (t.length - 1)).S)], .row Ao ((Ls).length) co 22 1 (encSs Ls)] [dRow 4 tA t.length tc (encNs t), dRow 1 k0 ((bindL (nth t (t.length - 1))).length) o0 (encIs (bindL (nth t (t.length - 1)))), dRow 1 h0 f0.length n0 (encSs f0), dAll f0, dAll Ls]) ∧ (j ≤ f0.length) ∧ (lsts Ls = trTP (shV b fr) t u j) ∧ (trEP (shV b fr) t u j = 0) ∧ (f0.length - j) = gn) _ ⟨0, [], (some ⟨c0, 0, none⟩), 0, (b0.sub (rc4 (rc4 (rc rfl rnl)))), u0, by omega, by rw [(tr_zero _ _ _).2]; rfl, (tr_zero _ _ _).1, rfl⟩ ?_
 rintro b0 u0 c0 ⟨j, Ls, Ao, co, n0, h0, hj, hL, hE, o0⟩
 have hrl : f0.length = (ptL t).length := by rw [← lsts_len, t0]
 have hp8 := ptL_le hb
 have hbj : 0 ≤ nthI (bindL (nth t (t.length - 1))) j ∧ nthI (bindL (nth t (t.length - 1))) j ≤ 2 := by rw [hbl]; exact binds_nth j
 have hLn : Ls.length = j := by rw [← lsts_len, hL]; exact trTP_len hb (by omega)
 refine wp_seq_k fun o0 c0 => wsc fun o0 u0 => lR n0 fun o0 b0 => ?_
 refine wn u0 ?_
 rcases Decidable.em (((j : Nat) : Int) < ((f0.length : Nat) : Int)) with u0 | u0
 ·
  obtain ⟨hpe, hpk, hpb, hpl, hps, hp0'⟩ := part_at hb hsm t0 (show j < f0.length by omega)
  refine wct b0 (decide_eq_true u0) fun t0 => ?_
  refine wp_skip <| xn c0 <| wp_seq_k fun c0 o0 => wp_block ?_
  refine wp_seq_k fun c0 n0 => ?_
  obtain ⟨c0, k0, m0⟩ := h0.agree
  refine d_reg3 (n := 18) m0 5 pn (pan_then (pan_block (pan_then (pan_then (pan_block (pan_then pan_body)))))) fun c0 p0 j0 d0 v0 x0 => ?_
  refine dR [0, 1] t0 fun d0 c0 => ?_
  refine dix 2 j (j * 1) c0 (fun x hx => (ss_elem (t := f0) (k := j) (sdat (k0 2 _ rfl) hx.ag).2 (by omega)).some_) fun d0 t0 => ?_
  refine dle 3 0 (j * 1) t0 (fun x hx => ss_elem (t := f0) (k := j) (sdat (k0 2 _ rfl) hx.ag).2 (by omega)) fun d0 c0 => ?_
  have d0 := v0.el 3 j
  refine dR [4, 5, 6, 7, 8] c0 fun v0 t0 => ?_
  refine dix 9 j (j * 1) t0 (fun x hx => (ints_elem (t := bindL (nth t (t.length - 1))) (k := j) (sdat (k0 1 _ rfl) hx.ag).2 (by omega)).some_) fun v0 c0 => ?_
  refine dle 10 0 (j * 1) c0 (fun x hx => ints_elem (t := bindL (nth t (t.length - 1))) (k := j) (sdat (k0 1 _ rfl) hx.ag).2 (by omega)) fun v0 t0 => ?_
  refine dt 11 rfl p0 t0 (want_n rfl) (fun x hx => r_add (z := (u + (nthI (bindL (nth t (t.length - 1))) j))) (sy t0) t0 rfl rfl rfl rfl (by decide) (by omega) (by omega) (by omega) gt) x0 fun v0 c0 => ?_
  refine d1 12 ?_
  have v0 := d0.nf
  refine kcl c0 ok32 (ih (((nthS f0 j).2.2).length) (by omega) _ (imm Z w0 [.box i0 39 [.int .i64 (((nth t (t.length - 1)).K)), .int .i64 (((nth t (t.length - 1)).N)), .int .i64 (((nth t (t.length - 1)).M)), .string ((nth t (t.length - 1)).S)], .row Ao ((Ls).length) co 22 1 (encSs Ls)] _) (fun _ h => h.1) _ _ ((nthS f0 j).2.2) (b) (fr) (u + (nthI (bindL (nth t (t.length - 1))) j)) (v0.g 6) (by omega) (by assumption) (by assumption) (by omega) (by omega) (by assumption) (by assumption) rfl) ?_
  rintro c0 i0 ⟨d0, t0, rfl, x0, p0⟩
  have i0 := v0.below x0.below
  have x0 := v0.dN i0 p0
  refine ⟨_, rfl, fun i0 p0 => ?_⟩
  have i0 := sWI x0 5 pn
  refine ⟨i0, ?_⟩
  refine dR [13, 14, 15, 16, 17] p0 fun i0 v0 => ?_
  refine wpAnyH_done (by kernel_rfl) (j0 _ _ ?_) _
  refine xn n0 <| wp_seq_k fun n0 j0 => wsc fun n0 i0 => lR v0 fun n0 p0 => ?_
  refine wn i0 ?_
  rcases Decidable.em (((trEL (shV (b) (fr)) ((nthS f0 j).2.2) (u + (nthI (bindL (nth t (t.length - 1))) j)))) = 0) with i0 | i0
  ·
   obtain ⟨hs1, hs2⟩ := tr_step (V := shV b fr) (u := u) hb hpk hE (by rw [← hpe, ← hbl]; exact i0)
   refine wcfb p0 rfl (by rw [(decide_eq_true i0)]; rfl) fun n0 => ?_
   refine wp_skip <| xn j0 <| c_region ?_
   refine lR n0 fun j0 v0 => ?_
   have j0 := x0.data (dAll [((d0, t0, trL (shV (b) (fr)) ((nthS f0 j).2.2) (u + (nthI (bindL (nth t (t.length - 1))) j))) : Sl)]) (all_cons (x0.get (i := 7) rfl) all_nil)
   refine bsl v0 j0 fun n0 c0 k0 m0 y0 => ?_
   refine m_appendF (f := encS) (i := 1) (Ls) ([((d0, t0, trL (shV (b) (fr)) ((nthS f0 j).2.2) (u + (nthI (bindL (nth t (t.length - 1))) j))) : Sl)]) sv m0 y0 rfl rfl rfl rfl rfl encS_len (encS_one _) Tryd.underlying40 zi22 rfl rfl (own_lnews (f := encS) (y0.res (i := 2) rfl)) rfl (by (simp only [List.length_cons, List.length_nil]; omega)) (by decide) fun k0 c0 n0 j0 v0 z0 b1 => ?_
   have v0 : (Ls ++ ([((d0, t0, trL (shV (b) (fr)) ((nthS f0 j).2.2) (u + (nthI (bindL (nth t (t.length - 1))) j))) : Sl)]) : List Sl).length = (Ls).length + 1 := by (simp only [List.length_append, List.length_take, List.length_cons, List.length_nil]; done)
   have v0 := b1.erase 2
   have b1 := v0.data (dAll (Ls ++ ([((d0, t0, trL (shV (b) (fr)) ((nthS f0 j).2.2) (u + (nthI (bindL (nth t (t.length - 1))) j))) : Sl)]))) (all_append (v0.get (i := 4) rfl) (v0.get (i := 8) rfl))
   refine asg z0 fun v0 c0 => ?_
   refine wpList_nil ?_
   refine x_block_n <| xn o0 <| c_region ?_
   refine mv c0 fun o0 v0 => ?_
   refine adi ((j + 1 : Nat) : Int) v0 fun o0 c0 => ?_
   refine asg c0 fun o0 v0 => ?_
   refine wpList_nil ?_
   have o0 := b1.forget 8
   have b1 := o0.forget 7
   have o0 := b1.forget 6
   have b1 := o0.forget 5
   have o0 := b1.forget 4
   exact ⟨_, by omega, j + 1, Ls ++ ([((d0, t0, trL (shV (b) (fr)) ((nthS f0 j).2.2) (u + (nthI (bindL (nth t (t.length - 1))) j))) : Sl)]), n0, j0, (v0.sub (rc4 (rc4 (rc rfl rnl)))), o0, by omega, (by rw [lsts_app, lsts_one, hL, hs2, hpe, hbl]), hs1, rfl⟩
  obtain ⟨hs1, hs2⟩ := tr_bad (V := shV b fr) (u := u) hb hpk hE (by rw [← hpe, ← hbl]; exact i0)
  refine wctb p0 rfl (by rw [(decide_eq_false i0)]; rfl) fun o0 => ?_
  refine wsc fun i0 p0 => lR o0 fun i0 v0 => ?_
  refine wn p0 <| wp_ret <| x_then_r <| x_block_r <| x_then_r <| x_then_r <| x_block_r <| x_then_r <| er2 v0 ?_
  have v0 : trL (shV b fr) t u = [] := by exact hs2
  rw [v0]
  refine ⟨none, 0, ?_, x0.fr, ⟨Nat.le_refl _, RowI.nil _ _ _ _⟩⟩
  exact ret_t2 rfl (ret_i (by first | (rw [(sh_high hb (by omega) (by omega) (by omega) (by omega)).1]) | (rw [(sh_good hb (by omega) (by omega) (by omega) (by omega)).1]) | (rw [hs1, hpe, hbl]; done)))
 have hj2 : j = (ptL t).length := by omega
 rw [hj2] at hE hL
 have hvv : (nth t (t.length - 1)).K = 0 → (shV b fr) (nth t (t.length - 1)) u = (0, .mk (nth t (t.length - 1)) []) := by intro hk; unfold shV; rw [if_neg (by omega)]
 obtain ⟨x0, v0⟩ := tr_end hb hvv hE
 have hdn := tr_nm (V := shV b fr) (b := 1) (by omega) (fun n u _ => shV_len _ _ n u) hb hvv hE
 refine wcf b0 (decide_eq_false u0) fun x0 => ?_
 refine wp_exit ?_
 refine x_then_e ?_
 refine x_then_e ?_
 refine x_block_eq ?_
 refine xn q0 <| wsc fun q0 u0 => lR x0 fun q0 b0 => ?_
 have q0 := h0.nf
 have h0 := q0.pub 1 (dRow 1 Ao ((Ls).length) co (encSs Ls))
 refine kcl b0 ok53 (rof_calls _ _ h0.il (nth t (t.length - 1)) _ _ _ (h0.g 5) (h0.g 4) (hl := (by omega)) (hb := (by rw [hL]; omega))) ?_
 rintro b0 q0 ⟨x0, p0, rfl, i0, o0⟩
 have q0 := h0.below i0.below
 have i0 := h0.dN q0 o0
 refine ⟨_, rfl, fun q0 o0 => ?_⟩
 refine lR o0 fun q0 h0 => ?_
 refine wn u0 <| wp_ret <| er2 h0 ?_
 have h0 : trL (shV b fr) t u = (lsts Ls).flatten ++ [(nth t (t.length - 1))] := by rw [v0, hL]
 rw [h0]
 refine ⟨x0, p0, ?_, i0.fr, i0.rx 6⟩
 exact ret_t2 rfl (ret_i (by first | omega | (rw [(sh_low hb (by omega) (by omega) (by omega)).1])))
theorem rshift_calls (w0 : World) (Z : Nat → Prop) (hZ : ∀ k, Z k → k < w0.heap.size) (tA : Option Addr) (tc : Nat) (t : List Nd) (b : Int) (fr : Int) (u : Int) (ht : (dRow 4 tA t.length tc (encNs t)).φ w0 Z) (hl : t.length ≤ 1000000 := by first | assumption | omega | (simp <;> omega)) (hsm : sml t := by first | assumption | omega | (simp <;> omega)) (hb : measB t = true := by first | assumption | omega | (simp <;> omega)) (hu0 : 0 ≤ u := by first | assumption | omega | (simp <;> omega)) (hub : u + 2 * t.length ≤ 10000000 := by first | assumption | omega | (simp <;> omega)) (hb1 : -1000000 ≤ b := by first | assumption | omega | (simp <;> omega)) (hb2 : b ≤ 1000000 := by first | assumption | omega | (simp <;> omega)) :
    Calls Tryd.prog 32 [.slice tA t.length tc, .int .i64 b, .int .i64 fr, .int .i64 u].toArray w0 (fun e w' => ∃ (rA0 : Option Addr) (rc0 : Nat), e = .returned (.tuple #[.slice rA0 (trL (shV b fr) t u).length rc0, .int .i64 (trEL (shV b fr) t u)]) ∧ Fr none_ w0 w' ∧ (dRow 4 rA0 ((trL (shV b fr) t u).length) rc0 (encNs (trL (shV b fr) t u))).φ w' (nxt Z w0 w')) := rshift_calls_rec _ w0 Z hZ tA tc t b fr u ht hl hsm hb hu0 hub hb1 hb2 rfl
theorem rShift_calls (w0 : World) (Z : Nat → Prop) (hZ : ∀ k, Z k → k < w0.heap.size) (tA : Option Addr) (tc : Nat) (t : List Nd) (b : Int) (fr : Int) (ht : (dRow 4 tA t.length tc (encNs t)).φ w0 Z) (hl : t.length ≤ 1000000 := by first | assumption | omega | (simp <;> omega)) (hsm : sml t := by first | assumption | omega | (simp <;> omega)) :
    Calls Tryd.prog 16 [.slice tA t.length tc, .int .i64 b, .int .i64 fr].toArray w0 (fun e w' => ∃ (rA0 : Option Addr) (rc0 : Nat), e = .returned (.tuple #[.slice rA0 (sfA t b fr).length rc0, .int .i64 (sfE t b fr)]) ∧ Fr none_ w0 w' ∧ (dRow 4 rA0 ((sfA t b fr).length) rc0 (encNs (sfA t b fr))).φ w' (nxt Z w0 w')) := by
 have b0 := s0 (M := none_) hZ (zc ht zn)
 refine c_enter Tryd.func16 rfl Tryd.ntmps16 rfl fun c0 d0 => ?_
 refine wsc fun c0 f0 => lR d0 fun c0 h0 => ?_
 refine wn f0 <| wsc fun f0 c0 => mv h0 fun f0 d0 => ?_
 have f0 := b0.nf
 refine kcl d0 ok24 (rcheck_calls _ _ f0.il _ _ _ (f0.g 0)) ?_
 rintro d0 b0 ⟨rfl, h0⟩
 have b0 := f0.below h0.below
 refine ⟨_, rfl, fun h0 f0 => ?_⟩
 refine aw f0 c0 fun h0 d0 => ?_
 refine wp_seq_k fun c0 h0 => wsc fun c0 f0 => lR d0 fun c0 i0 => ?_
 refine wn f0 ?_
 rcases Decidable.em (((chk t)) = 0) with f0 | f0
 ·
  refine wcfb i0 rfl (by rw [(decide_eq_true f0)]; rfl) fun c0 => ?_
  refine wp_skip <| xn h0 <| wsc fun h0 d0 => lR c0 fun h0 j0 => ?_
  have h0 := b0.nf
  refine kcl j0 ok33 (rclamp_calls _ _ h0.il (b)) ?_
  rintro j0 c0 ⟨rfl, k0⟩
  have c0 := h0.below k0.below
  refine ⟨_, rfl, fun k0 h0 => ?_⟩
  refine mv h0 fun k0 j0 => ?_
  have k0 := c0.nf
  refine kcl j0 ok33 (rclamp_calls _ _ k0.il (fr)) ?_
  rintro j0 c0 ⟨rfl, h0⟩
  have c0 := k0.below h0.below
  refine ⟨_, rfl, fun h0 k0 => ?_⟩
  refine r_max sv k0 rfl rfl rfl rfl rfl (by decide) fun h0 j0 => ?_
  have h0 := c0.nf
  refine kcl j0 ok32 (rshift_calls _ _ h0.il _ _ _ ((clamp (b))) ((max 0 ((clamp (fr))))) 0 (h0.g 0) (hl := hl) (hsm := hsm) (hb := (meas_chk (by omega))) (hu0 := (by omega)) (hub := (by omega)) (hb1 := (by unfold clamp; omega)) (hb2 := (by unfold clamp; omega))) ?_
  rintro j0 c0 ⟨k0, m0, rfl, n0, o0⟩
  have c0 := h0.below n0.below
  have n0 := h0.dN c0 o0
  refine ⟨_, rfl, fun c0 o0 => ?_⟩
  refine lR o0 fun c0 h0 => ?_
  refine wn d0 <| wp_ret <| er2 h0 ?_
  have h0 : sfA t b fr = trL (shV ((clamp (b))) ((max 0 ((clamp (fr)))))) t 0 := (sfE_ok (by omega)).2
  rw [h0]
  refine ⟨k0, m0, ?_, n0.fr, n0.rx 1⟩
  exact ret_t2 rfl (ret_i (by first | (rw [(sfE_no (by omega)).1]; done) | (rw [(sfE_ok (by omega)).1]; done)))
 refine wctb i0 rfl (by rw [(decide_eq_false f0)]; rfl) fun n0 => ?_
 refine wsc fun f0 i0 => lR n0 fun f0 m0 => ?_
 refine wn i0 <| wp_ret <| x_then_r <| er2 m0 ?_
 have m0 : sfA t b fr = [] := (sfE_no (by omega)).2
 rw [m0]
 refine ⟨none, 0, ?_, b0.fr, ⟨Nat.le_refl _, RowI.nil _ _ _ _⟩⟩
 exact ret_t2 rfl (ret_i (by first | (rw [(sfE_no (by omega)).1]; done) | (rw [(sfE_ok (by omega)).1]; done)))
theorem rput_calls_rec (rn : Nat) : ∀ (w0 : World) (Z : Nat → Prop) (hZ : ∀ k, Z k → k < w0.heap.size) (tA : Option Addr) (tc : Nat) (t : List Nd) (k : Int) (u : Int) (pA : Option Addr) (pc : Nat) (p : List Sl) (ht : (dRow 4 tA t.length tc (encNs t)).φ w0 Z) (hp : (dRow 1 pA p.length pc (encSs p)).φ w0 Z) (hps : (dAll p).φ w0 Z) (hl : t.length ≤ 1000000) (hsm : sml t) (hb : measB t = true) (hu0 : 0 ≤ u) (hub : u + 2 * t.length ≤ 10000000) (hl4 : t.length ≤ 4000) (hp1 : p.length ≤ 1000) (hp2 : ∀ x ∈ lsts p, x.length ≤ 4000) (hp3 : ∀ x ∈ lsts p, sml x) (hk0 : 0 ≤ k) (hk1 : k ≤ 1000000) (hrn : t.length = rn),
    Calls Tryd.prog 89 [.slice tA t.length tc, .int .i64 k, .int .i64 u, .slice pA p.length pc].toArray w0 (fun e w' => ∃ (rA0 : Option Addr) (rc0 : Nat), e = .returned (.tuple #[.slice rA0 (trL (puV k (lsts p)) t u).length rc0, .int .i64 (trEL (puV k (lsts p)) t u)]) ∧ Fr none_ w0 w' ∧ (dRow 4 rA0 ((trL (puV k (lsts p)) t u).length) rc0 (encNs (trL (puV k (lsts p)) t u))).φ w' (nxt Z w0 w')) := by
 induction rn using Nat.strongRecOn
 rename_i rn ih
 intro w0 Z hZ tA tc t k u pA pc p ht hp hps hl hsm hb hu0 hub hl4 hp1 hp2 hp3 hk0 hk1 hrn
 have b0 := s0 (M := none_) hZ (zc ht (zc hp (zc hps zn)))
 have hp0 := meas_pos hb
 have hrt := right_at hb (show t.length - 1 < t.length by omega)
 have hbl := bindL_right hrt
 have hbm := bindL_many hrt
 have hpm := ptL_length hb
 have hpl4 := hp2
 refine c_enter Tryd.func89 rfl Tryd.ntmps89 rfl fun c0 d0 => ?_
 refine wsc fun c0 f0 => lR d0 fun c0 h0 => ?_
 refine wn f0 <| wsc fun f0 c0 => mv h0 fun f0 d0 => ?_
 have f0 := b0.nf
 refine kcl d0 ok28 (rroot_calls _ _ f0.il _ _ _ (f0.g 0)) ?_
 rintro d0 b0 ⟨rfl, h0⟩
 have b0 := f0.below h0.below
 refine ⟨_, rfl, fun h0 f0 => ?_⟩
 refine alc f0 b0 fun h0 d0 i0 j0 k0 => ?_
 refine sto 0 j0 k0 fun d0 h0 f0 b0 => ?_
 refine wn c0 <| wp_seq_k fun c0 h0 => wsc fun c0 d0 => lR f0 fun c0 k0 => ?_
 refine wn d0 ?_
 rcases Decidable.em ((((nth t (t.length - 1)).K)) = 0) with d0 | d0
 ·
  obtain ⟨c0, f0⟩ := var_at hb d0
  refine wct k0 (decide_eq_true d0) fun f0 => ?_
  refine wsc fun c0 j0 => lR f0 fun c0 m0 => ?_
  refine sbi (((nth t (t.length - 1)).N) - u) m0 fun c0 f0 => ?_
  refine aw f0 j0 fun c0 m0 => ?_
  refine wp_seq_k fun j0 c0 => wsc fun j0 f0 => lR m0 fun j0 n0 => ?_
  refine wn f0 ?_
  rcases Decidable.em ((((nth t (t.length - 1)).N) - u) < (k)) with f0 | f0
  ·
   refine wct n0 (decide_eq_true f0) fun j0 => ?_
   refine wsc fun m0 o0 => lR j0 fun m0 p0 => ?_
   refine wn o0 <| wp_ret <| x_then_r <| x_then_r <| er2 p0 ?_
   have p0 : trL (puV k (lsts p)) t u = t := (pu_lt hb (by omega) (by omega)).2
   rw [p0]
   refine ⟨tA, tc, ?_, b0.fr, b0.rx 0⟩
   exact ret_t2 rfl (ret_i (by first | (rw [(pu_lt hb (by omega) (by omega)).1]; done) | (rw [p0]; done)))
  refine wcf n0 (decide_eq_false f0) fun o0 => ?_
  refine wp_skip <| xn c0 <| wp_seq_k fun c0 f0 => wsc fun c0 n0 => lR o0 fun c0 m0 => ?_
  refine adi (k + ((p.length : Nat) : Int)) m0 fun c0 o0 => ?_
  refine lR o0 fun c0 m0 => ?_
  refine wn n0 ?_
  rcases Decidable.em ((((nth t (t.length - 1)).N) - u) < (k + ((p.length : Nat) : Int))) with n0 | n0
  ·
   refine wct m0 (decide_eq_true n0) fun c0 => ?_
   refine wsc fun o0 j0 => lR c0 fun o0 q0 => ?_
   refine sbi (((nth t (t.length - 1)).N) - u - k) q0 fun o0 c0 => ?_
   refine ix (((((nth t (t.length - 1)).N) - u - k)).toNat) ((((((nth t (t.length - 1)).N) - u - k)).toNat) * 1) c0 (ss_elem (t := p) (k := ((((nth t (t.length - 1)).N) - u - k)).toNat) (b0.row (i := 1) rfl).2 (by omega)).some_ fun o0 q0 => ?_
   refine lde 0 ((((((nth t (t.length - 1)).N) - u - k)).toNat) * 1) q0 (ss_elem (t := p) (k := ((((nth t (t.length - 1)).N) - u - k)).toNat) (b0.row (i := 1) rfl).2 (by omega)) fun o0 c0 => ?_
   have o0 := b0.el 2 (((((nth t (t.length - 1)).N) - u - k)).toNat)
   refine lR c0 fun q0 t0 => ?_
   refine adi (u + k) t0 fun q0 c0 => ?_
   have q0 := o0.nf
   refine kcl c0 ok16 (rShift_calls _ _ q0.il _ _ ((nthS p (((((nth t (t.length - 1)).N) - u - k)).toNat)).2.2) (u + k) 0 (q0.g 3) (hl := (Nat.le_trans (hp2 _ (by rw [lsts_nth]; exact nthL_mem (by rw [lsts_len]; omega))) (by omega))) (hsm := (hp3 _ (by rw [lsts_nth]; exact nthL_mem (by rw [lsts_len]; omega))))) ?_
   rintro c0 o0 ⟨t0, u0, rfl, v0, x0⟩
   have o0 := q0.below v0.below
   have v0 := q0.dN o0 x0
   refine ⟨_, rfl, fun o0 x0 => ?_⟩
   refine lR x0 fun o0 q0 => ?_
   refine wn j0 <| wp_ret <| x_then_r <| x_then_r <| er2 q0 ?_
   have q0 : trL (puV k (lsts p)) t u = sfA ((nthS p (((((nth t (t.length - 1)).N) - u - k)).toNat)).2.2) (u + k) 0 := by rw [(pu_in hb (by omega) (by omega) (by rw [lsts_len]; omega)).2, lsts_nth]; rfl
   rw [q0]
   refine ⟨t0, u0, ?_, v0.fr, v0.rx 4⟩
   exact ret_t2 rfl (ret_i (by first | (rw [(pu_in hb (by omega) (by omega) (by rw [lsts_len]; omega)).1, lsts_nth]; rfl) | (rw [(pu_ge hb (by omega) (by omega) (by rw [lsts_len]; omega)).1]; done) | (rw [hs1, hpe, hbl]; done)))
  refine wcf m0 (decide_eq_false n0) fun v0 => ?_
  refine wp_skip <| xn f0 <| wsc fun f0 n0 => lR v0 fun f0 m0 => ?_
  refine sbi (((nth t (t.length - 1)).N) - ((p.length : Nat) : Int)) m0 fun f0 v0 => ?_
  refine bld v0 fun f0 m0 => ?_
  refine bsl m0 b0 fun f0 v0 u0 t0 q0 => ?_
  refine lR t0 fun v0 f0 => ?_
  refine wn n0 <| wp_ret <| x_then_r <| er2 f0 ?_
  have f0 : trL (puV k (lsts p)) t u = [(⟨0, (((nth t (t.length - 1)).N) - ((p.length : Nat) : Int)), 0, (⟨#[]⟩ : ByteArray)⟩ : Nd)] := by rw [(pu_ge hb (by omega) (by omega) (by rw [lsts_len]; omega)).2, lsts_len]
  rw [f0]
  have f0 := q0.pub 1 (dRow 4 (some ⟨u0, 0, none⟩) 1 1 (encNs ([(⟨0, (((nth t (t.length - 1)).N) - ((p.length : Nat) : Int)), 0, (⟨#[]⟩ : ByteArray)⟩ : Nd)])))
  refine ⟨(some ⟨u0, 0, none⟩), 1, ?_, f0.fr, f0.rx 3⟩
  exact ret_t2 rfl (ret_i (by first | (rw [(pu_in hb (by omega) (by omega) (by rw [lsts_len]; omega)).1, lsts_nth]; rfl) | (rw [(pu_ge hb (by omega) (by omega) (by rw [lsts_len]; omega)).1]; done) | (rw [hs1, hpe, hbl]; done)))
 refine wcf k0 (decide_eq_false d0) fun f0 => ?_
 refine wp_skip <| xn h0 <| wsc fun h0 d0 => lR f0 fun h0 k0 => ?_
 have h0 := b0.nf
 refine kcl k0 ok51 (rbinds_calls _ _ h0.il (nth t (t.length - 1)) (hs := (hsm _ (by omega)))) ?_
 rintro k0 b0 ⟨f0, u0, rfl, q0, n0⟩
 have b0 := h0.below q0.below
 have q0 := h0.dN b0 n0
 refine ⟨_, rfl, fun b0 n0 => ?_⟩
 refine lR n0 fun b0 h0 => ?_
 refine wn d0 <| wsc fun d0 b0 => mv h0 fun d0 n0 => ?_
 have d0 := q0.nf
 refine kcl n0 ok31 (rparts_calls _ _ d0.il _ _ _ (d0.g 0)) ?_
 rintro n0 q0 ⟨h0, k0, v0, rfl, t0, m0, j0, o0⟩
 have q0 := d0.below t0.below
 have t0 := d0.dN q0 m0
 have q0 := d0.dN t0 j0
 refine ⟨_, rfl, fun t0 j0 => ?_⟩
 refine aw j0 b0 fun t0 d0 => ?_
 refine wsc fun b0 t0 => ?_
 have b0 := q0.data (dAll []) all_nil
 refine bsl d0 b0 fun q0 j0 m0 n0 x0 => ?_
 refine aw n0 t0 fun j0 q0 => ?_
 refine wp_seq_k fun t0 j0 => wsc fun t0 n0 => aw q0 n0 fun t0 b0 => ?_
 refine wp_block ?_
 refine wp_loop_ghost (fun gn ga gw => ∃ j : Nat, ∃ Ls : List Sl, ∃ Ao : Option Addr, ∃ co : Nat, (Reg ga 97 [(1000000, .bool false), (1, .int .i64 (k)), (2, .int .i64 (u)), (3, .slice pA p.length pc), (10, .pointer (some ⟨i0, 0, none⟩)), (12, .slice f0 ((bindL (nth t (t.length - 1))).length) u0), (14, .slice h0 v0.length k0), (16, .int .i64 ((j : Nat) : Int)), (15, .slice Ao ((Ls).length) co)]) ∧ (St w0 Z none_ gw [.box i0 39 [.int .i64 (((nth t (t.length - 1)).K)), .int .i64 (((nth t (t.length - 1)).N)), .int .i64 (((nth t (t.length - 1)).M)), .string ((nth t (t.length - 1)).S)], .row Ao ((Ls).length) co 22 1 (encSs Ls)] [dRow 4 tA t.length tc (encNs t), dRow 1 pA p.length pc (encSs p), dAll p, dRow 1 f0 ((bindL (nth t (t.length - 1))).length) u0 (encIs (bindL (nth t (t.length - 1)))), dRow 1 h0 v0.length k0 (encSs v0), dAll v0, dAll Ls]) ∧ (j ≤ v0.length) ∧ (lsts Ls = trTP (puV k (lsts p)) t u j) ∧ (trEP (puV k (lsts p)) t u j = 0) ∧ (v0.length - j) = gn) _ ⟨0, [], (some ⟨m0, 0, none⟩), 0, (b0.sub (rc4 (rc4 (rc rfl rnl)))), x0, by omega, by rw [(tr_zero _ _ _).2]; rfl, (tr_zero _ _ _).1, rfl⟩ ?_
 rintro b0 x0 m0 ⟨j, Ls, Ao, co, k0, h0, hj, hL, hE, u0⟩
 have hrl : v0.length = (ptL t).length := by rw [← lsts_len, o0]
 have hp8 := ptL_le hb
 have hbj : 0 ≤ nthI (bindL (nth t (t.length - 1))) j ∧ nthI (bindL (nth t (t.length - 1))) j ≤ 2 := by rw [hbl]; exact binds_nth j
 have hLn : Ls.length = j := by rw [← lsts_len, hL]; exact trTP_len hb (by omega)
 refine wp_seq_k fun u0 m0 => wsc fun u0 x0 => lR k0 fun u0 b0 => ?_
 refine wn x0 ?_
 rcases Decidable.em (((j : Nat) : Int) < ((v0.length : Nat) : Int)) with x0 | x0
 ·
  obtain ⟨hpe, hpk, hpb, hpl, hps, hp0'⟩ := part_at hb hsm o0 (show j < v0.length by omega)
  refine wct b0 (decide_eq_true x0) fun o0 => ?_
  refine wp_skip <| xn m0 <| wp_seq_k fun m0 u0 => wp_block ?_
  refine wp_seq_k fun m0 k0 => ?_
  obtain ⟨m0, f0, n0⟩ := h0.agree
  refine d_reg3 (n := 18) n0 7 pn (pan_then (pan_block (pan_then (pan_then (pan_block (pan_then pan_body)))))) fun m0 t0 q0 d0 c0 y0 => ?_
  refine dR [0, 1] o0 fun d0 m0 => ?_
  refine dix 2 j (j * 1) m0 (fun x hx => (ss_elem (t := v0) (k := j) (sdat (f0 4 _ rfl) hx.ag).2 (by omega)).some_) fun d0 o0 => ?_
  refine dle 3 0 (j * 1) o0 (fun x hx => ss_elem (t := v0) (k := j) (sdat (f0 4 _ rfl) hx.ag).2 (by omega)) fun d0 m0 => ?_
  have d0 := c0.el 5 j
  refine dR [4, 5, 6, 7] m0 fun c0 o0 => ?_
  refine dix 8 j (j * 1) o0 (fun x hx => (ints_elem (t := bindL (nth t (t.length - 1))) (k := j) (sdat (f0 3 _ rfl) hx.ag).2 (by omega)).some_) fun c0 m0 => ?_
  refine dle 9 0 (j * 1) m0 (fun x hx => ints_elem (t := bindL (nth t (t.length - 1))) (k := j) (sdat (f0 3 _ rfl) hx.ag).2 (by omega)) fun c0 o0 => ?_
  refine dt 10 rfl t0 o0 (want_n rfl) (fun x hx => r_add (z := (u + (nthI (bindL (nth t (t.length - 1))) j))) (sy o0) o0 rfl rfl rfl rfl (by decide) (by omega) (by omega) (by omega) gt) y0 fun c0 m0 => ?_
  refine dR [11] m0 fun c0 o0 => ?_
  refine d1 12 ?_
  have c0 := d0.nf
  refine kcl o0 ok89 (ih (((nthS v0 j).2.2).length) (by omega) _ (imm Z w0 [.box i0 39 [.int .i64 (((nth t (t.length - 1)).K)), .int .i64 (((nth t (t.length - 1)).N)), .int .i64 (((nth t (t.length - 1)).M)), .string ((nth t (t.length - 1)).S)], .row Ao ((Ls).length) co 22 1 (encSs Ls)] _) (fun _ h => h.1) _ _ ((nthS v0 j).2.2) (k) (u + (nthI (bindL (nth t (t.length - 1))) j)) _ _ _ (c0.g 8) (c0.g 1) (c0.g 2) (by omega) (by assumption) (by assumption) (by omega) (by omega) (by omega) (by assumption) (by assumption) (by assumption) (by assumption) (by assumption) rfl) ?_
  rintro o0 i0 ⟨d0, m0, rfl, y0, t0⟩
  have i0 := c0.below y0.below
  have y0 := c0.dN i0 t0
  refine ⟨_, rfl, fun i0 t0 => ?_⟩
  have i0 := sWI y0 7 pn
  refine ⟨i0, ?_⟩
  refine dR [13, 14, 15, 16, 17] t0 fun i0 c0 => ?_
  refine wpAnyH_done (by kernel_rfl) (q0 _ _ ?_) _
  refine xn k0 <| wp_seq_k fun k0 q0 => wsc fun k0 i0 => lR c0 fun k0 t0 => ?_
  refine wn i0 ?_
  rcases Decidable.em (((trEL (puV (k) (lsts p)) ((nthS v0 j).2.2) (u + (nthI (bindL (nth t (t.length - 1))) j)))) = 0) with i0 | i0
  ·
   obtain ⟨hs1, hs2⟩ := tr_step (V := puV k (lsts p)) (u := u) hb hpk hE (by rw [← hpe, ← hbl]; exact i0)
   refine wcfb t0 rfl (by rw [(decide_eq_true i0)]; rfl) fun k0 => ?_
   refine wp_skip <| xn q0 <| c_region ?_
   refine lR k0 fun q0 c0 => ?_
   have q0 := y0.data (dAll [((d0, m0, trL (puV (k) (lsts p)) ((nthS v0 j).2.2) (u + (nthI (bindL (nth t (t.length - 1))) j))) : Sl)]) (all_cons (y0.get (i := 9) rfl) all_nil)
   refine bsl c0 q0 fun k0 o0 f0 n0 z0 => ?_
   refine m_appendF (f := encS) (i := 1) (Ls) ([((d0, m0, trL (puV (k) (lsts p)) ((nthS v0 j).2.2) (u + (nthI (bindL (nth t (t.length - 1))) j))) : Sl)]) sv n0 z0 rfl rfl rfl rfl rfl encS_len (encS_one _) Tryd.underlying40 zi22 rfl rfl (own_lnews (f := encS) (z0.res (i := 2) rfl)) rfl (by (simp only [List.length_cons, List.length_nil]; omega)) (by decide) fun f0 o0 k0 q0 c0 b1 c1 => ?_
   have c0 : (Ls ++ ([((d0, m0, trL (puV (k) (lsts p)) ((nthS v0 j).2.2) (u + (nthI (bindL (nth t (t.length - 1))) j))) : Sl)]) : List Sl).length = (Ls).length + 1 := by (simp only [List.length_append, List.length_take, List.length_cons, List.length_nil]; done)
   have c0 := c1.erase 2
   have c1 := c0.data (dAll (Ls ++ ([((d0, m0, trL (puV (k) (lsts p)) ((nthS v0 j).2.2) (u + (nthI (bindL (nth t (t.length - 1))) j))) : Sl)]))) (all_append (c0.get (i := 6) rfl) (c0.get (i := 10) rfl))
   refine asg b1 fun c0 o0 => ?_
   refine wpList_nil ?_
   refine x_block_n <| xn u0 <| c_region ?_
   refine mv o0 fun u0 c0 => ?_
   refine adi ((j + 1 : Nat) : Int) c0 fun u0 o0 => ?_
   refine asg o0 fun u0 c0 => ?_
   refine wpList_nil ?_
   have u0 := c1.forget 10
   have c1 := u0.forget 9
   have u0 := c1.forget 8
   have c1 := u0.forget 7
   have u0 := c1.forget 6
   exact ⟨_, by omega, j + 1, Ls ++ ([((d0, m0, trL (puV (k) (lsts p)) ((nthS v0 j).2.2) (u + (nthI (bindL (nth t (t.length - 1))) j))) : Sl)]), k0, q0, (c0.sub (rc4 (rc4 (rc rfl rnl)))), u0, by omega, (by rw [lsts_app, lsts_one, hL, hs2, hpe, hbl]), hs1, rfl⟩
  obtain ⟨hs1, hs2⟩ := tr_bad (V := puV k (lsts p)) (u := u) hb hpk hE (by rw [← hpe, ← hbl]; exact i0)
  refine wctb t0 rfl (by rw [(decide_eq_false i0)]; rfl) fun u0 => ?_
  refine wsc fun i0 t0 => lR u0 fun i0 c0 => ?_
  refine wn t0 <| wp_ret <| x_then_r <| x_block_r <| x_then_r <| x_then_r <| x_block_r <| x_then_r <| er2 c0 ?_
  have c0 : trL (puV k (lsts p)) t u = [] := hs2
  rw [c0]
  refine ⟨none, 0, ?_, y0.fr, ⟨Nat.le_refl _, RowI.nil _ _ _ _⟩⟩
  exact ret_t2 rfl (ret_i (by first | (rw [(pu_in hb (by omega) (by omega) (by rw [lsts_len]; omega)).1, lsts_nth]; rfl) | (rw [(pu_ge hb (by omega) (by omega) (by rw [lsts_len]; omega)).1]; done) | (rw [hs1, hpe, hbl]; done)))
 have hj2 : j = (ptL t).length := by omega
 rw [hj2] at hE hL
 have hvv : (nth t (t.length - 1)).K = 0 → (puV k (lsts p)) (nth t (t.length - 1)) u = (0, .mk (nth t (t.length - 1)) []) := by intro hk; omega
 obtain ⟨p0, y0⟩ := tr_end hb hvv hE
 have hdn := tr_nm (V := puV k (lsts p)) (b := 4000) (by omega) (puV_len (by omega) hpl4) hb hvv hE
 refine wcf b0 (decide_eq_false x0) fun c0 => ?_
 refine wp_exit ?_
 refine x_then_e ?_
 refine x_then_e ?_
 refine x_block_eq ?_
 refine xn j0 <| wsc fun j0 x0 => lR c0 fun j0 b0 => ?_
 have j0 := h0.nf
 have h0 := j0.pub 1 (dRow 1 Ao ((Ls).length) co (encSs Ls))
 refine kcl b0 ok53 (rof_calls _ _ h0.il (nth t (t.length - 1)) _ _ _ (h0.g 7) (h0.g 6) (hl := (by omega)) (hb := (by rw [hL]; omega))) ?_
 rintro b0 j0 ⟨c0, t0, rfl, i0, u0⟩
 have j0 := h0.below i0.below
 have i0 := h0.dN j0 u0
 refine ⟨_, rfl, fun j0 u0 => ?_⟩
 refine lR u0 fun j0 h0 => ?_
 refine wn x0 <| wp_ret <| er2 h0 ?_
 have h0 : trL (puV k (lsts p)) t u = (lsts Ls).flatten ++ [(nth t (t.length - 1))] := by rw [y0, hL]
 rw [h0]
 refine ⟨c0, t0, ?_, i0.fr, i0.rx 8⟩
 exact ret_t2 rfl (ret_i (by first | (rw [(pu_lt hb (by omega) (by omega)).1]; done) | (rw [p0]; done)))
theorem rput_calls (w0 : World) (Z : Nat → Prop) (hZ : ∀ k, Z k → k < w0.heap.size) (tA : Option Addr) (tc : Nat) (t : List Nd) (k : Int) (u : Int) (pA : Option Addr) (pc : Nat) (p : List Sl) (ht : (dRow 4 tA t.length tc (encNs t)).φ w0 Z) (hp : (dRow 1 pA p.length pc (encSs p)).φ w0 Z) (hps : (dAll p).φ w0 Z) (hl : t.length ≤ 1000000 := by first | assumption | omega | (simp <;> omega)) (hsm : sml t := by first | assumption | omega | (simp <;> omega)) (hb : measB t = true := by first | assumption | omega | (simp <;> omega)) (hu0 : 0 ≤ u := by first | assumption | omega | (simp <;> omega)) (hub : u + 2 * t.length ≤ 10000000 := by first | assumption | omega | (simp <;> omega)) (hl4 : t.length ≤ 4000 := by first | assumption | omega | (simp <;> omega)) (hp1 : p.length ≤ 1000 := by first | assumption | omega | (simp <;> omega)) (hp2 : ∀ x ∈ lsts p, x.length ≤ 4000 := by first | assumption | omega | (simp <;> omega)) (hp3 : ∀ x ∈ lsts p, sml x := by first | assumption | omega | (simp <;> omega)) (hk0 : 0 ≤ k := by first | assumption | omega | (simp <;> omega)) (hk1 : k ≤ 1000000 := by first | assumption | omega | (simp <;> omega)) :
    Calls Tryd.prog 89 [.slice tA t.length tc, .int .i64 k, .int .i64 u, .slice pA p.length pc].toArray w0 (fun e w' => ∃ (rA0 : Option Addr) (rc0 : Nat), e = .returned (.tuple #[.slice rA0 (trL (puV k (lsts p)) t u).length rc0, .int .i64 (trEL (puV k (lsts p)) t u)]) ∧ Fr none_ w0 w' ∧ (dRow 4 rA0 ((trL (puV k (lsts p)) t u).length) rc0 (encNs (trL (puV k (lsts p)) t u))).φ w' (nxt Z w0 w')) := rput_calls_rec _ w0 Z hZ tA tc t k u pA pc p ht hp hps hl hsm hb hu0 hub hl4 hp1 hp2 hp3 hk0 hk1 rfl
theorem rPut_calls (w0 : World) (Z : Nat → Prop) (hZ : ∀ k, Z k → k < w0.heap.size) (tA : Option Addr) (tc : Nat) (t : List Nd) (k : Int) (pA : Option Addr) (pc : Nat) (p : List Sl) (ht : (dRow 4 tA t.length tc (encNs t)).φ w0 Z) (hp : (dRow 1 pA p.length pc (encSs p)).φ w0 Z) (hps : (dAll p).φ w0 Z) (hl : t.length ≤ 1000000 := by first | assumption | omega | (simp <;> omega)) (hsm : sml t := by first | assumption | omega | (simp <;> omega)) (hb : measB t = true := by first | assumption | omega | (simp <;> omega)) (hl4 : t.length ≤ 4000 := by first | assumption | omega | (simp <;> omega)) (hp1 : p.length ≤ 1000 := by first | assumption | omega | (simp <;> omega)) (hp2 : ∀ x ∈ lsts p, x.length ≤ 4000 := by first | assumption | omega | (simp <;> omega)) (hp3 : ∀ x ∈ lsts p, sml x := by first | assumption | omega | (simp <;> omega)) (hk0 : 0 ≤ k := by first | assumption | omega | (simp <;> omega)) (hk1 : k ≤ 1000000 := by first | assumption | omega | (simp <;> omega)) :
    Calls Tryd.prog 73 [.slice tA t.length tc, .int .i64 k, .slice pA p.length pc].toArray w0 (fun e w' => ∃ (rA0 : Option Addr) (rc0 : Nat), e = .returned (.tuple #[.slice rA0 (poA t k (lsts p)).length rc0, .int .i64 (poE t k (lsts p))]) ∧ Fr none_ w0 w' ∧ (dRow 4 rA0 ((poA t k (lsts p)).length) rc0 (encNs (poA t k (lsts p)))).φ w' (nxt Z w0 w')) := by
 have b0 := s0 (M := none_) hZ (zc ht (zc hp (zc hps zn)))
 have hxl := trL_len (b := 4000) (by omega) (puV_len (k := k) (by omega) hp2) hb 0
 have hxs := trL_sml (puV_sml (k := k) hp3) hb hsm 0
 refine c_enter Tryd.func73 rfl Tryd.ntmps73 rfl fun c0 d0 => ?_
 refine wsc fun c0 f0 => lR d0 fun c0 h0 => ?_
 refine wn f0 <| wsc fun f0 c0 => lR h0 fun f0 d0 => ?_
 have f0 := b0.nf
 refine kcl d0 ok89 (rput_calls _ _ f0.il _ _ _ (k) 0 _ _ _ (f0.g 0) (f0.g 1) (f0.g 2)) ?_
 rintro d0 b0 ⟨h0, i0, rfl, j0, k0⟩
 have b0 := f0.below j0.below
 have j0 := f0.dN b0 k0
 refine ⟨_, rfl, fun b0 k0 => ?_⟩
 refine lR k0 fun b0 f0 => ?_
 refine wn c0 <| wp_seq_k fun c0 b0 => wsc fun c0 k0 => lR f0 fun c0 d0 => ?_
 refine wn k0 ?_
 rcases Decidable.em (((trEL (puV (k) (lsts p)) t 0)) = 0) with k0 | k0
 ·
  refine wct d0 (decide_eq_true k0) fun c0 => ?_
  refine c_region ?_
  refine mv c0 fun f0 m0 => ?_
  have f0 := j0.nf
  refine kcl m0 ok24 (rcheck_calls _ _ f0.il _ _ (trL (puV (k) (lsts p)) t 0) (f0.g 3)) ?_
  rintro m0 c0 ⟨rfl, n0⟩
  have c0 := f0.below n0.below
  refine ⟨_, rfl, fun n0 f0 => ?_⟩
  refine aw f0 b0 fun n0 m0 => ?_
  refine wp_seq_k fun n0 f0 => wsc fun n0 o0 => lR m0 fun n0 p0 => ?_
  refine wn o0 ?_
  rcases Decidable.em (((chk (trL (puV (k) (lsts p)) t 0))) = 0) with o0 | o0
  ·
   refine wcfb p0 rfl (by rw [(decide_eq_true o0)]; rfl) fun n0 => ?_
   refine wp_skip <| xn f0 <| wsc fun f0 m0 => lR n0 fun f0 q0 => ?_
   refine wn m0 <| wp_ret <| er2 q0 ?_
   have q0 : poA t k (lsts p) = trL (puV (k) (lsts p)) t 0 := by rw [(po_chk (by omega)).2, if_pos (by omega)]
   rw [q0]
   refine ⟨h0, i0, ?_, c0.fr, c0.rx 3⟩
   exact ret_t2 rfl (ret_i (by first | (rw [(po_chk (by omega)).1]; done) | (rw [(po_chk (by omega)).1]; omega)))
  refine wctb p0 rfl (by rw [(decide_eq_false o0)]; rfl) fun i0 => ?_
  refine wsc fun o0 p0 => lR i0 fun o0 h0 => ?_
  refine wn p0 <| wp_ret <| x_then_r <| er2 h0 ?_
  have h0 : poA t k (lsts p) = [] := by (rw [(po_chk (by omega)).2, if_neg (by omega)])
  rw [h0]
  refine ⟨none, 0, ?_, c0.fr, ⟨Nat.le_refl _, RowI.nil _ _ _ _⟩⟩
  exact ret_t2 rfl (ret_i (by first | (rw [(po_chk (by omega)).1]; done) | (rw [(po_chk (by omega)).1]; omega)))
 refine wcf d0 (decide_eq_false k0) fun c0 => ?_
 refine wp_skip <| xn b0 <| wp_seq_k fun b0 d0 => wsc fun d0 b0 => lR c0 fun d0 h0 => ?_
 refine wn b0 <| wctb h0 rfl (by rw [(decide_eq_false k0)]; rfl) fun b0 => ?_
 refine wsc fun h0 k0 => lR b0 fun h0 d0 => ?_
 refine wn k0 <| wp_ret <| x_then_r <| er2 d0 ?_
 have d0 : poA t k (lsts p) = [] := by exact (po_err (by omega)).2
 rw [d0]
 refine ⟨none, 0, ?_, j0.fr, ⟨Nat.le_refl _, RowI.nil _ _ _ _⟩⟩
 exact ret_t2 rfl (ret_i (by (rw [(po_err (by omega)).1]; done)))
theorem bleaf_calls (w0 : World) (Z : Nat → Prop) (hZ : ∀ k, Z k → k < w0.heap.size) (n : Nd)  :
    Calls Tryd.prog 90 [.agg #[.int .i64 (n.K), .int .i64 (n.N), .int .i64 (n.M), .string n.S]].toArray w0 (fun e w' => ∃ (rA0 : Option Addr) (rc0 : Nat) (rL0 : List Nd), e = .returned (.agg #[.slice rA0 rL0.length rc0, .int .i64 (0)]) ∧ Fr none_ w0 w' ∧ (dRow 4 rA0 rL0.length rc0 (encNs rL0)).φ w' (nxt Z w0 w') ∧ rL0 = [n]) := by
 have b0 := s0 (M := none_) hZ zn
 refine c_enter Tryd.func90 rfl Tryd.ntmps90 rfl fun c0 d0 => ?_
 refine wsc fun c0 f0 => bxx d0 b0 fun c0 h0 i0 j0 k0 => ?_
 refine alc j0 k0 fun i0 h0 c0 d0 b0 => ?_
 refine wn f0 <| wsc fun f0 c0 => lR d0 fun f0 h0 => ?_
 refine bsl h0 b0 fun f0 d0 i0 k0 j0 => ?_
 refine bld k0 fun d0 f0 => ?_
 refine sto 1 f0 j0 fun d0 k0 h0 b0 => ?_
 refine wn c0 <| wp_ret ?_
 have c0 := b0.pub 2 (dRow 4 (some ⟨i0, 0, none⟩) 1 1 (encNs ([n])))
 refine e_cell (i := 1) (vs := [.slice (some ⟨i0, 0, none⟩) 1 1, .int .i64 0]) (.inl rfl) h0 c0 rfl rfl rfl rfl Tryd.underlying57 rfl sz57 ?_
 refine ⟨(some ⟨i0, 0, none⟩), 1, ([n]), ?_, c0.fr, c0.rx 0, (by rfl)⟩
 exact cr (ret_u (by rfl) (by rfl))
theorem btick_calls (w0 : World) (Z : Nat → Prop) (hZ : ∀ k, Z k → k < w0.heap.size)   :
    Calls Tryd.prog 75 [].toArray w0 (fun e w' => ∃ (rA0 : Option Addr) (rc0 : Nat) (rL0 : List Nd), e = .returned (.agg #[.slice rA0 rL0.length rc0, .int .i64 (0)]) ∧ Fr none_ w0 w' ∧ (dRow 4 rA0 rL0.length rc0 (encNs rL0)).φ w' (nxt Z w0 w') ∧ rL0 = [⟨29, 0, 0, ⟨#[]⟩⟩]) := by
 have b0 := s0 (M := none_) hZ zn
 refine c_enter Tryd.func75 rfl Tryd.ntmps75 rfl fun c0 d0 => ?_
 refine wsc fun c0 f0 => alc d0 b0 fun c0 h0 i0 j0 k0 => ?_
 refine wn f0 <| wsc fun f0 i0 => bld j0 fun f0 h0 => ?_
 have f0 := k0.nf
 refine kcl h0 ok90 (bleaf_calls _ _ f0.il (⟨29, 0, 0, (⟨#[]⟩ : ByteArray)⟩ : Nd)) ?_
 rintro h0 k0 ⟨j0, c0, d0, rfl, b0, m0, n0⟩
 have k0 := f0.below b0.below
 have b0 := f0.dN k0 m0
 refine ⟨_, rfl, fun k0 m0 => ?_⟩
 refine sto 0 m0 b0 fun k0 f0 h0 o0 => ?_
 refine wn i0 <| wp_ret <| e_cell (i := 0) (vs := [.slice j0 d0.length c0, .int .i64 (0)]) (.inl rfl) h0 o0 rfl rfl rfl rfl Tryd.underlying57 rfl sz57 ?_
 refine ⟨j0, c0, d0, ?_, o0.fr, o0.rx 0, n0⟩
 exact cr (ret_u (by rfl) (by rfl))
theorem bvar_calls (w0 : World) (Z : Nat → Prop) (hZ : ∀ k, Z k → k < w0.heap.size) (n : Int)  :
    Calls Tryd.prog 74 [.int .i64 n].toArray w0 (fun e w' => ∃ (rA0 : Option Addr) (rc0 : Nat) (rL0 : List Nd), e = .returned (.agg #[.slice rA0 rL0.length rc0, .int .i64 (0)]) ∧ Fr none_ w0 w' ∧ (dRow 4 rA0 rL0.length rc0 (encNs rL0)).φ w' (nxt Z w0 w') ∧ rL0 = [⟨0, n, 0, ⟨#[]⟩⟩]) := by
 have b0 := s0 (M := none_) hZ zn
 refine c_enter Tryd.func74 rfl Tryd.ntmps74 rfl fun c0 d0 => ?_
 refine wsc fun c0 f0 => alc d0 b0 fun c0 h0 i0 j0 k0 => ?_
 refine wn f0 <| wsc fun f0 i0 => mv j0 fun f0 h0 => ?_
 refine bld h0 fun f0 j0 => ?_
 have f0 := k0.nf
 refine kcl j0 ok90 (bleaf_calls _ _ f0.il (⟨0, (n), 0, (⟨#[]⟩ : ByteArray)⟩ : Nd)) ?_
 rintro j0 k0 ⟨h0, c0, d0, rfl, b0, m0, n0⟩
 have k0 := f0.below b0.below
 have b0 := f0.dN k0 m0
 refine ⟨_, rfl, fun k0 m0 => ?_⟩
 refine sto 0 m0 b0 fun k0 f0 j0 o0 => ?_
 refine wn i0 <| wp_ret <| e_cell (i := 0) (vs := [.slice h0 d0.length c0, .int .i64 (0)]) (.inl rfl) j0 o0 rfl rfl rfl rfl Tryd.underlying57 rfl sz57 ?_
 refine ⟨h0, c0, d0, ?_, o0.fr, o0.rx 0, n0⟩
 exact cr (ret_u (by rfl) (by rfl))
theorem bstuck_calls (w0 : World) (Z : Nat → Prop) (hZ : ∀ k, Z k → k < w0.heap.size)   :
    Calls Tryd.prog 45 [].toArray w0 (fun e w' => ∃ (rA0 : Option Addr) (rc0 : Nat) (rL0 : List Nd), e = .returned (.agg #[.slice rA0 rL0.length rc0, .int .i64 (120)]) ∧ Fr none_ w0 w' ∧ (dRow 4 rA0 rL0.length rc0 (encNs rL0)).φ w' (nxt Z w0 w') ∧ rL0 = ([] : List Nd)) := by
 have b0 := s0 (M := none_) hZ zn
 refine c_enter Tryd.func45 rfl Tryd.ntmps45 rfl fun c0 d0 => ?_
 refine wsc fun c0 f0 => alc d0 b0 fun c0 h0 i0 j0 k0 => ?_
 refine wn f0 <| wsc fun f0 i0 => bld j0 fun f0 h0 => ?_
 refine sto 0 h0 k0 fun f0 j0 c0 d0 => ?_
 refine wn i0 <| wp_ret <| e_cell (i := 0) (vs := [.slice none 0 0, .int .i64 120]) (.inl rfl) c0 d0 rfl rfl rfl rfl Tryd.underlying57 rfl sz57 ?_
 refine ⟨none, 0, [], ?_, d0.fr, ⟨Nat.le_refl _, RowI.nil _ _ _ _⟩, (by rfl)⟩
 exact cr (ret_u (by rfl) (by rfl))
theorem bof_calls (w0 : World) (Z : Nat → Prop) (hZ : ∀ k, Z k → k < w0.heap.size) (n : Nd) (lA : Option Addr) (lc : Nat) (l : List Bu) (hl : (dRow 2 lA l.length lc (encUs l)).φ w0 Z) (hls : (dAllU l).φ w0 Z) (hln : l.length ≤ 10 := by first | assumption | omega | (simp <;> omega)) (hbn : ∀ x ∈ blts l, x.1.length ≤ 1000000 := by first | assumption | omega | (simp <;> omega)) :
    Calls Tryd.prog 48 [.agg #[.int .i64 (n.K), .int .i64 (n.N), .int .i64 (n.M), .string n.S], .slice lA l.length lc].toArray w0 (fun e w' => ∃ (rA0 : Option Addr) (rc0 : Nat) (rL0 : List Nd), e = .returned (.agg #[.slice rA0 rL0.length rc0, .int .i64 ((bOf n (blts l)).2)]) ∧ Fr none_ w0 w' ∧ (dRow 4 rA0 rL0.length rc0 (encNs rL0)).φ w' (nxt Z w0 w') ∧ rL0 = (bOf n (blts l)).1) := by
 have b0 := s0 (M := none_) hZ (zc hl (zc hls zn))
 refine c_enter Tryd.func48 rfl Tryd.ntmps48 rfl fun c0 d0 => ?_
 refine wsc fun c0 f0 => bxx d0 b0 fun c0 h0 i0 j0 k0 => ?_
 refine alc j0 k0 fun h0 c0 d0 b0 m0 => ?_
 refine wn f0 <| wsc fun f0 c0 => ?_
 have f0 := m0.data (dAll []) all_nil
 refine bsl b0 f0 fun m0 h0 k0 j0 n0 => ?_
 refine aw j0 c0 fun h0 m0 => ?_
 refine wp_seq_k fun c0 h0 => wsc fun c0 j0 => aw m0 j0 fun c0 f0 => ?_
 refine wp_block ?_
 refine wp_loop_ghost (fun gn ga gw => ∃ k : Nat, ∃ Ys : List Sl, ∃ yA : Option Addr, ∃ yc : Nat, (Reg ga 38 [(1000000, .bool false), (1, .slice lA l.length lc), (2, .pointer (some ⟨i0, 0, none⟩)), (4, .pointer (some ⟨d0, 0, none⟩)), (6, .int .i64 ((k : Nat) : Int)), (5, .slice yA ((Ys).length) yc)]) ∧ (St w0 Z none_ gw [.box i0 39 [.int .i64 (n.K), .int .i64 (n.N), .int .i64 (n.M), .string n.S], .box d0 57 [.slice none 0 0, .int .i64 0], .row yA ((Ys).length) yc 22 1 (encSs Ys)] [dRow 2 lA l.length lc (encUs l), dAllU l, dAll Ys]) ∧ (k ≤ l.length) ∧ (∀ i, i < k → (nthU l i).2 = 0) ∧ (lsts Ys = (blts (l.take k)).map (·.1)) ∧ (l.length - k) = gn) _ ⟨0, [], (some ⟨k0, 0, none⟩), 0, (f0.sub (rc4 (rc rfl (rc rfl rnl)))), n0, by omega, (fun _ h => by omega), rfl, rfl⟩ ?_
 rintro f0 n0 k0 ⟨k, Ys, yA, yc, d0, i0, hk, hE, hYs, j0⟩
 have hyl : Ys.length = k := by rw [← lsts_len, hYs, List.length_map, blts_len, List.length_take]; omega
 refine wp_seq_k fun j0 k0 => wsc fun j0 n0 => lR d0 fun j0 f0 => ?_
 refine wn n0 ?_
 rcases Decidable.em (((k : Nat) : Int) < ((l.length : Nat) : Int)) with n0 | n0
 ·
  refine wct f0 (decide_eq_true n0) fun j0 => ?_
  refine wp_skip <| xn k0 <| wp_seq_k fun k0 d0 => wp_block ?_
  refine wp_seq_k fun k0 c0 => wsc fun k0 m0 => lR j0 fun k0 b0 => ?_
  refine ix k (k * 2) b0 (us_elem (t := l) (k := k) (i0.row (i := 0) rfl).2 (by omega)).some_ fun k0 j0 => ?_
  refine m_fieldE (j' := k * 2 + 1) sv j0 rfl rfl rfl (us_elem (t := l) (k := k) (i0.row (i := 0) rfl).2 (by omega)).some_ Tryd.underlying57 rfl sz27 rfl rfl (by decide) fun k0 b0 => ?_
  refine lde 1 (k * 2) b0 (us_elem (t := l) (k := k) (i0.row (i := 0) rfl).2 (by omega)) fun k0 j0 => ?_
  refine lR j0 fun k0 b0 => ?_
  refine wn m0 ?_
  rcases Decidable.em ((((nthU l k).2)) = 0) with m0 | m0
  ·
   refine wcfb b0 rfl (by rw [(decide_eq_true m0)]; rfl) fun k0 => ?_
   refine wp_skip <| xn c0 <| c_region ?_
   refine lR k0 fun c0 j0 => ?_
   refine ix k (k * 2) j0 (us_elem (t := l) (k := k) (i0.row (i := 0) rfl).2 (by omega)).some_ fun c0 k0 => ?_
   refine m_fieldE (j' := k * 2) sv k0 rfl rfl rfl (us_elem (t := l) (k := k) (i0.row (i := 0) rfl).2 (by omega)).some_ Tryd.underlying57 rfl sz22 rfl rfl (by decide) fun c0 j0 => ?_
   refine lde 0 (k * 2) j0 (us_elem (t := l) (k := k) (i0.row (i := 0) rfl).2 (by omega)) fun c0 k0 => ?_
   have c0 := i0.elU 1 k
   have j0 := c0.data (dAll [(((nthU l k).1.1, (nthU l k).1.2.1, (nthU l k).1.2.2) : Sl)]) (all_cons (c0.get (i := 3) rfl) all_nil)
   refine bsl k0 j0 fun c0 o0 p0 q0 t0 => ?_
   refine m_appendF (f := encS) (i := 2) (Ys) ([(((nthU l k).1.1, (nthU l k).1.2.1, (nthU l k).1.2.2) : Sl)]) sv q0 t0 rfl rfl rfl rfl rfl encS_len (encS_one _) Tryd.underlying40 zi22 rfl rfl (own_lnews (f := encS) (t0.res (i := 3) rfl)) rfl (by (simp only [List.length_cons, List.length_nil]; omega)) (by decide) fun p0 o0 c0 j0 k0 u0 v0 => ?_
   have k0 : (Ys ++ ([(((nthU l k).1.1, (nthU l k).1.2.1, (nthU l k).1.2.2) : Sl)]) : List Sl).length = (Ys).length + 1 := by (simp only [List.length_append, List.length_take, List.length_cons, List.length_nil]; done)
   have k0 := v0.erase 3
   have v0 := k0.data (dAll (Ys ++ ([(((nthU l k).1.1, (nthU l k).1.2.1, (nthU l k).1.2.2) : Sl)]))) (all_append (k0.get (i := 2) rfl) (k0.get (i := 4) rfl))
   refine asg u0 fun k0 o0 => ?_
   refine wpList_nil ?_
   refine x_block_n <| xn d0 <| c_region ?_
   refine mv o0 fun d0 k0 => ?_
   refine adi ((k + 1 : Nat) : Int) k0 fun d0 o0 => ?_
   refine asg o0 fun d0 k0 => ?_
   refine wpList_nil ?_
   have d0 := v0.forget 4
   have v0 := d0.forget 3
   have d0 := v0.forget 2
   exact ⟨_, by omega, k + 1, Ys ++ ([(((nthU l k).1.1, (nthU l k).1.2.1, (nthU l k).1.2.2) : Sl)]), c0, j0, (k0.sub (rc4 (rc rfl (rc rfl rnl)))), d0, by omega, u_step hE (by assumption), by rw [lsts_app, hYs, blts_snoc (by omega)]; rfl, rfl⟩
  refine wctb b0 rfl (by rw [(decide_eq_false m0)]; rfl) fun d0 => ?_
  refine wsc fun b0 k0 => lR d0 fun b0 j0 => ?_
  refine ix k (k * 2) j0 (us_elem (t := l) (k := k) (i0.row (i := 0) rfl).2 (by omega)).some_ fun b0 d0 => ?_
  refine m_fieldE (j' := k * 2 + 1) sv d0 rfl rfl rfl (us_elem (t := l) (k := k) (i0.row (i := 0) rfl).2 (by omega)).some_ Tryd.underlying57 rfl sz27 rfl rfl (by decide) fun b0 j0 => ?_
  refine lde 1 (k * 2) j0 (us_elem (t := l) (k := k) (i0.row (i := 0) rfl).2 (by omega)) fun b0 d0 => ?_
  refine bld d0 fun b0 j0 => ?_
  refine sto 1 j0 i0 fun b0 d0 c0 v0 => ?_
  refine wn k0 <| wp_ret <| x_then_r <| x_block_r <| x_then_r <| x_then_r <| x_block_r <| x_then_r <| e_cell (i := 1) (vs := [.slice none 0 0, .int .i64 (((nthU l k).2))]) (.inl rfl) c0 v0 rfl rfl rfl rfl Tryd.underlying57 rfl sz57 ?_
  refine ⟨none, 0, [], ?_, v0.fr, ⟨Nat.le_refl _, RowI.nil _ _ _ _⟩, (by rw [bOf_err hE (by omega) m0])⟩
  exact cr (ret_u (by rfl) (by rw [bOf_err hE (by omega) m0]))
 refine wcf f0 (decide_eq_false n0) fun m0 => ?_
 refine wp_exit ?_
 refine x_then_e ?_
 refine x_then_e ?_
 refine x_block_eq ?_
 refine xn h0 <| wsc fun h0 n0 => lR m0 fun h0 f0 => ?_
 have h0 := i0.nf
 have i0 := h0.pub 2 (dRow 1 yA ((Ys).length) yc (encSs Ys))
 refine kcl f0 ok53 (rof_calls _ _ i0.il n _ _ _ (i0.g 3) (i0.g 2) (hl := (by omega)) (hb := (by rw [hYs]; exact bl_flat hbn hln (by omega)))) ?_
 rintro f0 h0 ⟨m0, v0, rfl, c0, k0⟩
 have h0 := i0.below c0.below
 have c0 := i0.dN h0 k0
 refine ⟨_, rfl, fun h0 k0 => ?_⟩
 refine bld k0 fun h0 i0 => ?_
 refine sto 1 i0 c0 fun h0 k0 f0 d0 => ?_
 refine wn n0 <| wp_ret <| e_cell (i := 1) (vs := [.slice m0 (((lsts Ys).flatten ++ [n]).length) v0, .int .i64 0]) (.inl rfl) f0 d0 rfl rfl rfl rfl Tryd.underlying57 rfl sz57 ?_
 refine ⟨m0, v0, ((lsts Ys).flatten ++ [n]), ?_, d0.fr, d0.rx 4, (by rw [bOf_ok (fun i hi => hE i (by omega)), hYs, List.take_of_length_le (by omega)])⟩
 exact cr (ret_u (by rfl) (by rw [bOf_ok (fun i hi => hE i (by omega))]))
theorem btwo_calls (w0 : World) (Z : Nat → Prop) (hZ : ∀ k, Z k → k < w0.heap.size) (kk : Int) (nn : Int) (aA : Option Addr) (ac : Nat) (a : List Nd) (ae : Int) (bA : Option Addr) (bc : Nat) (b : List Nd) (be : Int) (ha : (dRow 4 aA a.length ac (encNs a)).φ w0 Z) (hb : (dRow 4 bA b.length bc (encNs b)).φ w0 Z) (hla : a.length ≤ 1000000 := by first | assumption | omega | (simp <;> omega)) (hlb : b.length ≤ 1000000 := by first | assumption | omega | (simp <;> omega)) :
    Calls Tryd.prog 63 [.int .i64 kk, .int .i64 nn, .agg #[.slice aA a.length ac, .int .i64 ae], .agg #[.slice bA b.length bc, .int .i64 be]].toArray w0 (fun e w' => ∃ (rA0 : Option Addr) (rc0 : Nat) (rL0 : List Nd), e = .returned (.agg #[.slice rA0 rL0.length rc0, .int .i64 ((bOf ⟨kk, nn, 0, ⟨#[]⟩⟩ [(a, ae), (b, be)]).2)]) ∧ Fr none_ w0 w' ∧ (dRow 4 rA0 rL0.length rc0 (encNs rL0)).φ w' (nxt Z w0 w') ∧ rL0 = (bOf ⟨kk, nn, 0, ⟨#[]⟩⟩ [(a, ae), (b, be)]).1) := by
 have b0 := s0 (M := none_) hZ (zc ha (zc hb zn))
 refine c_enter Tryd.func63 rfl Tryd.ntmps63 rfl fun c0 d0 => ?_
 refine wsc fun c0 f0 => bxx d0 b0 fun c0 h0 i0 j0 k0 => ?_
 refine bxx j0 k0 fun i0 h0 c0 d0 b0 => ?_
 refine alc d0 b0 fun c0 h0 i0 k0 j0 => ?_
 refine wn f0 <| wsc fun f0 i0 => lR k0 fun f0 h0 => ?_
 refine bld h0 fun f0 k0 => ?_
 refine lR k0 fun f0 h0 => ?_
 have f0 := j0.data (dAllU [((((aA, ac, a) : Sl), ((ae) : Int)) : Bu), ((((bA, bc, b) : Sl), ((be) : Int)) : Bu)]) (allU_cons (j0.get (i := 0) rfl) (allU_cons (j0.get (i := 1) rfl) allU_nil))
 refine bsl h0 f0 fun j0 k0 c0 b0 d0 => ?_
 have k0 := d0.nf
 have d0 := k0.pub 3 (dRow 2 (some ⟨c0, 0, none⟩) 2 2 (encUs ([((((aA, ac, a) : Sl), ((ae) : Int)) : Bu), ((((bA, bc, b) : Sl), ((be) : Int)) : Bu)])))
 refine kcl b0 ok48 (bof_calls _ _ d0.il (⟨(kk), (nn), 0, (⟨#[]⟩ : ByteArray)⟩ : Nd) _ _ ([((((aA, ac, a) : Sl), ((ae) : Int)) : Bu), ((((bA, bc, b) : Sl), ((be) : Int)) : Bu)]) (d0.g 3) (d0.g 2) (hln := (by simp)) (hbn := (by intro x hx; simp only [blts_cons, blts_nil, List.mem_cons, List.not_mem_nil, or_false] at hx; rcases hx with rfl | rfl; exact hla; exact hlb))) ?_
 rintro b0 k0 ⟨c0, j0, f0, rfl, h0, m0, n0⟩
 have k0 := d0.below h0.below
 have h0 := d0.dN k0 m0
 refine ⟨_, rfl, fun k0 m0 => ?_⟩
 refine sto 2 m0 h0 fun k0 d0 b0 o0 => ?_
 refine wn i0 <| wp_ret <| e_cell (i := 2) (vs := [.slice c0 f0.length j0, .int .i64 (((bOf (⟨(kk), (nn), 0, (⟨#[]⟩ : ByteArray)⟩ : Nd) (blts ([((((aA, ac, a) : Sl), ((ae) : Int)) : Bu), ((((bA, bc, b) : Sl), ((be) : Int)) : Bu)]))).2))]) (.inl rfl) b0 o0 rfl rfl rfl rfl Tryd.underlying57 rfl sz57 ?_
 refine ⟨c0, j0, f0, ?_, o0.fr, o0.rx 4, n0⟩
 exact cr (ret_u (by rfl) (by rfl))
theorem bup_calls (w0 : World) (Z : Nat → Prop) (hZ : ∀ k, Z k → k < w0.heap.size) (aA : Option Addr) (ac : Nat) (a : List Nd) (ae : Int) (n : Int) (k : Int) (ha : (dRow 4 aA a.length ac (encNs a)).φ w0 Z) (hla : a.length ≤ 1000000 := by first | assumption | omega | (simp <;> omega)) (hsa : sml a := by first | assumption | omega | (simp <;> omega)) :
    Calls Tryd.prog 76 [.agg #[.slice aA a.length ac, .int .i64 ae], .int .i64 n, .int .i64 k].toArray w0 (fun e w' => ∃ (rA0 : Option Addr) (rc0 : Nat) (rL0 : List Nd), e = .returned (.agg #[.slice rA0 rL0.length rc0, .int .i64 ((bUp (a, ae) n k).2)]) ∧ Fr none_ w0 w' ∧ (dRow 4 rA0 rL0.length rc0 (encNs rL0)).φ w' (nxt Z w0 w') ∧ rL0 = (bUp (a, ae) n k).1) := by
 have b0 := s0 (M := none_) hZ (zc ha zn)
 refine c_enter Tryd.func76 rfl Tryd.ntmps76 rfl fun c0 d0 => ?_
 refine wsc fun c0 f0 => bxx d0 b0 fun c0 h0 i0 j0 k0 => ?_
 refine alc j0 k0 fun i0 h0 c0 d0 b0 => ?_
 refine wn f0 <| wp_seq_k fun f0 c0 => wsc fun f0 h0 => lR d0 fun f0 i0 => ?_
 refine wn h0 ?_
 rcases Decidable.em ((ae) = 0) with h0 | h0
 ·
  refine wcfb i0 rfl (by rw [(decide_eq_true h0)]; rfl) fun f0 => ?_
  refine wp_skip <| xn c0 <| wsc fun c0 d0 => lR f0 fun c0 k0 => ?_
  have c0 := b0.nf
  refine kcl k0 ok16 (rShift_calls _ _ c0.il _ _ _ (n) (k) (c0.g 0) (hl := hla) (hsm := hsa)) ?_
  rintro k0 f0 ⟨j0, m0, rfl, n0, o0⟩
  have f0 := c0.below n0.below
  have n0 := c0.dN f0 o0
  refine ⟨_, rfl, fun f0 o0 => ?_⟩
  refine lR o0 fun f0 c0 => ?_
  refine wn d0 <| wsc fun d0 f0 => lR c0 fun d0 o0 => ?_
  refine bld o0 fun d0 c0 => ?_
  refine sto 1 c0 n0 fun d0 o0 k0 p0 => ?_
  refine wn f0 <| wp_ret <| e_cell (i := 1) (vs := [.slice j0 ((sfA a (n) (k)).length) m0, .int .i64 ((sfE a (n) (k)))]) (.inl rfl) k0 p0 rfl rfl rfl rfl Tryd.underlying57 rfl sz57 ?_
  refine ⟨j0, m0, (sfA a (n) (k)), ?_, p0.fr, p0.rx 1, (by unfold bUp; rw [if_pos h0])⟩
  exact cr (ret_u (by rfl) (by (unfold bUp; rw [if_pos h0])))
 refine wctb i0 rfl (by rw [(decide_eq_false h0)]; rfl) fun p0 => ?_
 refine wsc fun i0 m0 => lR p0 fun i0 j0 => ?_
 refine sto 1 j0 b0 fun i0 p0 k0 f0 => ?_
 refine wn m0 <| wp_ret <| x_then_r <| e_cell (i := 1) (vs := [.slice aA a.length ac, .int .i64 (ae)]) (.inl rfl) k0 f0 rfl rfl rfl rfl Tryd.underlying57 rfl sz57 ?_
 refine ⟨aA, ac, a, ?_, f0.fr, f0.rx 0, (by unfold bUp; rw [if_neg h0])⟩
 exact cr (ret_u (by rfl) (by (unfold bUp; rw [if_neg h0])))
theorem rInst_calls (w0 : World) (Z : Nat → Prop) (hZ : ∀ k, Z k → k < w0.heap.size) (tA : Option Addr) (tc : Nat) (t : List Nd) (lA : Option Addr) (lc : Nat) (l : List Sl) (ht : (dRow 4 tA t.length tc (encNs t)).φ w0 Z) (hl : (dRow 1 lA l.length lc (encSs l)).φ w0 Z) (hls : (dAll l).φ w0 Z) (htn : t.length ≤ 1000000 := by first | assumption | omega | (simp <;> omega)) (hsm : sml t := by first | assumption | omega | (simp <;> omega)) (hl9 : l.length ≤ 9 := by first | assumption | omega | (simp <;> omega)) (hlq : ∀ x ∈ lsts l, sml x ∧ x.length ≤ 1000000 := by first | assumption | omega | (simp <;> omega)) :
    Calls Tryd.prog 62 [.slice tA t.length tc, .slice lA l.length lc].toArray w0 (fun e w' => ∃ (rA0 : Option Addr) (rc0 : Nat), e = .returned (.tuple #[.slice rA0 (inA t (lsts l)).length rc0, .int .i64 (inE t (lsts l))]) ∧ Fr none_ w0 w' ∧ (dRow 4 rA0 ((inA t (lsts l)).length) rc0 (encNs (inA t (lsts l)))).φ w' (nxt Z w0 w')) := by
 have b0 := s0 (M := none_) hZ (zc ht (zc hl (zc hls zn)))
 refine c_enter Tryd.func62 rfl Tryd.ntmps62 rfl fun c0 d0 => ?_
 refine wsc fun c0 f0 => lR d0 fun c0 h0 => ?_
 refine wn f0 <| wsc fun f0 c0 => mv h0 fun f0 d0 => ?_
 have f0 := b0.nf
 refine kcl d0 ok24 (rcheck_calls _ _ f0.il _ _ _ (f0.g 0) (hl := (by omega)) (hsm := (by exact hsm))) ?_
 rintro d0 b0 ⟨rfl, h0⟩
 have b0 := f0.below h0.below
 refine ⟨_, rfl, fun h0 f0 => ?_⟩
 refine aw f0 c0 fun h0 d0 => ?_
 refine wp_seq_k fun c0 h0 => wsc fun c0 f0 => aw d0 f0 fun c0 i0 => ?_
 refine wp_block ?_
 refine wp_loop_ghost (fun gn ga gw => ∃ k : Nat, ∃ ev : Int, (Reg ga 33 [(1000000, .bool false), (0, .slice tA t.length tc), (1, .slice lA l.length lc), (4, .slice none 0 0), (5, .int .i64 0), (7, .int .i64 ((k : Nat) : Int)), (6, .int .i64 (ev))]) ∧ (St w0 Z none_ gw [] [dRow 4 tA t.length tc (encNs t), dRow 1 lA l.length lc (encSs l), dAll l]) ∧ (k ≤ l.length) ∧ (ev = ckE (t :: (lsts l).take k)) ∧ (l.length - k) = gn) _ ⟨0, chk t, (i0.sub (rc4 (rc2 (rc rfl rnl)))), b0, by omega, by simp only [List.take_zero, ckE]; split <;> simp_all, rfl⟩ ?_
 rintro i0 b0 f0 ⟨k, ev, c0, d0, hk, hev, j0⟩
 refine wp_seq_k fun j0 f0 => wsc fun j0 b0 => lR c0 fun j0 i0 => ?_
 refine lAn 2 (decide ((ev) = 0)) i0 fun j0 c0 => ?_
 refine wn b0 ?_
 rcases Bool.eq_false_or_eq_true (((decide (((k : Nat) : Int) < ((l.length : Nat) : Int))) && (decide ((ev) = 0)))) with b0 | b0
 ·
  have j0 := and_tl b0
  have i0 := of_decide_eq_true j0
  have i0 := and_tr b0
  have j0 := of_decide_eq_true i0
  obtain ⟨hkl, j0⟩ := and_of2 b0
  refine wct c0 b0 fun i0 => ?_
  refine wp_skip <| xn f0 <| wp_seq_k fun f0 k0 => wp_block ?_
  refine c_region ?_
  refine lR i0 fun f0 m0 => ?_
  refine ix k (k * 1) m0 (ss_elem (t := l) (k := k) (d0.row (i := 1) rfl).2 (by omega)).some_ fun f0 i0 => ?_
  refine lde 0 (k * 1) i0 (ss_elem (t := l) (k := k) (d0.row (i := 1) rfl).2 (by omega)) fun f0 m0 => ?_
  have f0 := d0.el 2 k
  have i0 := f0.nf
  refine kcl m0 ok24 (rcheck_calls _ _ i0.il _ _ ((nthS l k).2.2) (i0.g 3) (hl := (by exact Nat.le_trans (hlq _ (nthS_in (by omega))).2 (by decide))) (hsm := (by exact (hlq _ (nthS_in (by omega))).1))) ?_
  rintro m0 f0 ⟨rfl, n0⟩
  have f0 := i0.below n0.below
  refine ⟨_, rfl, fun n0 i0 => ?_⟩
  refine asg i0 fun n0 m0 => ?_
  refine wpList_nil ?_
  refine x_block_n <| xn k0 <| c_region ?_
  refine mv m0 fun k0 n0 => ?_
  refine adi ((k + 1 : Nat) : Int) n0 fun k0 m0 => ?_
  refine asg m0 fun k0 n0 => ?_
  refine wpList_nil ?_
  have k0 := f0.forget 3
  exact ⟨_, by omega, k + 1, ((chk ((nthS l k).2.2))), (n0.sub (rc4 (rc2 (rc rfl rnl)))), k0, by omega, ck_next (by omega) (by rw [← hev]; exact j0), rfl⟩
 have k0 := b0
 try simp only [bz] at k0
 refine wcf c0 b0 fun k0 => ?_
 refine wp_exit ?_
 refine x_then_e ?_
 refine x_then_e ?_
 refine x_block_eq ?_
 refine xn h0 <| wp_seq_k fun h0 c0 => wsc fun h0 n0 => lR k0 fun h0 j0 => ?_
 refine wn n0 ?_
 rcases Decidable.em ((ev) = 0) with n0 | n0
 ·
  obtain ⟨hz1, hz2, hz3⟩ := ckl_oks (by rw [← (ck_end2 hev b0)]; exact n0)
  refine wcfb j0 rfl (by rw [(decide_eq_true n0)]; rfl) fun h0 => ?_
  refine wp_skip <| xn c0 <| wsc fun c0 k0 => lR h0 fun c0 f0 => ?_
  have c0 := d0.nf
  refine kcl f0 ok73 (rPut_calls _ _ c0.il _ _ _ 0 _ _ _ (c0.g 0) (c0.g 1) (c0.g 2) (hl := (by omega)) (hsm := hsm) (hb := hz1) (hl4 := hz2) (hp1 := (by omega)) (hp2 := hz3) (hp3 := (fun x hx => (hlq x hx).1)) (hk0 := (by omega)) (hk1 := (by omega))) ?_
  rintro f0 h0 ⟨m0, i0, rfl, o0, p0⟩
  have h0 := c0.below o0.below
  have o0 := c0.dN h0 p0
  refine ⟨_, rfl, fun h0 p0 => ?_⟩
  refine lR p0 fun h0 c0 => ?_
  refine wn k0 <| wp_ret <| er2 c0 ?_
  have c0 : inA t (lsts l) = poA t 0 (lsts l) := (in_ok (by rw [← (ck_end2 hev b0)]; exact n0)).2
  rw [c0]
  refine ⟨m0, i0, ?_, o0.fr, o0.rx 3⟩
  exact ret_t2 rfl (ret_i (by exact (in_ok (by rw [← (ck_end2 hev b0)]; exact n0)).1.symm))
 refine wctb j0 rfl (by rw [(decide_eq_false n0)]; rfl) fun o0 => ?_
 refine wsc fun j0 i0 => lR o0 fun j0 m0 => ?_
 refine wn i0 <| wp_ret <| x_then_r <| er2 m0 ?_
 have m0 : inA t (lsts l) = [] := (in_err (by rw [← (ck_end2 hev b0)]; exact n0)).2
 rw [m0]
 refine ⟨none, 0, ?_, d0.fr, ⟨Nat.le_refl _, RowI.nil _ _ _ _⟩⟩
 exact ret_t2 rfl (ret_i (by (rw [(in_err (by rw [← (ck_end2 hev b0)]; exact n0)).1]; exact (ck_end2 hev b0))))
theorem bat_calls (w0 : World) (Z : Nat → Prop) (hZ : ∀ k, Z k → k < w0.heap.size) (aA : Option Addr) (ac : Nat) (a : List Nd) (ae : Int) (lA : Option Addr) (lc : Nat) (l : List Bu) (ha : (dRow 4 aA a.length ac (encNs a)).φ w0 Z) (hl : (dRow 2 lA l.length lc (encUs l)).φ w0 Z) (hls : (dAllU l).φ w0 Z) (hsa : sml a := by first | assumption | omega | (simp <;> omega)) (hla : a.length ≤ 1000000 := by first | assumption | omega | (simp <;> omega)) (hln : l.length ≤ 9 := by first | assumption | omega | (simp <;> omega)) (hbn : ∀ x ∈ blts l, sml x.1 ∧ x.1.length ≤ 1000000 := by first | assumption | omega | (simp <;> omega)) :
    Calls Tryd.prog 49 [.agg #[.slice aA a.length ac, .int .i64 ae], .slice lA l.length lc].toArray w0 (fun e w' => ∃ (rA0 : Option Addr) (rc0 : Nat) (rL0 : List Nd), e = .returned (.agg #[.slice rA0 rL0.length rc0, .int .i64 ((bAt (a, ae) (blts l)).2)]) ∧ Fr none_ w0 w' ∧ (dRow 4 rA0 rL0.length rc0 (encNs rL0)).φ w' (nxt Z w0 w') ∧ rL0 = (bAt (a, ae) (blts l)).1) := by
 have b0 := s0 (M := none_) hZ (zc ha (zc hl (zc hls zn)))
 refine c_enter Tryd.func49 rfl Tryd.ntmps49 rfl fun c0 d0 => ?_
 refine wsc fun c0 f0 => bxx d0 b0 fun c0 h0 i0 j0 k0 => ?_
 refine alc j0 k0 fun h0 c0 d0 b0 m0 => ?_
 refine wn f0 <| wp_seq_k fun f0 c0 => wsc fun f0 h0 => lR b0 fun f0 k0 => ?_
 refine wn h0 ?_
 rcases Decidable.em ((ae) = 0) with h0 | h0
 ·
  have hae := h0
  refine wcfb k0 rfl (by rw [(decide_eq_true h0)]; rfl) fun f0 => ?_
  refine wp_skip <| xn c0 <| wsc fun c0 b0 => ?_
  have c0 := m0.data (dAll []) all_nil
  refine bsl f0 c0 fun j0 n0 o0 p0 q0 => ?_
  refine aw p0 b0 fun n0 j0 => ?_
  refine wp_seq_k fun b0 n0 => wsc fun b0 p0 => aw j0 p0 fun b0 c0 => ?_
  refine wp_block ?_
  refine wp_loop_ghost (fun gn ga gw => ∃ k : Nat, ∃ Ys : List Sl, ∃ yA : Option Addr, ∃ yc : Nat, (Reg ga 48 [(1000000, .bool false), (1, .slice lA l.length lc), (2, .pointer (some ⟨i0, 0, none⟩)), (4, .pointer (some ⟨d0, 0, none⟩)), (6, .int .i64 ((k : Nat) : Int)), (5, .slice yA ((Ys).length) yc)]) ∧ (St w0 Z none_ gw [.box i0 57 [.slice aA a.length ac, .int .i64 (ae)], .box d0 57 [.slice none 0 0, .int .i64 0], .row yA ((Ys).length) yc 22 1 (encSs Ys)] [dRow 4 aA a.length ac (encNs a), dRow 2 lA l.length lc (encUs l), dAllU l, dAll Ys]) ∧ (k ≤ l.length) ∧ (∀ i, i < k → (nthU l i).2 = 0) ∧ (lsts Ys = (blts (l.take k)).map (·.1)) ∧ (l.length - k) = gn) _ ⟨0, [], (some ⟨o0, 0, none⟩), 0, (c0.sub (rc4 (rc rfl (rc rfl rnl)))), q0, by omega, (fun _ h => by omega), rfl, rfl⟩ ?_
  rintro c0 q0 o0 ⟨k, Ys, yA, yc, d0, i0, hk, hE, hYs, p0⟩
  have hyl : Ys.length = k := by rw [← lsts_len, hYs, List.length_map, blts_len, List.length_take]; omega
  refine wp_seq_k fun p0 o0 => wsc fun p0 q0 => lR d0 fun p0 c0 => ?_
  refine wn q0 ?_
  rcases Decidable.em (((k : Nat) : Int) < ((l.length : Nat) : Int)) with q0 | q0
  ·
   refine wct c0 (decide_eq_true q0) fun p0 => ?_
   refine wp_skip <| xn o0 <| wp_seq_k fun o0 d0 => wp_block ?_
   refine wp_seq_k fun o0 b0 => wsc fun o0 j0 => lR p0 fun o0 f0 => ?_
   refine ix k (k * 2) f0 (us_elem (t := l) (k := k) (i0.row (i := 1) rfl).2 (by omega)).some_ fun o0 p0 => ?_
   refine m_fieldE (j' := k * 2 + 1) sv p0 rfl rfl rfl (us_elem (t := l) (k := k) (i0.row (i := 1) rfl).2 (by omega)).some_ Tryd.underlying57 rfl sz27 rfl rfl (by decide) fun o0 f0 => ?_
   refine lde 1 (k * 2) f0 (us_elem (t := l) (k := k) (i0.row (i := 1) rfl).2 (by omega)) fun o0 p0 => ?_
   refine lR p0 fun o0 f0 => ?_
   refine wn j0 ?_
   rcases Decidable.em ((((nthU l k).2)) = 0) with j0 | j0
   ·
    refine wcfb f0 rfl (by rw [(decide_eq_true j0)]; rfl) fun o0 => ?_
    refine wp_skip <| xn b0 <| c_region ?_
    refine lR o0 fun b0 p0 => ?_
    refine ix k (k * 2) p0 (us_elem (t := l) (k := k) (i0.row (i := 1) rfl).2 (by omega)).some_ fun b0 o0 => ?_
    refine m_fieldE (j' := k * 2) sv o0 rfl rfl rfl (us_elem (t := l) (k := k) (i0.row (i := 1) rfl).2 (by omega)).some_ Tryd.underlying57 rfl sz22 rfl rfl (by decide) fun b0 p0 => ?_
    refine lde 0 (k * 2) p0 (us_elem (t := l) (k := k) (i0.row (i := 1) rfl).2 (by omega)) fun b0 o0 => ?_
    have b0 := i0.elU 2 k
    have p0 := b0.data (dAll [(((nthU l k).1.1, (nthU l k).1.2.1, (nthU l k).1.2.2) : Sl)]) (all_cons (b0.get (i := 4) rfl) all_nil)
    refine bsl o0 p0 fun b0 t0 u0 v0 x0 => ?_
    refine m_appendF (f := encS) (i := 2) (Ys) ([(((nthU l k).1.1, (nthU l k).1.2.1, (nthU l k).1.2.2) : Sl)]) sv v0 x0 rfl rfl rfl rfl rfl encS_len (encS_one _) Tryd.underlying40 zi22 rfl rfl (own_lnews (f := encS) (x0.res (i := 3) rfl)) rfl (by (simp only [List.length_cons, List.length_nil]; omega)) (by decide) fun u0 t0 b0 p0 o0 y0 z0 => ?_
    have o0 : (Ys ++ ([(((nthU l k).1.1, (nthU l k).1.2.1, (nthU l k).1.2.2) : Sl)]) : List Sl).length = (Ys).length + 1 := by (simp only [List.length_append, List.length_take, List.length_cons, List.length_nil]; done)
    have o0 := z0.erase 3
    have z0 := o0.data (dAll (Ys ++ ([(((nthU l k).1.1, (nthU l k).1.2.1, (nthU l k).1.2.2) : Sl)]))) (all_append (o0.get (i := 3) rfl) (o0.get (i := 5) rfl))
    refine asg y0 fun o0 t0 => ?_
    refine wpList_nil ?_
    refine x_block_n <| xn d0 <| c_region ?_
    refine mv t0 fun d0 o0 => ?_
    refine adi ((k + 1 : Nat) : Int) o0 fun d0 t0 => ?_
    refine asg t0 fun d0 o0 => ?_
    refine wpList_nil ?_
    have d0 := z0.forget 5
    have z0 := d0.forget 4
    have d0 := z0.forget 3
    exact ⟨_, by omega, k + 1, Ys ++ ([(((nthU l k).1.1, (nthU l k).1.2.1, (nthU l k).1.2.2) : Sl)]), b0, p0, (o0.sub (rc4 (rc rfl (rc rfl rnl)))), d0, by omega, u_step hE (by assumption), by rw [lsts_app, hYs, blts_snoc (by omega)]; rfl, rfl⟩
   refine wctb f0 rfl (by rw [(decide_eq_false j0)]; rfl) fun d0 => ?_
   refine wsc fun f0 o0 => lR d0 fun f0 p0 => ?_
   refine ix k (k * 2) p0 (us_elem (t := l) (k := k) (i0.row (i := 1) rfl).2 (by omega)).some_ fun f0 d0 => ?_
   refine m_loadEN sv d0 rfl rfl rfl (us_elem (t := l) (k := k) (i0.row (i := 1) rfl).2 (by omega)) Tryd.underlying57 rfl sz57 (by decide) fun f0 p0 => ?_
   have f0 := i0.elU 2 k
   refine sto 1 p0 f0 fun d0 b0 z0 t0 => ?_
   refine wn o0 <| wp_ret <| x_then_r <| x_block_r <| x_then_r <| x_then_r <| x_block_r <| x_then_r <| e_cell (i := 1) (vs := [.slice ((nthU l k).1.1) ((nthU l k).1.2.2.length) ((nthU l k).1.2.1), .int .i64 (((nthU l k).2))]) (.inl rfl) z0 t0 rfl rfl rfl rfl Tryd.underlying57 rfl sz57 ?_
   refine ⟨((nthU l k).1.1), ((nthU l k).1.2.1), ((nthU l k).1.2.2), ?_, t0.fr, t0.rx 4, (by (rw [hae, bAt_err hE (by omega) j0]))⟩
   exact cr (ret_u (by rfl) (by (rw [hae, bAt_err hE (by omega) j0])))
  refine wcf c0 (decide_eq_false q0) fun j0 => ?_
  refine wp_exit ?_
  refine x_then_e ?_
  refine x_then_e ?_
  refine x_block_eq ?_
  refine xn n0 <| wsc fun n0 q0 => lR j0 fun n0 c0 => ?_
  have n0 := i0.nf
  have i0 := n0.pub 2 (dRow 1 yA ((Ys).length) yc (encSs Ys))
  refine kcl c0 ok62 (rInst_calls _ _ i0.il _ _ _ _ _ _ (i0.g 0) (i0.g 4) (i0.g 3) (htn := hla) (hsm := hsa) (hl9 := (by omega)) (hlq := (by rw [hYs]; intro x hx; obtain ⟨y, hy, rfl⟩ := List.mem_map.1 hx; rw [blts_take] at hy; exact hbn y (List.mem_of_mem_take hy)))) ?_
  rintro c0 n0 ⟨j0, t0, rfl, z0, o0⟩
  have n0 := i0.below z0.below
  have z0 := i0.dN n0 o0
  refine ⟨_, rfl, fun n0 o0 => ?_⟩
  refine lR o0 fun n0 i0 => ?_
  refine wn q0 <| wsc fun q0 n0 => lR i0 fun q0 o0 => ?_
  refine bld o0 fun q0 i0 => ?_
  refine sto 1 i0 z0 fun q0 o0 c0 b0 => ?_
  refine wn n0 <| wp_ret <| e_cell (i := 1) (vs := [.slice j0 ((inA a (lsts Ys)).length) t0, .int .i64 ((inE a (lsts Ys)))]) (.inl rfl) c0 b0 rfl rfl rfl rfl Tryd.underlying57 rfl sz57 ?_
  refine ⟨j0, t0, (inA a (lsts Ys)), ?_, b0.fr, b0.rx 5, (by (rw [hae, bAt_ok (fun i hi => hE i (by omega)), hYs, List.take_of_length_le (by omega)]))⟩
  exact cr (ret_u (by rfl) (by (rw [hae, bAt_ok (fun i hi => hE i (by omega)), hYs, List.take_of_length_le (by omega)])))
 refine wctb k0 rfl (by rw [(decide_eq_false h0)]; rfl) fun b0 => ?_
 refine wsc fun k0 t0 => lR b0 fun k0 j0 => ?_
 refine sto 1 j0 m0 fun k0 b0 c0 n0 => ?_
 refine wn t0 <| wp_ret <| x_then_r <| e_cell (i := 1) (vs := [.slice aA a.length ac, .int .i64 (ae)]) (.inl rfl) c0 n0 rfl rfl rfl rfl Tryd.underlying57 rfl sz57 ?_
 refine ⟨aA, ac, a, ?_, n0.fr, n0.rx 0, (by (unfold bAt; rw [if_pos h0]))⟩
 exact cr (ret_u (by rfl) (by (unfold bAt; rw [if_pos h0])))
theorem bwith_calls (w0 : World) (Z : Nat → Prop) (hZ : ∀ k, Z k → k < w0.heap.size) (aA : Option Addr) (ac : Nat) (a : List Nd) (ae : Int) (xA : Option Addr) (xc : Nat) (x : List Nd) (xe : Int) (ha : (dRow 4 aA a.length ac (encNs a)).φ w0 Z) (hx : (dRow 4 xA x.length xc (encNs x)).φ w0 Z) (hsa : sml a := by first | assumption | omega | (simp <;> omega)) (hla : a.length ≤ 1000000 := by first | assumption | omega | (simp <;> omega)) (hsx : sml x := by first | assumption | omega | (simp <;> omega)) (hlx : x.length ≤ 1000000 := by first | assumption | omega | (simp <;> omega)) :
    Calls Tryd.prog 47 [.agg #[.slice aA a.length ac, .int .i64 ae], .agg #[.slice xA x.length xc, .int .i64 xe]].toArray w0 (fun e w' => ∃ (rA0 : Option Addr) (rc0 : Nat) (rL0 : List Nd), e = .returned (.agg #[.slice rA0 rL0.length rc0, .int .i64 ((bAt (a, ae) [(x, xe)]).2)]) ∧ Fr none_ w0 w' ∧ (dRow 4 rA0 rL0.length rc0 (encNs rL0)).φ w' (nxt Z w0 w') ∧ rL0 = (bAt (a, ae) [(x, xe)]).1) := by
 have b0 := s0 (M := none_) hZ (zc ha (zc hx zn))
 refine c_enter Tryd.func47 rfl Tryd.ntmps47 rfl fun c0 d0 => ?_
 refine wsc fun c0 f0 => bxx d0 b0 fun c0 h0 i0 j0 k0 => ?_
 refine bxx j0 k0 fun i0 h0 c0 d0 b0 => ?_
 refine alc d0 b0 fun c0 h0 i0 k0 j0 => ?_
 refine wn f0 <| wsc fun f0 i0 => lR k0 fun f0 h0 => ?_
 have f0 := j0.data (dAllU [((((xA, xc, x) : Sl), ((xe) : Int)) : Bu)]) (allU_cons (j0.get (i := 1) rfl) allU_nil)
 refine bsl h0 f0 fun j0 k0 c0 b0 d0 => ?_
 have k0 := d0.nf
 have d0 := k0.pub 3 (dRow 2 (some ⟨c0, 0, none⟩) 1 1 (encUs ([((((xA, xc, x) : Sl), ((xe) : Int)) : Bu)])))
 refine kcl b0 ok49 (bat_calls _ _ d0.il _ _ _ (ae) _ _ ([((((xA, xc, x) : Sl), ((xe) : Int)) : Bu)]) (d0.g 0) (d0.g 3) (d0.g 2) (hsa := hsa) (hla := hla) (hln := (by simp)) (hbn := (by intro y hy; simp only [blts_cons, blts_nil, List.mem_cons, List.not_mem_nil, or_false] at hy; subst hy; exact ⟨hsx, hlx⟩))) ?_
 rintro b0 k0 ⟨c0, j0, f0, rfl, h0, m0, n0⟩
 have k0 := d0.below h0.below
 have h0 := d0.dN k0 m0
 refine ⟨_, rfl, fun k0 m0 => ?_⟩
 refine sto 2 m0 h0 fun k0 d0 b0 o0 => ?_
 refine wn i0 <| wp_ret <| e_cell (i := 2) (vs := [.slice c0 f0.length j0, .int .i64 (((bAt (a, (ae)) (blts ([((((xA, xc, x) : Sl), ((xe) : Int)) : Bu)]))).2))]) (.inl rfl) b0 o0 rfl rfl rfl rfl Tryd.underlying57 rfl sz57 ?_
 refine ⟨c0, j0, f0, ?_, o0.fr, o0.rx 4, n0⟩
 exact cr (ret_u (by rfl) (by rfl))
theorem bdone_calls (w0 : World) (Z : Nat → Prop) (hZ : ∀ k, Z k → k < w0.heap.size) (aA : Option Addr) (ac : Nat) (a : List Nd) (ae : Int) (ha : (dRow 4 aA a.length ac (encNs a)).φ w0 Z) (hsa : sml a := by first | assumption | omega | (simp <;> omega)) (hla : a.length ≤ 1000000 := by first | assumption | omega | (simp <;> omega)) :
    Calls Tryd.prog 25 [.agg #[.slice aA a.length ac, .int .i64 ae]].toArray w0 (fun e w' => ∃ (rA0 : Option Addr) (rc0 : Nat), e = .returned (.tuple #[.slice rA0 ((bDone (a, ae)).1).length rc0, .int .i64 ((bDone (a, ae)).2)]) ∧ Fr none_ w0 w' ∧ (dRow 4 rA0 (((bDone (a, ae)).1).length) rc0 (encNs ((bDone (a, ae)).1))).φ w' (nxt Z w0 w')) := by
 have b0 := s0 (M := none_) hZ (zc ha zn)
 refine c_enter Tryd.func25 rfl Tryd.ntmps25 rfl fun c0 d0 => ?_
 refine wsc fun c0 f0 => bxx d0 b0 fun c0 h0 i0 j0 k0 => ?_
 refine lR j0 fun i0 h0 => ?_
 refine wn f0 <| wp_seq_k fun f0 i0 => wsc fun f0 j0 => lR h0 fun f0 c0 => ?_
 refine wn j0 ?_
 rcases Decidable.em ((ae) = 0) with j0 | j0
 ·
  refine wcfb c0 rfl (by rw [(decide_eq_true j0)]; rfl) fun f0 => ?_
  refine wp_skip <| xn i0 <| wsc fun i0 h0 => lR f0 fun i0 d0 => ?_
  have i0 := k0.nf
  refine kcl d0 ok24 (rcheck_calls _ _ i0.il _ _ _ (i0.g 0) (hl := (by omega)) (hsm := hsa)) ?_
  rintro d0 f0 ⟨rfl, b0⟩
  have f0 := i0.below b0.below
  refine ⟨_, rfl, fun b0 i0 => ?_⟩
  refine aw i0 h0 fun b0 d0 => ?_
  refine wp_seq_k fun h0 b0 => wsc fun h0 i0 => lR d0 fun h0 m0 => ?_
  refine wn i0 ?_
  rcases Decidable.em (((chk a)) = 0) with i0 | i0
  ·
   refine wcfb m0 rfl (by rw [(decide_eq_true i0)]; rfl) fun h0 => ?_
   refine wp_skip <| xn b0 <| wsc fun b0 d0 => lR h0 fun b0 n0 => ?_
   refine wn d0 <| wp_ret <| er2 n0 ?_
   have n0 : (bDone (a, ae)).1 = a := (by (unfold bDone; rw [if_pos j0]; rw [if_pos i0]))
   rw [n0]
   refine ⟨aA, ac, ?_, f0.fr, f0.rx 0⟩
   exact ret_t2 rfl (ret_i (by (unfold bDone; simp [j0, i0])))
  refine wctb m0 rfl (by rw [(decide_eq_false i0)]; rfl) fun n0 => ?_
  refine wsc fun m0 d0 => lR n0 fun m0 b0 => ?_
  refine wn d0 <| wp_ret <| x_then_r <| er2 b0 ?_
  have b0 : (bDone (a, ae)).1 = [] := (by (unfold bDone; rw [if_pos j0]; rw [if_neg i0]))
  rw [b0]
  refine ⟨none, 0, ?_, f0.fr, ⟨Nat.le_refl _, RowI.nil _ _ _ _⟩⟩
  exact ret_t2 rfl (ret_i (by (unfold bDone; simp [j0, i0])))
 refine wctb c0 rfl (by rw [(decide_eq_false j0)]; rfl) fun i0 => ?_
 refine wp_seq_k fun c0 f0 => ?_
 obtain ⟨c0, b0, d0⟩ := k0.agree
 refine d_reg3 (n := 4) d0 1 (pB 0 0 pn) (pan_then (pan_then pan_body)) fun b0 c0 k0 m0 n0 h0 => ?_
 refine dR [0, 1, 2, 3] i0 fun h0 m0 => ?_
 refine wpAnyH_done (by kernel_rfl) (k0 _ _ ?_) _
 refine xn f0 <| wp_ret <| x_then_r <| er2 m0 ?_
 have m0 : (bDone (a, ae)).1 = [] := (by (unfold bDone; rw [if_neg j0]))
 rw [m0]
 refine ⟨none, 0, ?_, n0.fr, ⟨Nat.le_refl _, RowI.nil _ _ _ _⟩⟩
 exact ret_t2 rfl (ret_i (by (unfold bDone; simp [j0])))
theorem rtarget_calls (w0 : World) (Z : Nat → Prop) (hZ : ∀ k, Z k → k < w0.heap.size) (tA : Option Addr) (tc : Nat) (t : List Nd) (ht : (dRow 4 tA t.length tc (encNs t)).φ w0 Z) (hsm : sml t := by first | assumption | omega | (simp <;> omega)) (hl : t.length ≤ 1000000 := by first | assumption | omega | (simp <;> omega)) :
    Calls Tryd.prog 13 [.slice tA t.length tc].toArray w0 (fun e w' => e = .returned (.int .i64 (tgA t)) ∧ Fr none_ w0 w') := by
 have b0 := s0 (M := none_) hZ (zc ht zn)
 refine c_enter Tryd.func13 rfl Tryd.ntmps13 rfl fun c0 d0 => ?_
 refine wsc fun c0 f0 => aw d0 f0 fun c0 h0 => ?_
 refine wp_seq_k fun f0 c0 => wsc fun f0 d0 => mv h0 fun f0 i0 => ?_
 have f0 := b0.nf
 refine kcl i0 ok24 (rcheck_calls _ _ f0.il _ _ _ (f0.g 0) (hl := (by omega)) (hsm := hsm)) ?_
 rintro i0 b0 ⟨rfl, h0⟩
 have b0 := f0.below h0.below
 refine ⟨_, rfl, fun h0 f0 => ?_⟩
 refine lR f0 fun h0 i0 => ?_
 refine wn d0 ?_
 rcases Decidable.em (((chk t)) = 0) with d0 | d0
 ·
  have hpt := chk_pos d0
  have hrt := right_at (meas_chk d0) (show t.length - 1 < t.length by omega)
  have hM9 := right_M hrt
  refine wcfb i0 rfl (by rw [(decide_eq_true d0)]; rfl) fun h0 => ?_
  refine wp_skip <| xn c0 <| wsc fun c0 f0 => mv h0 fun c0 j0 => ?_
  have c0 := b0.nf
  refine kcl j0 ok28 (rroot_calls _ _ c0.il _ _ _ (c0.g 0)) ?_
  rintro j0 h0 ⟨rfl, k0⟩
  have h0 := c0.below k0.below
  refine ⟨_, rfl, fun k0 c0 => ?_⟩
  refine alc c0 h0 fun k0 j0 m0 n0 o0 => ?_
  refine sto 0 n0 o0 fun m0 j0 k0 c0 => ?_
  refine wn f0 <| wp_seq_k fun f0 j0 => wsc fun f0 m0 => lR k0 fun f0 o0 => ?_
  refine wn m0 <| wp_block ?_
  refine wp_seq_k fun m0 f0 => wsc fun m0 k0 => lR o0 fun m0 n0 => ?_
  refine wn k0 ?_
  rcases Decidable.em ((((nth t (t.length - 1)).K)) = 5) with k0 | k0
  ·
   refine wct n0 (decide_eq_true k0) fun m0 => ?_
   refine wp_skip <| xn f0 <| wp_cond_true (m0.ev rfl) ?_
   refine wsc fun o0 h0 => aw m0 h0 fun o0 p0 => ?_
   refine wp_ret <| x_block_r <| x_then_r <| er1 p0 ?_
   refine ⟨?_, c0.fr⟩
   exact cr (ret_i (by (unfold tgA tgK; first | (rw [if_neg (by assumption)]; done) | (rw [if_pos (by assumption)]; (repeat' split) <;> omega))))
  refine wcf n0 (decide_eq_false k0) fun p0 => ?_
  refine wsc fun k0 n0 => lR p0 fun k0 h0 => ?_
  refine wn n0 ?_
  rcases Decidable.em ((((nth t (t.length - 1)).K)) = 8) with n0 | n0
  ·
   refine wct h0 (decide_eq_true n0) fun k0 => ?_
   refine wp_skip <| xn f0 <| wp_cond_true (k0.ev rfl) ?_
   refine wsc fun p0 o0 => aw k0 o0 fun p0 m0 => ?_
   refine wp_ret <| x_block_r <| x_then_r <| er1 m0 ?_
   refine ⟨?_, c0.fr⟩
   exact cr (ret_i (by (unfold tgA tgK; first | (rw [if_neg (by assumption)]; done) | (rw [if_pos (by assumption)]; (repeat' split) <;> omega))))
  refine wcf h0 (decide_eq_false n0) fun m0 => ?_
  refine c_region ?_
  refine lR m0 fun n0 h0 => ?_
  refine wn f0 ?_
  rcases Decidable.em ((((nth t (t.length - 1)).K)) = 9) with f0 | f0
  ·
   refine wct h0 (decide_eq_true f0) fun n0 => ?_
   refine wsc fun m0 o0 => aw n0 o0 fun m0 p0 => ?_
   refine wp_ret <| x_block_r <| x_then_r <| er1 p0 ?_
   refine ⟨?_, c0.fr⟩
   exact cr (ret_i (by (unfold tgA tgK; first | (rw [if_neg (by assumption)]; done) | (rw [if_pos (by assumption)]; (repeat' split) <;> omega))))
  refine wcf h0 (decide_eq_false f0) fun p0 => ?_
  refine wp_seq_k fun f0 h0 => wsc fun f0 o0 => lR p0 fun f0 m0 => ?_
  refine wn o0 ?_
  rcases Decidable.em ((((nth t (t.length - 1)).K)) = 13) with o0 | o0
  ·
   refine wct m0 (decide_eq_true o0) fun f0 => ?_
   refine wp_skip <| xn h0 <| wp_cond_true (f0.ev rfl) ?_
   refine wsc fun p0 n0 => aw f0 n0 fun p0 k0 => ?_
   refine wp_ret <| x_block_r <| x_then_r <| er1 k0 ?_
   refine ⟨?_, c0.fr⟩
   exact cr (ret_i (by (unfold tgA tgK; first | (rw [if_neg (by assumption)]; done) | (rw [if_pos (by assumption)]; (repeat' split) <;> omega))))
  refine wcf m0 (decide_eq_false o0) fun k0 => ?_
  refine c_region ?_
  refine lR k0 fun o0 m0 => ?_
  refine wn h0 ?_
  rcases Decidable.em ((((nth t (t.length - 1)).K)) = 24) with h0 | h0
  ·
   refine wct m0 (decide_eq_true h0) fun o0 => ?_
   refine wsc fun k0 n0 => aw o0 n0 fun k0 p0 => ?_
   refine wp_ret <| x_block_r <| x_then_r <| er1 p0 ?_
   refine ⟨?_, c0.fr⟩
   exact cr (ret_i (by (unfold tgA tgK; first | (rw [if_neg (by assumption)]; done) | (rw [if_pos (by assumption)]; (repeat' split) <;> omega))))
  refine wcf m0 (decide_eq_false h0) fun p0 => ?_
  refine wsc fun h0 m0 => lR p0 fun h0 n0 => ?_
  refine wn m0 ?_
  rcases Decidable.em ((((nth t (t.length - 1)).K)) = 27) with m0 | m0
  ·
   refine wct n0 (decide_eq_true m0) fun h0 => ?_
   refine wsc fun p0 k0 => lR h0 fun p0 o0 => ?_
   refine adi (((nth t (t.length - 1)).M) + 1) o0 fun p0 h0 => ?_
   refine aw h0 k0 fun p0 o0 => ?_
   refine wp_ret <| x_block_r <| x_then_r <| er1 o0 ?_
   refine ⟨?_, c0.fr⟩
   exact cr (ret_i (by (unfold tgA tgK; first | (rw [if_neg (by assumption)]; done) | (rw [if_pos (by assumption)]; (repeat' split) <;> omega))))
  refine wcf n0 (decide_eq_false m0) fun o0 => ?_
  refine wp_skip <| x_block_n <| xn j0 <| wsc fun j0 m0 => aw o0 m0 fun j0 n0 => ?_
  refine wp_ret <| er1 n0 ?_
  refine ⟨?_, c0.fr⟩
  exact cr (ret_i (by (unfold tgA tgK; first | (rw [if_neg (by assumption)]; done) | (rw [if_pos (by assumption)]; (repeat' split) <;> omega))))
 refine wctb i0 rfl (by rw [(decide_eq_false d0)]; rfl) fun c0 => ?_
 refine wsc fun d0 i0 => aw c0 i0 fun d0 n0 => ?_
 refine wp_ret <| x_then_r <| er1 n0 ?_
 refine ⟨?_, b0.fr⟩
 exact cr (ret_i (by (unfold tgA tgK; first | (rw [if_neg (by assumption)]; done) | (rw [if_pos (by assumption)]; (repeat' split) <;> omega))))
theorem rdata_calls (w0 : World) (Z : Nat → Prop) (hZ : ∀ k, Z k → k < w0.heap.size) (z : ByteArray) (tA : Option Addr) (tc : Nat) (t : List Nd) (ht : (dRow 4 tA t.length tc (encNs t)).φ w0 Z) (hl : t.length ≤ 1000000 := by first | assumption | omega | (simp <;> omega)) :
    Calls Tryd.prog 30 [.string z, .slice tA t.length tc].toArray w0 (fun e w' => e = .returned (.bool (decide (t = ownL z))) ∧ Fr none_ w0 w') := by
 have b0 := s0 (M := none_) hZ (zc ht zn)
 refine c_enter Tryd.func30 rfl Tryd.ntmps30 rfl fun c0 d0 => ?_
 refine wsc fun c0 f0 => aw d0 f0 fun c0 h0 => ?_
 refine wsc fun f0 c0 => lR h0 fun f0 d0 => ?_
 rcases Decidable.em (((t.length : Nat) : Int) = 1) with f0 | f0
 ·
  have h0 := d0.setb (d := 8) (b := true) rfl (decide_eq_true f0)
  refine lR h0 fun i0 j0 => ?_
  refine ix 0 (0 * 4) j0 (nds_elem (t := t) (k := 0) (b0.row (i := 0) rfl).2 (by omega)).some_ fun i0 h0 => ?_
  refine m_loadEN (st_listV_w (wt h0)) h0 rfl rfl rfl (nds_elem (t := t) (k := 0) (b0.row (i := 0) rfl).2 (by omega)) Tryd.underlying39 rfl sz39 (by decide) fun i0 j0 => ?_
  refine lR j0 fun i0 h0 => ?_
  refine bld h0 fun i0 j0 => ?_
  refine r_eqlN (m := (nth t 0)) (n := (⟨25, 0, 0, z⟩ : Nd)) (st_listV_w (wt j0)) j0 rfl rfl rfl rfl (by decide) fun i0 h0 => ?_
  refine lR h0 fun i0 j0 => ?_
  refine wn c0 <| wp_ret <| er1 j0 ?_
  refine ⟨?_, b0.fr⟩
  exact cr (ret_b (by first | exact own_no (by omega) | exact own_is (by omega)))
 have j0 := d0.setb (d := 8) (b := false) rfl (decide_eq_false f0)
 refine lR j0 fun f0 d0 => ?_
 refine wn c0 <| wp_ret <| er1 d0 ?_
 refine ⟨?_, b0.fr⟩
 exact cr (ret_b (by first | exact own_no (by omega) | exact own_is (by omega)))
theorem rkind_calls (w0 : World) (Z : Nat → Prop) (hZ : ∀ k, Z k → k < w0.heap.size) (z : ByteArray) (tA : Option Addr) (tc : Nat) (t : List Nd) (ht : (dRow 4 tA t.length tc (encNs t)).φ w0 Z) (hsm : sml t := by first | assumption | omega | (simp <;> omega)) (hl : t.length ≤ 1000000 := by first | assumption | omega | (simp <;> omega)) :
    Calls Tryd.prog 15 [.string z, .slice tA t.length tc].toArray w0 (fun e w' => e = .returned (.int .i64 (kdA z t)) ∧ Fr none_ w0 w') := by
 have b0 := s0 (M := none_) hZ (zc ht zn)
 refine c_enter Tryd.func15 rfl Tryd.ntmps15 rfl fun c0 d0 => ?_
 refine wsc fun c0 f0 => aw d0 f0 fun c0 h0 => ?_
 refine wp_seq_k fun f0 c0 => wsc fun f0 d0 => mv h0 fun f0 i0 => ?_
 have f0 := b0.nf
 refine kcl i0 ok24 (rcheck_calls _ _ f0.il _ _ _ (f0.g 0) (hl := (by omega)) (hsm := hsm)) ?_
 rintro i0 b0 ⟨rfl, h0⟩
 have b0 := f0.below h0.below
 refine ⟨_, rfl, fun h0 f0 => ?_⟩
 refine lR f0 fun h0 i0 => ?_
 refine wn d0 ?_
 rcases Decidable.em (((chk t)) = 0) with d0 | d0
 ·
  have hct := d0
  have hpt := chk_pos hct
  refine wcfb i0 rfl (by rw [(decide_eq_true d0)]; rfl) fun h0 => ?_
  refine wp_skip <| xn c0 <| wp_seq_k fun c0 f0 => wsc fun c0 j0 => lR h0 fun c0 k0 => ?_
  have c0 := b0.nf
  refine kcl k0 ok30 (rdata_calls _ _ c0.il z _ _ _ (c0.g 0) (hl := (by omega))) ?_
  rintro k0 h0 ⟨rfl, m0⟩
  have h0 := c0.below m0.below
  refine ⟨_, rfl, fun m0 c0 => ?_⟩
  refine wn j0 ?_
  rcases Bool.eq_false_or_eq_true (decide (t = ownL z)) with j0 | j0
  ·
   have m0 := of_decide_eq_true j0
   refine wct c0 j0 fun k0 => ?_
   refine wsc fun n0 o0 => aw k0 o0 fun n0 p0 => ?_
   refine wp_ret <| x_then_r <| er1 p0 ?_
   refine ⟨?_, h0.fr⟩
   exact cr (ret_i (by (unfold kdA; first | (rw [if_pos (by assumption)]; done) | (rw [if_neg (by omega)]; simp only [d0, j0, m0, if_true, if_false, true_and, false_and, and_true, and_false]; done) | (rw [if_neg (by omega), if_neg (by assumption)]; first | (rw [if_pos ⟨by assumption, by rw [← hLg, ← lsts_nth]; assumption⟩]; done) | (rw [if_neg (fun q => (by assumption : ¬ _) (by rw [lsts_nth, hLg]; exact q.2))]; done) | (rw [if_neg (fun q => absurd q.1 (by assumption))])))))
  have m0 := of_decide_eq_false j0
  refine wcf c0 j0 fun p0 => ?_
  refine wp_skip <| xn f0 <| wp_seq_k fun f0 c0 => wsc fun f0 o0 => mv p0 fun f0 n0 => ?_
  have f0 := h0.nf
  refine kcl n0 ok28 (rroot_calls _ _ f0.il _ _ _ (f0.g 0)) ?_
  rintro n0 h0 ⟨rfl, p0⟩
  have h0 := f0.below p0.below
  refine ⟨_, rfl, fun p0 f0 => ?_⟩
  refine m_fieldV (v := .int .i64 (((nth t (t.length - 1)).K))) sv f0 rfl rfl rfl (fun _ => by kernel_rfl) (by decide) fun p0 n0 => ?_
  refine lR n0 fun p0 f0 => ?_
  rcases Decidable.em ((((nth t (t.length - 1)).K)) = 3) with p0 | p0
  ·
   have hm2 := many_3 p0
   have n0 := f0.setb (d := 15) (b := true) rfl (decide_eq_true p0)
   refine lR n0 fun k0 q0 => ?_
   have k0 := h0.nf
   refine kcl q0 ok31 (rparts_calls _ _ k0.il _ _ _ (k0.g 0) (hl := hl) (hsm := hsm) (hb := (meas_chk hct))) ?_
   rintro q0 n0 ⟨t0, u0, v0, rfl, x0, y0, z0, b1⟩
   have u0 := k0.below x0.below
   have x0 := k0.dN u0 y0
   have u0 := k0.dN x0 z0
   refine ⟨_, rfl, fun x0 z0 => ?_⟩
   have hLg := b1.trans (agA_ok hct).symm
   have hgl := (ag_len hct hLg).1
   obtain ⟨hg1, hg2, hg3⟩ := ag_nth (k := 1) hct hLg hsm (by omega)
   refine ix 1 (1 * 1) z0 (ss_elem (t := v0) (k := 1) (u0.row (i := 1) rfl).2 (by omega)).some_ fun b1 x0 => ?_
   refine lde 0 (1 * 1) x0 (ss_elem (t := v0) (k := 1) (u0.row (i := 1) rfl).2 (by omega)) fun b1 z0 => ?_
   have b1 := u0.el 2 1
   have u0 := b1.nf
   refine kcl z0 ok30 (rdata_calls _ _ u0.il z _ _ ((nthS v0 1).2.2) (u0.g 3) (hl := (by omega))) ?_
   rintro z0 b1 ⟨rfl, x0⟩
   have b1 := u0.below x0.below
   refine ⟨_, rfl, fun x0 u0 => ?_⟩
   refine lR u0 fun x0 z0 => ?_
   refine wn o0 ?_
   rcases Bool.eq_false_or_eq_true (decide (((nthS v0 1).2.2) = ownL z)) with x0 | x0
   ·
    have v0 := of_decide_eq_true x0
    refine wct z0 x0 fun u0 => ?_
    refine wsc fun k0 y0 => aw u0 y0 fun k0 t0 => ?_
    refine wp_ret <| x_then_r <| er1 t0 ?_
    refine ⟨?_, b1.fr⟩
    exact cr (ret_i (by (unfold kdA; first | (rw [if_pos (by assumption)]; done) | (rw [if_neg (by omega)]; simp only [d0, j0, m0, p0, x0, v0, if_true, if_false, true_and, false_and, and_true, and_false]; done) | (rw [if_neg (by omega), if_neg (by assumption)]; first | (rw [if_pos ⟨by assumption, by rw [← hLg, ← lsts_nth]; assumption⟩]; done) | (rw [if_neg (fun q => (by assumption : ¬ _) (by rw [lsts_nth, hLg]; exact q.2))]; done) | (rw [if_neg (fun q => absurd q.1 (by assumption))])))))
   have v0 := of_decide_eq_false x0
   refine wcf z0 x0 fun t0 => ?_
   refine wp_skip <| xn c0 <| wsc fun z0 y0 => aw t0 y0 fun z0 k0 => ?_
   refine wp_ret <| er1 k0 ?_
   refine ⟨?_, b1.fr⟩
   exact cr (ret_i (by (unfold kdA; first | (rw [if_pos (by assumption)]; done) | (rw [if_neg (by omega)]; simp only [d0, j0, m0, p0, x0, v0, if_true, if_false, true_and, false_and, and_true, and_false]; done) | (rw [if_neg (by omega), if_neg (by assumption)]; first | (rw [if_pos ⟨by assumption, by rw [← hLg, ← lsts_nth]; assumption⟩]; done) | (rw [if_neg (fun q => (by assumption : ¬ _) (by rw [lsts_nth, hLg]; exact q.2))]; done) | (rw [if_neg (fun q => absurd q.1 (by assumption))])))))
  have v0 := f0.setb (d := 15) (b := false) rfl (decide_eq_false p0)
  refine lR v0 fun f0 x0 => ?_
  refine wn o0 <| wp_cond_false (x0.ev rfl) ?_
  refine wp_skip <| xn c0 <| wsc fun c0 o0 => aw x0 o0 fun c0 f0 => ?_
  refine wp_ret <| er1 f0 ?_
  refine ⟨?_, h0.fr⟩
  exact cr (ret_i (by (unfold kdA; first | (rw [if_pos (by assumption)]; done) | (rw [if_neg (by omega)]; simp only [d0, j0, m0, p0, if_true, if_false, true_and, false_and, and_true, and_false]; done) | (rw [if_neg (by omega), if_neg (by assumption)]; first | (rw [if_pos ⟨by assumption, by rw [← hLg, ← lsts_nth]; assumption⟩]; done) | (rw [if_neg (fun q => (by assumption : ¬ _) (by rw [lsts_nth, hLg]; exact q.2))]; done) | (rw [if_neg (fun q => absurd q.1 (by assumption))])))))
 refine wctb i0 rfl (by rw [(decide_eq_false d0)]; rfl) fun p0 => ?_
 refine wsc fun i0 m0 => aw p0 m0 fun i0 j0 => ?_
 refine wp_ret <| x_then_r <| er1 j0 ?_
 refine ⟨?_, b0.fr⟩
 exact cr (ret_i (by (unfold kdA; first | (rw [if_pos (by assumption)]; done) | (rw [if_neg (by omega)]; simp only [d0, if_true, if_false, true_and, false_and, and_true, and_false]; done) | (rw [if_neg (by omega), if_neg (by assumption)]; first | (rw [if_pos ⟨by assumption, by rw [← hLg, ← lsts_nth]; assumption⟩]; done) | (rw [if_neg (fun q => (by assumption : ¬ _) (by rw [lsts_nth, hLg]; exact q.2))]; done) | (rw [if_neg (fun q => absurd q.1 (by assumption))])))))
theorem bparts_calls (w0 : World) (Z : Nat → Prop) (hZ : ∀ k, Z k → k < w0.heap.size) (tA : Option Addr) (tc : Nat) (t : List Nd) (ht : (dRow 4 tA t.length tc (encNs t)).φ w0 Z) (hl : t.length ≤ 1000000 := by first | assumption | omega | (simp <;> omega)) (hsm : sml t := by first | assumption | omega | (simp <;> omega)) (hb : measB t = true := by first | assumption | omega | (simp <;> omega)) :
    Calls Tryd.prog 46 [.slice tA t.length tc].toArray w0 (fun e w' => ∃ (rA0 : Option Addr) (rc0 : Nat) (rL0 : List Bu), e = .returned (.slice rA0 rL0.length rc0) ∧ Fr none_ w0 w' ∧ (dRow 2 rA0 rL0.length rc0 (encUs rL0)).φ w' (nxt Z w0 w') ∧ (dAllU rL0).φ w' (nxt Z w0 w') ∧ blts rL0 = (ptL t).map (fun x => (x, (0 : Int)))) := by
 have b0 := s0 (M := none_) hZ (zc ht zn)
 refine c_enter Tryd.func46 rfl Tryd.ntmps46 rfl fun c0 d0 => ?_
 refine wsc fun c0 f0 => aw d0 f0 fun c0 h0 => ?_
 refine wsc fun f0 c0 => mv h0 fun f0 d0 => ?_
 have f0 := b0.nf
 refine kcl d0 ok31 (rparts_calls _ _ f0.il _ _ _ (f0.g 0) (hl := hl) (hsm := hsm) (hb := hb)) ?_
 rintro d0 b0 ⟨h0, i0, j0, rfl, k0, m0, n0, o0⟩
 have b0 := f0.below k0.below
 have k0 := f0.dN b0 m0
 have b0 := f0.dN k0 n0
 refine ⟨_, rfl, fun k0 n0 => ?_⟩
 have hp8 : j0.length ≤ 8 := by rw [← lsts_len, o0, ptL_length hb]; exact many_le (right_at hb (show t.length - 1 < t.length by have := meas_pos hb; omega))
 refine aw n0 c0 fun k0 f0 => ?_
 refine wsc fun c0 k0 => ?_
 have c0 := b0.data (dAllU []) allU_nil
 refine bsl f0 c0 fun b0 n0 m0 d0 p0 => ?_
 refine aw d0 k0 fun n0 b0 => ?_
 refine wp_seq_k fun k0 n0 => wsc fun k0 d0 => aw b0 d0 fun k0 c0 => ?_
 refine wp_block ?_
 refine wp_loop_ghost (fun gn ga gw => ∃ k : Nat, ∃ Zs : List Bu, ∃ yA : Option Addr, ∃ yc : Nat, (Reg ga 24 [(1000000, .bool false), (2, .slice none 0 0), (3, .slice h0 j0.length i0), (5, .int .i64 ((k : Nat) : Int)), (4, .slice yA ((Zs).length) yc)]) ∧ (St w0 Z none_ gw [.row yA ((Zs).length) yc 57 2 (encUs Zs)] [dRow 4 tA t.length tc (encNs t), dRow 1 h0 j0.length i0 (encSs j0), dAll j0, dAllU Zs]) ∧ (k ≤ j0.length) ∧ (blts Zs = ((ptL t).take k).map (fun x => (x, (0 : Int)))) ∧ (j0.length - k) = gn) _ ⟨0, [], (some ⟨m0, 0, none⟩), 0, (c0.sub (rc4 (rc rfl rnl))), p0, by omega, rfl, rfl⟩ ?_
 rintro c0 p0 m0 ⟨k, Zs, yA, yc, i0, h0, hk, hZs, d0⟩
 have hyl : Zs.length = k := by rw [← blts_len, hZs, List.length_map, List.length_take, ← o0, lsts_len]; omega
 refine wp_seq_k fun d0 m0 => wsc fun d0 p0 => lR i0 fun d0 c0 => ?_
 refine wn p0 ?_
 rcases Decidable.em (((k : Nat) : Int) < ((j0.length : Nat) : Int)) with p0 | p0
 ·
  refine wct c0 (decide_eq_true p0) fun d0 => ?_
  refine wp_skip <| xn m0 <| wp_seq_k fun m0 i0 => wp_block ?_
  refine c_region ?_
  refine lR d0 fun m0 k0 => ?_
  refine ix k (k * 1) k0 (ss_elem (t := j0) (k := k) (h0.row (i := 1) rfl).2 (by omega)).some_ fun m0 d0 => ?_
  refine lde 0 (k * 1) d0 (ss_elem (t := j0) (k := k) (h0.row (i := 1) rfl).2 (by omega)) fun m0 k0 => ?_
  have m0 := h0.el 2 k
  refine bld k0 fun d0 b0 => ?_
  have d0 := m0.data (dAllU [(((((nthS j0 k).1, (nthS j0 k).2.1, (nthS j0 k).2.2) : Sl), (0 : Int)) : Bu)]) (allU_cons (m0.get (i := 4) rfl) allU_nil)
  refine bsl b0 d0 fun m0 k0 f0 q0 t0 => ?_
  refine m_appendF (f := encU) (i := 0) (Zs) ([(((((nthS j0 k).1, (nthS j0 k).2.1, (nthS j0 k).2.2) : Sl), (0 : Int)) : Bu)]) sv q0 t0 rfl rfl rfl rfl rfl encU_len (encU_one _) Tryd.underlying76 zi57 rfl rfl (own_lnews (f := encU) (t0.res (i := 1) rfl)) rfl (by (simp only [List.length_cons, List.length_nil]; omega)) (by decide) fun f0 k0 m0 d0 b0 u0 v0 => ?_
  have b0 : (Zs ++ ([(((((nthS j0 k).1, (nthS j0 k).2.1, (nthS j0 k).2.2) : Sl), (0 : Int)) : Bu)]) : List Bu).length = (Zs).length + 1 := by (simp only [List.length_append, List.length_take, List.length_cons, List.length_nil]; done)
  have b0 := v0.erase 1
  have v0 := b0.data (dAllU (Zs ++ ([(((((nthS j0 k).1, (nthS j0 k).2.1, (nthS j0 k).2.2) : Sl), (0 : Int)) : Bu)]))) (allU_append (b0.get (i := 3) rfl) (b0.get (i := 5) rfl))
  refine asg u0 fun b0 k0 => ?_
  refine wpList_nil ?_
  refine x_block_n <| xn i0 <| c_region ?_
  refine mv k0 fun i0 b0 => ?_
  refine adi ((k + 1 : Nat) : Int) b0 fun i0 k0 => ?_
  refine asg k0 fun i0 b0 => ?_
  refine wpList_nil ?_
  have i0 := v0.forget 5
  have v0 := i0.forget 4
  have i0 := v0.forget 3
  exact ⟨_, by omega, k + 1, Zs ++ ([(((((nthS j0 k).1, (nthS j0 k).2.1, (nthS j0 k).2.2) : Sl), (0 : Int)) : Bu)]), m0, d0, (b0.sub (rc4 (rc rfl rnl))), i0, by omega, by rw [blts_app, hZs, ← o0, lsts_snoc (by omega), List.map_append]; rfl, rfl⟩
 refine wcf c0 (decide_eq_false p0) fun i0 => ?_
 refine wp_exit ?_
 refine x_then_e ?_
 refine x_then_e ?_
 refine x_block_eq ?_
 refine xn n0 <| wsc fun n0 p0 => lR i0 fun n0 c0 => ?_
 refine wn p0 <| wp_ret <| er1 c0 ?_
 have c0 := h0.pub 0 (dRow 2 yA ((Zs).length) yc (encUs Zs))
 refine ⟨yA, yc, Zs, ?_, c0.fr, c0.rx 4, ((dAllU _).mono _ _ _ _ (Nat.le_refl _) (c0.get (i := 3) rfl) (fun k hk => ⟨imm_nxt hk, rfl⟩)), (by rw [hZs, List.take_of_length_le (by rw [← o0, lsts_len]; omega)])⟩
 exact cr (ret_s (by rfl))
theorem bhyp_calls (w0 : World) (Z : Nat → Prop) (hZ : ∀ k, Z k → k < w0.heap.size) (n : Nd) (gsA : Option Addr) (gsc : Nat) (gs : List Bu) (tA : Option Addr) (tc : Nat) (t : List Nd) (aA : Option Addr) (ac : Nat) (a : List Nd) (ae : Int) (kd : Int) (hgs : (dRow 2 gsA gs.length gsc (encUs gs)).φ w0 Z) (hgss : (dAllU gs).φ w0 Z) (ht : (dRow 4 tA t.length tc (encNs t)).φ w0 Z) (ha : (dRow 4 aA a.length ac (encNs a)).φ w0 Z) (hpn : 2 ≤ gs.length := by first | assumption | omega | (simp <;> omega)) (hpm : gs.length ≤ 9 := by first | assumption | omega | (simp <;> omega)) (hpq : ∀ x ∈ blts gs, sml x.1 ∧ x.1.length ≤ 4000 := by first | assumption | omega | (simp <;> omega)) (hst : sml t := by first | assumption | omega | (simp <;> omega)) (hlt : t.length ≤ 4000 := by first | assumption | omega | (simp <;> omega)) (hsa : sml a := by first | assumption | omega | (simp <;> omega)) (hla : a.length ≤ 4000 := by first | assumption | omega | (simp <;> omega)) (hkt : ¬ kd = 1 → chk t = 0 ∧ (nth t (t.length - 1)).K = 3 := by first | assumption | omega | (simp <;> omega)) :
    Calls Tryd.prog 64 [.agg #[.int .i64 (n.K), .int .i64 (n.N), .int .i64 (n.M), .string n.S], .slice gsA gs.length gsc, .slice tA t.length tc, .agg #[.slice aA a.length ac, .int .i64 ae], .int .i64 kd].toArray w0 (fun e w' => ∃ (rA0 : Option Addr) (rc0 : Nat) (rL0 : List Nd), e = .returned (.agg #[.slice rA0 rL0.length rc0, .int .i64 ((bHy n (blts gs) t (a, ae) kd).2)]) ∧ Fr none_ w0 w' ∧ (dRow 4 rA0 rL0.length rc0 (encNs rL0)).φ w' (nxt Z w0 w') ∧ rL0 = (bHy n (blts gs) t (a, ae) kd).1) := by
 have b0 := s0 (M := none_) hZ (zc hgs (zc hgss (zc ht (zc ha zn))))
 have hpp := hgs.1
 have hpe : ∀ k, k < gs.length → sml (nthU gs k).1.2.2 ∧ (nthU gs k).1.2.2.length ≤ 4000 := fun k hk => by have := nthD_any (p := blts gs) (Q := fun x => sml x ∧ x.length ≤ 4000) hpq ⟨sml_nil, by simp⟩ k; rw [← blts_nth] at this; exact this
 refine c_enter Tryd.func64 rfl Tryd.ntmps64 rfl fun c0 d0 => ?_
 refine wsc fun c0 f0 => bxx d0 b0 fun c0 i0 j0 k0 m0 => ?_
 refine bxx k0 m0 fun i0 c0 d0 b0 n0 => ?_
 refine alc b0 n0 fun c0 i0 m0 k0 o0 => ?_
 refine wn f0 <| wp_seq_k fun f0 i0 => wsc fun f0 c0 => lR k0 fun f0 n0 => ?_
 refine wn c0 ?_
 rcases Decidable.em ((kd) = 1) with c0 | c0
 ·
  refine wct n0 (decide_eq_true c0) fun f0 => ?_
  refine wsc fun k0 b0 => ?_
  have k0 := o0.data (dAllU []) allU_nil
  refine bsl f0 k0 fun p0 q0 t0 u0 v0 => ?_
  refine aw u0 b0 fun t0 q0 => ?_
  refine wsc fun b0 t0 => lR q0 fun b0 u0 => ?_
  refine sbi (((gs.length : Nat) : Int) - 1) u0 fun b0 q0 => ?_
  refine m_sliceD (f := encU) (lo := none) (hi := some (.tmp 22)) (vlo := none) (vhi := (some (.int .i64 (((gs.length : Nat) : Int) - 1)))) (kd := .i64) (kd' := .i64) sv q0 rfl rfl rfl rfl rfl (0) ((gs.length) - (1)) (.inr ⟨rfl, rfl⟩) (.inl (by congr 2; omega)) ((gs).take ((gs.length) - (1))) (by simp) encU_len (v0.row (i := 0) rfl) Tryd.underlying76 sz57 (by omega) (by decide) fun b0 u0 p0 k0 f0 => ?_
  have b0 : ((gs).take ((gs.length) - (1))).length = (gs.length) - (1) := by (simp only [List.length_drop, List.length_take]; omega)
  have b0 := v0.data (dRow 2 u0 (((gs).take ((gs.length) - (1))).length) p0 (encUs ((gs).take ((gs.length) - (1))))) k0
  have k0 := b0.data (dAllU ((gs).take ((gs.length) - (1)))) (allU_take (b0.get (i := 1) rfl) _)
  refine m_appendF (f := encU) (i := 3) ([]) ((gs).take ((gs.length) - (1))) sv f0 k0 rfl rfl rfl rfl rfl encU_len (encU_one _) Tryd.underlying76 zi57 rfl rfl (k0.row (i := 5) rfl).2.news rfl (by (simp only [List.length_cons, List.length_nil]; omega)) (by decide) fun b0 p0 u0 v0 q0 x0 y0 => ?_
  have q0 : (([]) ++ ((gs).take ((gs.length) - (1))) : List Bu).length = ((gs).take ((gs.length) - (1))).length := by (simp only [List.length_append, List.length_take, List.length_cons, List.length_nil]; omega)
  have q0 := y0.data (dAllU (([]) ++ ((gs).take ((gs.length) - (1))))) (allU_append (y0.get (i := 4) rfl) (y0.get (i := 6) rfl))
  refine aw x0 t0 fun y0 v0 => ?_
  refine wp_seq_k fun t0 y0 => ?_
  obtain ⟨t0, x0, u0⟩ := q0.agree
  refine d_reg3 (n := 7) u0 8 (pB 0 0 (pB 1 0 pn)) (pan_then (pan_then pan_body)) fun x0 t0 q0 p0 b0 k0 => ?_
  refine dt 0 rfl t0 v0 (want_n rfl) (fun x hx => m_loadCN (sy v0) v0 rfl rfl rfl (CellsAt.cons_ (hx.c 0) (CellsAt.cons_ (hx.c 1) (CellsAt.cons_ (hx.c 2) (CellsAt.cons_ (hx.c 3) (CellsAt.nil _ _))))) Tryd.underlying39 rfl sz39 (by decide) gt) k0 fun p0 x0 => ?_
  refine dR [1] x0 fun p0 v0 => ?_
  refine dt 2 rfl t0 v0 (want_n rfl) (fun x hx => m_loadCN (sy v0) v0 rfl rfl rfl (CellsAt.cons_ (hx.c 4) (CellsAt.cons_ (hx.c 5) (CellsAt.nil _ _))) Tryd.underlying57 rfl sz57 (by decide) gt) k0 fun p0 x0 => ?_
  refine d1 3 ?_
  have p0 := b0.data (dAllU [((((aA, ac, a) : Sl), ((ae) : Int)) : Bu)]) (allU_cons (b0.get (i := 3) rfl) allU_nil)
  refine bsl x0 p0 fun b0 v0 k0 t0 u0 => ?_
  have k0 := sWI u0 8 (pB 0 0 (pB 1 0 pn))
  refine ⟨k0, ?_⟩
  refine d1 4 ?_
  refine m_appendF (f := encU) (i := 3) (([]) ++ ((gs).take ((gs.length) - (1)))) ([((((aA, ac, a) : Sl), ((ae) : Int)) : Bu)]) (st_opV rfl (want_n rfl)) t0 u0 rfl rfl rfl rfl rfl encU_len (encU_one _) Tryd.underlying76 zi57 rfl rfl (own_lnews (f := encU) (u0.res (i := 4) rfl)) rfl (by (simp only [List.length_cons, List.length_nil]; omega)) (by decide) fun k0 v0 b0 p0 x0 f0 z0 => ?_
  have x0 : ((([]) ++ ((gs).take ((gs.length) - (1)))) ++ ([((((aA, ac, a) : Sl), ((ae) : Int)) : Bu)]) : List Bu).length = (([]) ++ ((gs).take ((gs.length) - (1))) : List Bu).length + 1 := by (simp only [List.length_append, List.length_take, List.length_cons, List.length_nil]; done)
  have x0 := z0.erase 4
  have z0 := x0.data (dAllU ((([]) ++ ((gs).take ((gs.length) - (1)))) ++ ([((((aA, ac, a) : Sl), ((ae) : Int)) : Bu)]))) (allU_append (x0.get (i := 7) rfl) (x0.get (i := 9) rfl))
  have x0 := sWI z0 8 (pB 0 0 (pB 1 0 pn))
  refine ⟨x0, ?_⟩
  refine d1 5 ?_
  have x0 := z0.nf
  have z0 := x0.pub 3 (dRow 2 b0 (((([]) ++ ((gs).take ((gs.length) - (1)))) ++ ([((((aA, ac, a) : Sl), ((ae) : Int)) : Bu)]) : List Bu).length) p0 (encUs ((([]) ++ ((gs).take ((gs.length) - (1)))) ++ ([((((aA, ac, a) : Sl), ((ae) : Int)) : Bu)]))))
  refine kcl f0 ok48 (bof_calls _ _ z0.il n _ _ ((([]) ++ ((gs).take ((gs.length) - (1)))) ++ ([((((aA, ac, a) : Sl), ((ae) : Int)) : Bu)])) (z0.g 11) (z0.g 10) (hln := (by (rw [List.length_append]; simp; omega))) (hbn := (bl_up (by exact bh_b1 hpq (by omega))))) ?_
  rintro f0 x0 ⟨p0, b0, v0, rfl, k0, u0, t0⟩
  have x0 := z0.below k0.below
  have k0 := z0.dN x0 u0
  refine ⟨_, rfl, fun x0 u0 => ?_⟩
  have x0 := sWI k0 8 (pB 0 0 (pB 1 0 pn))
  refine ⟨x0, ?_⟩
  refine d1 6 ?_
  refine sto 2 u0 k0 fun x0 z0 f0 b1 => ?_
  have z0 := sWI b1 8 (pB 0 0 (pB 1 0 pn))
  refine ⟨z0, ?_⟩
  refine wpAnyH_done (by kernel_rfl) (q0 _ _ ?_) _
  refine xn y0 <| wp_ret <| x_then_r <| e_cell (i := 2) (vs := [.slice p0 v0.length b0, .int .i64 (((bOf n (blts ((([]) ++ ((gs).take ((gs.length) - (1)))) ++ ([((((aA, ac, a) : Sl), ((ae) : Int)) : Bu)])))).2))]) (.inl rfl) f0 b1 rfl rfl rfl rfl Tryd.underlying57 rfl sz57 ?_
  refine ⟨p0, b0, v0, ?_, b1.fr, b1.rx 12, (by unfold bHy; rw [if_pos c0]; simp only [blts_app, blts_take, blts_cons, blts_nil, blts_len, List.nil_append, t0]; try rfl)⟩
  exact cr (ret_u (by rfl) (by (unfold bHy; rw [if_pos c0]; simp only [blts_app, blts_take, blts_cons, blts_nil, blts_len, List.nil_append, t0]; try rfl)))
 obtain ⟨hct, t0⟩ := hkt c0
 have hpt := chk_pos hct
 have hm2 := many_3 t0
 obtain ⟨b1, v0⟩ := cr_mark hct (.inl t0)
 refine wcf n0 (decide_eq_false c0) fun v0 => ?_
 refine wp_skip <| xn i0 <| wsc fun i0 n0 => ?_
 have i0 := o0.nf
 refine kcl v0 ok74 (bvar_calls _ _ i0.il 0) ?_
 rintro v0 o0 ⟨t0, b0, p0, rfl, f0, y0, q0⟩
 have o0 := i0.below f0.below
 have f0 := i0.dN o0 y0
 refine ⟨_, rfl, fun o0 y0 => ?_⟩
 have hzx : p0.length ≤ 1 := by rw [q0]; simp
 refine alc y0 f0 fun o0 i0 v0 z0 x0 => ?_
 refine sto 3 z0 x0 fun i0 o0 y0 f0 => ?_
 refine wn n0 <| wp_seq_k fun n0 o0 => wsc fun n0 i0 => mv y0 fun n0 x0 => ?_
 have n0 := f0.nf
 refine kcl x0 ok28 (rroot_calls _ _ n0.il _ _ _ (n0.g 2) (hl := (by omega)) (h0 := hpt)) ?_
 rintro x0 f0 ⟨rfl, y0⟩
 have f0 := n0.below y0.below
 refine ⟨_, rfl, fun y0 n0 => ?_⟩
 refine m_fieldV (v := .int .i64 (((nth t (t.length - 1)).N))) sv n0 rfl rfl rfl (fun _ => by kernel_rfl) (by decide) fun y0 x0 => ?_
 refine r_int (v := .int .i64 ((((((nth t (t.length - 1)).N))).tdiv 2))) sv x0 rfl rfl rfl rfl (by decide) (run_quo2 b1 (by omega)) fun y0 n0 => ?_
 refine lR n0 fun y0 x0 => ?_
 refine wn i0 ?_
 rcases Decidable.em (((((((nth t (t.length - 1)).N))).tdiv 2)) = 1) with i0 | i0
 ·
  refine wct x0 (decide_eq_true i0) fun y0 => ?_
  refine c_region ?_
  have n0 := f0.nf
  refine kcl y0 ok75 (btick_calls _ _ n0.il ) ?_
  rintro y0 b1 ⟨z0, u0, k0, rfl, c1, f1, h1⟩
  have b1 := n0.below c1.below
  have c1 := n0.dN b1 f1
  refine ⟨_, rfl, fun b1 f1 => ?_⟩
  have hzx : k0.length ≤ 1 := by rw [h1]; simp
  refine sto 3 f1 c1 fun b1 n0 y0 i1 => ?_
  refine wn o0 <| wsc fun n0 b1 => mv y0 fun n0 f1 => ?_
  refine ix 0 (0 * 2) f1 (us_elem (t := gs) (k := 0) (i1.row (i := 0) rfl).2 (by omega)).some_ fun n0 y0 => ?_
  refine m_loadEN sv y0 rfl rfl rfl (us_elem (t := gs) (k := 0) (i1.row (i := 0) rfl).2 (by omega)) Tryd.underlying57 rfl sz57 (by decide) fun n0 f1 => ?_
  have n0 := i1.elU 1 0
  have i1 := n0.nf
  refine kcl f1 ok76 (bup_calls _ _ i1.il _ _ ((nthU gs 0).1.2.2) (((nthU gs 0).2)) 1 1 (i1.g 6) (hla := (by exact Nat.le_trans (hpe _ (by omega)).2 (by decide))) (hsa := (by exact (hpe _ (by omega)).1))) ?_
  rintro f1 n0 ⟨y0, c1, j1, rfl, k1, m1, n1⟩
  have n0 := i1.below k1.below
  have k1 := i1.dN n0 m1
  refine ⟨_, rfl, fun n0 m1 => ?_⟩
  have n0 := k1.data (dAllU [((((y0, c1, j1) : Sl), ((((bUp (((nthU gs 0).1.2.2), (((nthU gs 0).2))) 1 1).2)) : Int)) : Bu)]) (allU_cons (k1.get (i := 7) rfl) allU_nil)
  refine bsl m1 n0 fun k1 i1 f1 o1 p1 => ?_
  refine aw o1 b1 fun i1 k1 => ?_
  refine wp_seq_k fun b1 i1 => wsc fun b1 o1 => aw k1 o1 fun b1 n0 => ?_
  refine wp_block ?_
  refine wp_loop_ghost (fun gn ga gw => ∃ k : Nat, ∃ Zs : List Bu, ∃ yA : Option Addr, ∃ yc : Nat, (Reg ga 74 [(1000000, .bool false), (1, .slice gsA gs.length gsc), (2, .slice tA t.length tc), (5, .pointer (some ⟨j0, 0, none⟩)), (8, .pointer (some ⟨d0, 0, none⟩)), (10, .pointer (some ⟨m0, 0, none⟩)), (12, .pointer (some ⟨v0, 0, none⟩)), (14, .int .i64 ((k : Nat) : Int)), (13, .slice yA ((Zs).length) yc)]) ∧ (St w0 Z none_ gw [.box j0 39 [.int .i64 (n.K), .int .i64 (n.N), .int .i64 (n.M), .string n.S], .box d0 57 [.slice aA a.length ac, .int .i64 (ae)], .box m0 57 [.slice none 0 0, .int .i64 0], .box v0 57 [.slice z0 k0.length u0, .int .i64 (0)], .row yA ((Zs).length) yc 57 2 (encUs Zs)] [dRow 2 gsA gs.length gsc (encUs gs), dAllU gs, dRow 4 tA t.length tc (encNs t), dRow 4 aA a.length ac (encNs a), dRow 4 t0 p0.length b0 (encNs p0), dRow 4 z0 k0.length u0 (encNs k0), dRow 4 ((nthU gs 0).1.1) ((nthU gs 0).1.2.2.length) ((nthU gs 0).1.2.1) (encNs ((nthU gs 0).1.2.2)), dRow 4 y0 j1.length c1 (encNs j1), dAllU Zs]) ∧ (1 ≤ k) ∧ (k ≤ gs.length - 1) ∧ (blts Zs = upB (blts gs) k) ∧ (gs.length - 1 - k) = gn) _ ⟨1, [((((y0, c1, j1) : Sl), ((((bUp (((nthU gs 0).1.2.2), (((nthU gs 0).2))) 1 1).2)) : Int)) : Bu)], (some ⟨f1, 0, none⟩), 1, (n0.sub (rc4 (rc4 (rc rfl rnl)))), p1, by omega, by omega, by rw [blts_cons, blts_nil]; simp only [upB, List.nil_append, if_true, ← blts_nth, q0, h1, n1], rfl⟩ ?_
  rintro n0 p1 f1 ⟨k, Zs, yA, yc, j1, c1, y0, hk, hZs, u0⟩
  have hyl : Zs.length = k := by rw [← blts_len, hZs, upB_len]
  refine wp_seq_k fun u0 f1 => wsc fun u0 p1 => lR j1 fun u0 n0 => ?_
  refine sbi (((gs.length : Nat) : Int) - 1) n0 fun u0 j1 => ?_
  refine lR j1 fun u0 n0 => ?_
  refine wn p1 ?_
  rcases Decidable.em (((k : Nat) : Int) < (((gs.length : Nat) : Int) - 1)) with p1 | p1
  ·
   refine wct n0 (decide_eq_true p1) fun u0 => ?_
   refine wp_skip <| xn f1 <| wp_seq_k fun f1 j1 => wp_block ?_
   refine c_region ?_
   refine lR u0 fun f1 z0 => ?_
   refine ix k (k * 2) z0 (us_elem (t := gs) (k := k) (c1.row (i := 0) rfl).2 (by omega)).some_ fun f1 u0 => ?_
   refine m_loadEN sv u0 rfl rfl rfl (us_elem (t := gs) (k := k) (c1.row (i := 0) rfl).2 (by omega)) Tryd.underlying57 rfl sz57 (by decide) fun f1 z0 => ?_
   have f1 := c1.elU 1 k
   have u0 := f1.nf
   refine kcl z0 ok76 (bup_calls _ _ u0.il _ _ ((nthU gs k).1.2.2) (((nthU gs k).2)) 1 0 (u0.g 9) (hla := (by exact Nat.le_trans (hpe _ (by omega)).2 (by decide))) (hsa := (by exact (hpe _ (by omega)).1))) ?_
   rintro z0 f1 ⟨o1, b1, k1, rfl, m1, q1, s1⟩
   have f1 := u0.below m1.below
   have m1 := u0.dN f1 q1
   refine ⟨_, rfl, fun f1 q1 => ?_⟩
   have f1 := m1.data (dAllU [((((o1, b1, k1) : Sl), ((((bUp (((nthU gs k).1.2.2), (((nthU gs k).2))) 1 0).2)) : Int)) : Bu)]) (allU_cons (m1.get (i := 10) rfl) allU_nil)
   refine bsl q1 f1 fun m1 u0 z0 t1 u1 => ?_
   refine m_appendF (f := encU) (i := 4) (Zs) ([((((o1, b1, k1) : Sl), ((((bUp (((nthU gs k).1.2.2), (((nthU gs k).2))) 1 0).2)) : Int)) : Bu)]) sv t1 u1 rfl rfl rfl rfl rfl encU_len (encU_one _) Tryd.underlying76 zi57 rfl rfl (own_lnews (f := encU) (u1.res (i := 5) rfl)) rfl (by (simp only [List.length_cons, List.length_nil]; omega)) (by decide) fun z0 u0 m1 f1 q1 v1 x1 => ?_
   have q1 : (Zs ++ ([((((o1, b1, k1) : Sl), ((((bUp (((nthU gs k).1.2.2), (((nthU gs k).2))) 1 0).2)) : Int)) : Bu)]) : List Bu).length = (Zs).length + 1 := by (simp only [List.length_append, List.length_take, List.length_cons, List.length_nil]; done)
   have q1 := x1.erase 5
   have x1 := q1.data (dAllU (Zs ++ ([((((o1, b1, k1) : Sl), ((((bUp (((nthU gs k).1.2.2), (((nthU gs k).2))) 1 0).2)) : Int)) : Bu)]))) (allU_append (q1.get (i := 8) rfl) (q1.get (i := 11) rfl))
   refine asg v1 fun q1 u0 => ?_
   refine wpList_nil ?_
   refine x_block_n <| xn j1 <| c_region ?_
   refine mv u0 fun j1 q1 => ?_
   refine adi ((k + 1 : Nat) : Int) q1 fun j1 u0 => ?_
   refine asg u0 fun j1 q1 => ?_
   refine wpList_nil ?_
   have j1 := x1.forget 11
   have x1 := j1.forget 10
   have j1 := x1.forget 9
   have x1 := j1.forget 8
   exact ⟨_, by omega, k + 1, Zs ++ ([((((o1, b1, k1) : Sl), ((((bUp (((nthU gs k).1.2.2), (((nthU gs k).2))) 1 0).2)) : Int)) : Bu)]), m1, f1, (q1.sub (rc4 (rc4 (rc rfl rnl)))), x1, by omega, by omega, by rw [blts_app, hZs, blts_cons, blts_nil]; simp only [upB, show ¬ k = 0 by omega, if_false, ← blts_nth, q0, h1, n1, s1], rfl⟩
  refine wcf n0 (decide_eq_false p1) fun x1 => ?_
  refine wp_exit ?_
  refine x_then_e ?_
  refine x_then_e ?_
  refine x_block_eq ?_
  refine xn i1 <| wp_seq_k fun i1 p1 => ?_
  obtain ⟨i1, n0, q1⟩ := c1.agree
  refine d_reg3 (n := 8) q1 9 (pB 1 0 (pB 3 0 pn)) (pan_then pan_body) fun n0 i1 c1 f1 m1 s1 => ?_
  refine dR [0] x1 fun f1 n0 => ?_
  refine dt 1 rfl i1 n0 (want_n rfl) (fun x hx => m_loadCN (sy n0) n0 rfl rfl rfl (CellsAt.cons_ (hx.c 0) (CellsAt.cons_ (hx.c 1) (CellsAt.nil _ _))) Tryd.underlying57 rfl sz57 (by decide) gt) s1 fun f1 x1 => ?_
  refine dt 3 rfl i1 x1 (want_n rfl) (fun x hx => m_loadCN (sy x1) x1 rfl rfl rfl (CellsAt.cons_ (hx.c 2) (CellsAt.cons_ (hx.c 3) (CellsAt.nil _ _))) Tryd.underlying57 rfl sz57 (by decide) gt) s1 fun f1 n0 => ?_
  refine d1 2 ?_
  have f1 := m1.nf
  refine kcl n0 ok76 (bup_calls _ _ f1.il _ _ _ (ae) 1 0 (f1.g 3) (hla := (by omega)) (hsa := (by exact hsa))) ?_
  rintro n0 m1 ⟨x1, s1, i1, rfl, q1, k1, b1⟩
  have s1 := f1.below q1.below
  have q1 := f1.dN s1 k1
  refine ⟨_, rfl, fun s1 k1 => ?_⟩
  have hzu : i1.length ≤ 4000 := by rw [b1]; exact (bUp_sz hsa hla).2
  have s1 := sWI q1 9 (pB 1 0 (pB 3 0 pn))
  refine ⟨s1, ?_⟩
  refine d1 4 ?_
  have s1 := q1.nf
  refine kcl k1 ok63 (btwo_calls _ _ s1.il 5 0 _ _ _ (((bUp (a, (ae)) 1 0).2)) _ _ _ (0) (s1.g 10) (s1.g 5) (hla := (by omega)) (hlb := (by omega))) ?_
  rintro k1 q1 ⟨f1, x1, m1, rfl, n0, o1, j1⟩
  have q1 := s1.below n0.below
  have n0 := s1.dN q1 o1
  refine ⟨_, rfl, fun q1 o1 => ?_⟩
  have hzt : m1.length ≤ 9000 := by rw [j1]; refine Nat.le_trans bOf_len ?_; simp; omega
  have q1 := sWI n0 9 (pB 1 0 (pB 3 0 pn))
  refine ⟨q1, ?_⟩
  refine d1 5 ?_
  have q1 := n0.data (dAllU [((((f1, x1, m1) : Sl), ((((bOf ⟨5, 0, 0, ⟨#[]⟩⟩ [(i1, (((bUp (a, (ae)) 1 0).2))), (k0, (0))]).2)) : Int)) : Bu)]) (allU_cons (n0.get (i := 11) rfl) allU_nil)
  refine bsl o1 q1 fun n0 s1 k1 u0 v1 => ?_
  have k1 := sWI v1 9 (pB 1 0 (pB 3 0 pn))
  refine ⟨k1, ?_⟩
  refine d1 6 ?_
  refine m_appendF (f := encU) (i := 4) (Zs) ([((((f1, x1, m1) : Sl), ((((bOf ⟨5, 0, 0, ⟨#[]⟩⟩ [(i1, (((bUp (a, (ae)) 1 0).2))), (k0, (0))]).2)) : Int)) : Bu)]) (st_opV rfl (want_n rfl)) u0 v1 rfl rfl rfl rfl rfl encU_len (encU_one _) Tryd.underlying76 zi57 rfl rfl (own_lnews (f := encU) (v1.res (i := 5) rfl)) rfl (by (simp only [List.length_cons, List.length_nil]; omega)) (by decide) fun k1 s1 n0 q1 o1 z0 u1 => ?_
  have o1 : (Zs ++ ([((((f1, x1, m1) : Sl), ((((bOf ⟨5, 0, 0, ⟨#[]⟩⟩ [(i1, (((bUp (a, (ae)) 1 0).2))), (k0, (0))]).2)) : Int)) : Bu)]) : List Bu).length = (Zs).length + 1 := by (simp only [List.length_append, List.length_take, List.length_cons, List.length_nil]; done)
  have o1 := u1.erase 5
  have u1 := o1.data (dAllU (Zs ++ ([((((f1, x1, m1) : Sl), ((((bOf ⟨5, 0, 0, ⟨#[]⟩⟩ [(i1, (((bUp (a, (ae)) 1 0).2))), (k0, (0))]).2)) : Int)) : Bu)]))) (allU_append (o1.get (i := 8) rfl) (o1.get (i := 12) rfl))
  have o1 := sWI u1 9 (pB 1 0 (pB 3 0 pn))
  refine ⟨o1, ?_⟩
  refine dR [7] z0 fun o1 s1 => ?_
  refine wpAnyH_done (by kernel_rfl) (c1 _ _ ?_) _
  refine xn p1 <| wp_seq_k fun p1 c1 => ?_
  obtain ⟨p1, o1, z0⟩ := u1.agree
  refine d_reg3 (n := 10) z0 14 (pB 0 0 pn) (pan_then pan_body) fun o1 p1 u1 k1 v1 u0 => ?_
  refine dR [0] s1 fun k1 o1 => ?_
  refine dt 5 rfl p1 o1 (want_n rfl) (fun x hx => m_loadCN (sy o1) o1 rfl rfl rfl (CellsAt.cons_ (hx.c 0) (CellsAt.cons_ (hx.c 1) (CellsAt.cons_ (hx.c 2) (CellsAt.cons_ (hx.c 3) (CellsAt.nil _ _))))) Tryd.underlying39 rfl sz39 (by decide) gt) u0 fun k1 s1 => ?_
  refine dR [6] s1 fun k1 o1 => ?_
  refine d1 1 ?_
  have k1 := v1.nf
  refine kcl o1 ok31 (rparts_calls _ _ k1.il _ _ _ (k1.g 2) (hl := (by omega)) (hsm := hst) (hb := (meas_chk hct))) ?_
  rintro o1 v1 ⟨s1, u0, z0, rfl, t1, y1, z1, b2⟩
  have u0 := k1.below t1.below
  have t1 := k1.dN u0 y1
  have u0 := k1.dN t1 z1
  refine ⟨_, rfl, fun t1 z1 => ?_⟩
  have hpl0 : z0.length = 2 := by rw [← lsts_len, b2, ptL_length (meas_chk hct)]; exact hm2
  have hp0b : (nthS z0 0).2.2.length ≤ 4000 := (ag_nth (k := 0) hct (b2.trans (agA_ok hct).symm) hst (by omega)).1
  have t1 := sWI u0 14 (pB 0 0 pn)
  refine ⟨t1, ?_⟩
  obtain ⟨t1, k1, y1⟩ := u0.agree
  refine d_more (k1 14 _ rfl) ?_
  have t1 := sWI y1 17 (pB 0 0 pn)
  refine dix 2 0 (0 * 1) z1 (fun x hx => (ss_elem (t := z0) (k := 0) (sdat (k1 15 _ rfl) hx.ag).2 (by omega)).some_) fun u0 s1 => ?_
  refine dle 3 0 (0 * 1) s1 (fun x hx => ss_elem (t := z0) (k := 0) (sdat (k1 15 _ rfl) hx.ag).2 (by omega)) fun u0 z1 => ?_
  have u0 := y1.el 16 0
  refine dt 4 rfl p1 z1 (want_n rfl) (fun x hx => bldY z1) t1 fun y1 s1 => ?_
  refine d1 7 ?_
  have y1 := u0.nf
  have u0 := y1.pub 4 (dRow 2 n0 ((Zs ++ ([((((f1, x1, m1) : Sl), ((((bOf ⟨5, 0, 0, ⟨#[]⟩⟩ [(i1, (((bUp (a, (ae)) 1 0).2))), (k0, (0))]).2)) : Int)) : Bu)]) : List Bu).length) q1 (encUs (Zs ++ ([((((f1, x1, m1) : Sl), ((((bOf ⟨5, 0, 0, ⟨#[]⟩⟩ [(i1, (((bUp (a, (ae)) 1 0).2))), (k0, (0))]).2)) : Int)) : Bu)]))))
  refine kcl s1 ok48 (bof_calls _ _ u0.il n _ _ (Zs ++ ([((((f1, x1, m1) : Sl), ((((bOf ⟨5, 0, 0, ⟨#[]⟩⟩ [(i1, (((bUp (a, (ae)) 1 0).2))), (k0, (0))]).2)) : Int)) : Bu)])) (u0.g 19) (u0.g 13) (hln := (by (rw [List.length_append]; simp; omega))) (hbn := (bl_up (by exact bh_b2 hpq hZs hzt)))) ?_
  rintro s1 y1 ⟨q1, n0, z1, rfl, t1, p1, k1⟩
  have n0 := u0.below t1.below
  have t1 := u0.dN n0 p1
  refine ⟨_, rfl, fun n0 p1 => ?_⟩
  have hzo : z1.length ≤ 100000 := by rw [k1]; exact bOf_bd (bh_b2 hpq hZs hzt) (by rw [List.length_append]; simp; omega)
  have n0 := sWI t1 17 (pB 0 0 pn)
  refine ⟨n0, ?_⟩
  refine d1 8 ?_
  have n0 := t1.nf
  refine kcl p1 ok63 (btwo_calls _ _ n0.il 4 0 _ _ ((nthS z0 0).2.2) 0 _ _ _ (((bOf n (blts (Zs ++ ([((((f1, x1, m1) : Sl), ((((bOf ⟨5, 0, 0, ⟨#[]⟩⟩ [(i1, (((bUp (a, (ae)) 1 0).2))), (k0, (0))]).2)) : Int)) : Bu)])))).2)) (n0.g 18) (n0.g 20) (hla := (by omega)) (hlb := (by omega))) ?_
  rintro p1 t1 ⟨u0, q1, y1, rfl, s1, v1, o1⟩
  have t1 := n0.below s1.below
  have s1 := n0.dN t1 v1
  refine ⟨_, rfl, fun t1 v1 => ?_⟩
  have t1 := sWI s1 17 (pB 0 0 pn)
  refine ⟨t1, ?_⟩
  refine d1 9 ?_
  refine sto 2 v1 s1 fun t1 n0 p1 c2 => ?_
  have n0 := sWI c2 17 (pB 0 0 pn)
  refine ⟨n0, ?_⟩
  refine wpAnyH_done (by kernel_rfl) (u1 _ _ ?_) _
  refine xn c1 <| wp_ret <| e_cell (i := 2) (vs := [.slice u0 y1.length q1, .int .i64 (((bOf ⟨4, 0, 0, ⟨#[]⟩⟩ [(((nthS z0 0).2.2), 0), (z1, (((bOf n (blts (Zs ++ ([((((f1, x1, m1) : Sl), ((((bOf ⟨5, 0, 0, ⟨#[]⟩⟩ [(i1, (((bUp (a, (ae)) 1 0).2))), (k0, (0))]).2)) : Int)) : Bu)])))).2)))]).2))]) (.inl rfl) p1 c2 rfl rfl rfl rfl Tryd.underlying57 rfl sz57 ?_
  refine ⟨u0, q1, y1, ?_, c2.fr, c2.rx 21, (by unfold bHy bX; rw [if_neg c0, if_pos i0, blts_len, show gs.length - 1 = k by omega]; simp only [← hZs, blts_app, blts_cons, blts_nil, q0, h1, n1, b1, j1, b2, k1, o1, lsts_nth]; try rfl)⟩
  exact cr (ret_u (by rfl) (by (unfold bHy bX; rw [if_neg c0, if_pos i0, blts_len, show gs.length - 1 = k by omega]; simp only [← hZs, blts_app, blts_cons, blts_nil, q0, h1, n1, b1, j1, b2, k1, o1, lsts_nth]; try rfl)))
 refine wcf x0 (decide_eq_false i0) fun o1 => ?_
 refine wp_skip <| xn o0 <| wsc fun o0 x0 => mv o1 fun o0 k1 => ?_
 refine ix 0 (0 * 2) k1 (us_elem (t := gs) (k := 0) (f0.row (i := 0) rfl).2 (by omega)).some_ fun o0 o1 => ?_
 refine m_loadEN sv o1 rfl rfl rfl (us_elem (t := gs) (k := 0) (f0.row (i := 0) rfl).2 (by omega)) Tryd.underlying57 rfl sz57 (by decide) fun o0 k1 => ?_
 have o0 := f0.elU 1 0
 have f0 := o0.nf
 refine kcl k1 ok76 (bup_calls _ _ f0.il _ _ ((nthU gs 0).1.2.2) (((nthU gs 0).2)) 1 1 (f0.g 5) (hla := (by exact Nat.le_trans (hpe _ (by omega)).2 (by decide))) (hsa := (by exact (hpe _ (by omega)).1))) ?_
 rintro k1 o0 ⟨o1, b2, j1, rfl, b1, n1, h1⟩
 have o0 := f0.below b1.below
 have b1 := f0.dN o0 n1
 refine ⟨_, rfl, fun o0 n1 => ?_⟩
 have o0 := b1.data (dAllU [((((o1, b2, j1) : Sl), ((((bUp (((nthU gs 0).1.2.2), (((nthU gs 0).2))) 1 1).2)) : Int)) : Bu)]) (allU_cons (b1.get (i := 6) rfl) allU_nil)
 refine bsl n1 o0 fun b1 f0 k1 c2 y1 => ?_
 refine aw c2 x0 fun f0 b1 => ?_
 refine wp_seq_k fun x0 f0 => wsc fun x0 c2 => aw b1 c2 fun x0 o0 => ?_
 refine wp_block ?_
 refine wp_loop_ghost (fun gn ga gw => ∃ k : Nat, ∃ Zs : List Bu, ∃ yA : Option Addr, ∃ yc : Nat, (Reg ga 74 [(1000000, .bool false), (1, .slice gsA gs.length gsc), (2, .slice tA t.length tc), (5, .pointer (some ⟨j0, 0, none⟩)), (8, .pointer (some ⟨d0, 0, none⟩)), (10, .pointer (some ⟨m0, 0, none⟩)), (12, .pointer (some ⟨v0, 0, none⟩)), (14, .int .i64 ((k : Nat) : Int)), (13, .slice yA ((Zs).length) yc)]) ∧ (St w0 Z none_ gw [.box j0 39 [.int .i64 (n.K), .int .i64 (n.N), .int .i64 (n.M), .string n.S], .box d0 57 [.slice aA a.length ac, .int .i64 (ae)], .box m0 57 [.slice none 0 0, .int .i64 0], .box v0 57 [.slice t0 p0.length b0, .int .i64 (0)], .row yA ((Zs).length) yc 57 2 (encUs Zs)] [dRow 2 gsA gs.length gsc (encUs gs), dAllU gs, dRow 4 tA t.length tc (encNs t), dRow 4 aA a.length ac (encNs a), dRow 4 t0 p0.length b0 (encNs p0), dRow 4 ((nthU gs 0).1.1) ((nthU gs 0).1.2.2.length) ((nthU gs 0).1.2.1) (encNs ((nthU gs 0).1.2.2)), dRow 4 o1 j1.length b2 (encNs j1), dAllU Zs]) ∧ (1 ≤ k) ∧ (k ≤ gs.length - 1) ∧ (blts Zs = upB (blts gs) k) ∧ (gs.length - 1 - k) = gn) _ ⟨1, [((((o1, b2, j1) : Sl), ((((bUp (((nthU gs 0).1.2.2), (((nthU gs 0).2))) 1 1).2)) : Int)) : Bu)], (some ⟨k1, 0, none⟩), 1, (o0.sub (rc4 (rc4 (rc rfl rnl)))), y1, by omega, by omega, by rw [blts_cons, blts_nil]; simp only [upB, List.nil_append, if_true, ← blts_nth, q0, h1], rfl⟩ ?_
 rintro o0 y1 k1 ⟨k, Zs, yA, yc, j1, b2, y0, hk, hZs, o1⟩
 have hyl : Zs.length = k := by rw [← blts_len, hZs, upB_len]
 refine wp_seq_k fun o1 k1 => wsc fun o1 y1 => lR j1 fun o1 o0 => ?_
 refine sbi (((gs.length : Nat) : Int) - 1) o0 fun o1 j1 => ?_
 refine lR j1 fun o1 o0 => ?_
 refine wn y1 ?_
 rcases Decidable.em (((k : Nat) : Int) < (((gs.length : Nat) : Int) - 1)) with y1 | y1
 ·
  refine wct o0 (decide_eq_true y1) fun o1 => ?_
  refine wp_skip <| xn k1 <| wp_seq_k fun k1 j1 => wp_block ?_
  refine c_region ?_
  refine lR o1 fun k1 y0 => ?_
  refine ix k (k * 2) y0 (us_elem (t := gs) (k := k) (b2.row (i := 0) rfl).2 (by omega)).some_ fun k1 o1 => ?_
  refine m_loadEN sv o1 rfl rfl rfl (us_elem (t := gs) (k := k) (b2.row (i := 0) rfl).2 (by omega)) Tryd.underlying57 rfl sz57 (by decide) fun k1 y0 => ?_
  have k1 := b2.elU 1 k
  have o1 := k1.nf
  refine kcl y0 ok76 (bup_calls _ _ o1.il _ _ ((nthU gs k).1.2.2) (((nthU gs k).2)) 1 0 (o1.g 8) (hla := (by exact Nat.le_trans (hpe _ (by omega)).2 (by decide))) (hsa := (by exact (hpe _ (by omega)).1))) ?_
  rintro y0 k1 ⟨v0, b0, t0, rfl, m0, d0, j0⟩
  have k1 := o1.below m0.below
  have m0 := o1.dN k1 d0
  refine ⟨_, rfl, fun k1 d0 => ?_⟩
  have k1 := m0.data (dAllU [((((v0, b0, t0) : Sl), ((((bUp (((nthU gs k).1.2.2), (((nthU gs k).2))) 1 0).2)) : Int)) : Bu)]) (allU_cons (m0.get (i := 9) rfl) allU_nil)
  refine bsl d0 k1 fun m0 o1 y0 c2 x0 => ?_
  refine m_appendF (f := encU) (i := 4) (Zs) ([((((v0, b0, t0) : Sl), ((((bUp (((nthU gs k).1.2.2), (((nthU gs k).2))) 1 0).2)) : Int)) : Bu)]) sv c2 x0 rfl rfl rfl rfl rfl encU_len (encU_one _) Tryd.underlying76 zi57 rfl rfl (own_lnews (f := encU) (x0.res (i := 5) rfl)) rfl (by (simp only [List.length_cons, List.length_nil]; omega)) (by decide) fun y0 o1 m0 k1 d0 b1 n1 => ?_
  have d0 : (Zs ++ ([((((v0, b0, t0) : Sl), ((((bUp (((nthU gs k).1.2.2), (((nthU gs k).2))) 1 0).2)) : Int)) : Bu)]) : List Bu).length = (Zs).length + 1 := by (simp only [List.length_append, List.length_take, List.length_cons, List.length_nil]; done)
  have d0 := n1.erase 5
  have n1 := d0.data (dAllU (Zs ++ ([((((v0, b0, t0) : Sl), ((((bUp (((nthU gs k).1.2.2), (((nthU gs k).2))) 1 0).2)) : Int)) : Bu)]))) (allU_append (d0.get (i := 7) rfl) (d0.get (i := 10) rfl))
  refine asg b1 fun d0 o1 => ?_
  refine wpList_nil ?_
  refine x_block_n <| xn j1 <| c_region ?_
  refine mv o1 fun j1 d0 => ?_
  refine adi ((k + 1 : Nat) : Int) d0 fun j1 o1 => ?_
  refine asg o1 fun j1 d0 => ?_
  refine wpList_nil ?_
  have j1 := n1.forget 10
  have n1 := j1.forget 9
  have j1 := n1.forget 8
  have n1 := j1.forget 7
  exact ⟨_, by omega, k + 1, Zs ++ ([((((v0, b0, t0) : Sl), ((((bUp (((nthU gs k).1.2.2), (((nthU gs k).2))) 1 0).2)) : Int)) : Bu)]), m0, k1, (d0.sub (rc4 (rc4 (rc rfl rnl)))), n1, by omega, by omega, by rw [blts_app, hZs, blts_cons, blts_nil]; simp only [upB, show ¬ k = 0 by omega, if_false, ← blts_nth, q0, h1, j0], rfl⟩
 refine wcf o0 (decide_eq_false y1) fun n1 => ?_
 refine wp_exit ?_
 refine x_then_e ?_
 refine x_then_e ?_
 refine x_block_eq ?_
 refine xn f0 <| wp_seq_k fun f0 y1 => ?_
 obtain ⟨f0, o0, d0⟩ := b2.agree
 refine d_reg3 (n := 8) d0 8 (pB 1 0 (pB 3 0 pn)) (pan_then pan_body) fun o0 f0 b2 k1 m0 j0 => ?_
 refine dR [0] n1 fun k1 o0 => ?_
 refine dt 1 rfl f0 o0 (want_n rfl) (fun x hx => m_loadCN (sy o0) o0 rfl rfl rfl (CellsAt.cons_ (hx.c 0) (CellsAt.cons_ (hx.c 1) (CellsAt.nil _ _))) Tryd.underlying57 rfl sz57 (by decide) gt) j0 fun k1 n1 => ?_
 refine dt 3 rfl f0 n1 (want_n rfl) (fun x hx => m_loadCN (sy n1) n1 rfl rfl rfl (CellsAt.cons_ (hx.c 2) (CellsAt.cons_ (hx.c 3) (CellsAt.nil _ _))) Tryd.underlying57 rfl sz57 (by decide) gt) j0 fun k1 o0 => ?_
 refine d1 2 ?_
 have k1 := m0.nf
 refine kcl o0 ok76 (bup_calls _ _ k1.il _ _ _ (ae) 1 0 (k1.g 3) (hla := (by omega)) (hsa := (by exact hsa))) ?_
 rintro o0 m0 ⟨n1, j0, f0, rfl, d0, t0, b0⟩
 have j0 := k1.below d0.below
 have d0 := k1.dN j0 t0
 refine ⟨_, rfl, fun j0 t0 => ?_⟩
 have hzu : f0.length ≤ 4000 := by rw [b0]; exact (bUp_sz hsa hla).2
 have j0 := sWI d0 8 (pB 1 0 (pB 3 0 pn))
 refine ⟨j0, ?_⟩
 refine d1 4 ?_
 have j0 := d0.nf
 refine kcl t0 ok63 (btwo_calls _ _ j0.il 5 0 _ _ _ (((bUp (a, (ae)) 1 0).2)) _ _ _ (0) (j0.g 9) (j0.g 4) (hla := (by omega)) (hlb := (by omega))) ?_
 rintro t0 d0 ⟨k1, n1, m0, rfl, o0, v0, j1⟩
 have d0 := j0.below o0.below
 have o0 := j0.dN d0 v0
 refine ⟨_, rfl, fun d0 v0 => ?_⟩
 have hzt : m0.length ≤ 9000 := by rw [j1]; refine Nat.le_trans bOf_len ?_; simp; omega
 have d0 := sWI o0 8 (pB 1 0 (pB 3 0 pn))
 refine ⟨d0, ?_⟩
 refine d1 5 ?_
 have d0 := o0.data (dAllU [((((k1, n1, m0) : Sl), ((((bOf ⟨5, 0, 0, ⟨#[]⟩⟩ [(f0, (((bUp (a, (ae)) 1 0).2))), (p0, (0))]).2)) : Int)) : Bu)]) (allU_cons (o0.get (i := 10) rfl) allU_nil)
 refine bsl v0 d0 fun o0 j0 t0 o1 b1 => ?_
 have t0 := sWI b1 8 (pB 1 0 (pB 3 0 pn))
 refine ⟨t0, ?_⟩
 refine d1 6 ?_
 refine m_appendF (f := encU) (i := 4) (Zs) ([((((k1, n1, m0) : Sl), ((((bOf ⟨5, 0, 0, ⟨#[]⟩⟩ [(f0, (((bUp (a, (ae)) 1 0).2))), (p0, (0))]).2)) : Int)) : Bu)]) (st_opV rfl (want_n rfl)) o1 b1 rfl rfl rfl rfl rfl encU_len (encU_one _) Tryd.underlying76 zi57 rfl rfl (own_lnews (f := encU) (b1.res (i := 5) rfl)) rfl (by (simp only [List.length_cons, List.length_nil]; omega)) (by decide) fun t0 j0 o0 d0 v0 y0 x0 => ?_
 have v0 : (Zs ++ ([((((k1, n1, m0) : Sl), ((((bOf ⟨5, 0, 0, ⟨#[]⟩⟩ [(f0, (((bUp (a, (ae)) 1 0).2))), (p0, (0))]).2)) : Int)) : Bu)]) : List Bu).length = (Zs).length + 1 := by (simp only [List.length_append, List.length_take, List.length_cons, List.length_nil]; done)
 have v0 := x0.erase 5
 have x0 := v0.data (dAllU (Zs ++ ([((((k1, n1, m0) : Sl), ((((bOf ⟨5, 0, 0, ⟨#[]⟩⟩ [(f0, (((bUp (a, (ae)) 1 0).2))), (p0, (0))]).2)) : Int)) : Bu)]))) (allU_append (v0.get (i := 7) rfl) (v0.get (i := 11) rfl))
 have v0 := sWI x0 8 (pB 1 0 (pB 3 0 pn))
 refine ⟨v0, ?_⟩
 refine dR [7] y0 fun v0 j0 => ?_
 refine wpAnyH_done (by kernel_rfl) (b2 _ _ ?_) _
 refine xn y1 <| wp_seq_k fun y1 b2 => ?_
 obtain ⟨y1, v0, y0⟩ := x0.agree
 refine d_reg3 (n := 10) y0 13 (pB 0 0 pn) (pan_then pan_body) fun v0 y1 x0 t0 b1 o1 => ?_
 refine dR [0] j0 fun t0 v0 => ?_
 refine dt 5 rfl y1 v0 (want_n rfl) (fun x hx => m_loadCN (sy v0) v0 rfl rfl rfl (CellsAt.cons_ (hx.c 0) (CellsAt.cons_ (hx.c 1) (CellsAt.cons_ (hx.c 2) (CellsAt.cons_ (hx.c 3) (CellsAt.nil _ _))))) Tryd.underlying39 rfl sz39 (by decide) gt) o1 fun t0 j0 => ?_
 refine dR [6] j0 fun t0 v0 => ?_
 refine d1 1 ?_
 have t0 := b1.nf
 refine kcl v0 ok31 (rparts_calls _ _ t0.il _ _ _ (t0.g 2) (hl := (by omega)) (hsm := hst) (hb := (meas_chk hct))) ?_
 rintro v0 b1 ⟨j0, o1, y0, rfl, c2, q1, u0, p1⟩
 have o1 := t0.below c2.below
 have c2 := t0.dN o1 q1
 have o1 := t0.dN c2 u0
 refine ⟨_, rfl, fun c2 u0 => ?_⟩
 have hpl0 : y0.length = 2 := by rw [← lsts_len, p1, ptL_length (meas_chk hct)]; exact hm2
 have hp0b : (nthS y0 0).2.2.length ≤ 4000 := (ag_nth (k := 0) hct (p1.trans (agA_ok hct).symm) hst (by omega)).1
 have c2 := sWI o1 13 (pB 0 0 pn)
 refine ⟨c2, ?_⟩
 obtain ⟨c2, t0, q1⟩ := o1.agree
 refine d_more (t0 13 _ rfl) ?_
 have c2 := sWI q1 16 (pB 0 0 pn)
 refine dix 2 0 (0 * 1) u0 (fun x hx => (ss_elem (t := y0) (k := 0) (sdat (t0 14 _ rfl) hx.ag).2 (by omega)).some_) fun o1 j0 => ?_
 refine dle 3 0 (0 * 1) j0 (fun x hx => ss_elem (t := y0) (k := 0) (sdat (t0 14 _ rfl) hx.ag).2 (by omega)) fun o1 u0 => ?_
 have o1 := q1.el 15 0
 refine dt 4 rfl y1 u0 (want_n rfl) (fun x hx => bldY u0) c2 fun q1 j0 => ?_
 refine d1 7 ?_
 have q1 := o1.nf
 have o1 := q1.pub 4 (dRow 2 o0 ((Zs ++ ([((((k1, n1, m0) : Sl), ((((bOf ⟨5, 0, 0, ⟨#[]⟩⟩ [(f0, (((bUp (a, (ae)) 1 0).2))), (p0, (0))]).2)) : Int)) : Bu)]) : List Bu).length) d0 (encUs (Zs ++ ([((((k1, n1, m0) : Sl), ((((bOf ⟨5, 0, 0, ⟨#[]⟩⟩ [(f0, (((bUp (a, (ae)) 1 0).2))), (p0, (0))]).2)) : Int)) : Bu)]))))
 refine kcl j0 ok48 (bof_calls _ _ o1.il n _ _ (Zs ++ ([((((k1, n1, m0) : Sl), ((((bOf ⟨5, 0, 0, ⟨#[]⟩⟩ [(f0, (((bUp (a, (ae)) 1 0).2))), (p0, (0))]).2)) : Int)) : Bu)])) (o1.g 18) (o1.g 12) (hln := (by (rw [List.length_append]; simp; omega))) (hbn := (bl_up (by exact bh_b2 hpq hZs hzt)))) ?_
 rintro j0 q1 ⟨d0, o0, u0, rfl, c2, y1, t0⟩
 have o0 := o1.below c2.below
 have c2 := o1.dN o0 y1
 refine ⟨_, rfl, fun o0 y1 => ?_⟩
 have hzo : u0.length ≤ 100000 := by rw [t0]; exact bOf_bd (bh_b2 hpq hZs hzt) (by rw [List.length_append]; simp; omega)
 have o0 := sWI c2 16 (pB 0 0 pn)
 refine ⟨o0, ?_⟩
 refine d1 8 ?_
 have o0 := c2.nf
 refine kcl y1 ok63 (btwo_calls _ _ o0.il 4 0 _ _ ((nthS y0 0).2.2) 0 _ _ _ (((bOf n (blts (Zs ++ ([((((k1, n1, m0) : Sl), ((((bOf ⟨5, 0, 0, ⟨#[]⟩⟩ [(f0, (((bUp (a, (ae)) 1 0).2))), (p0, (0))]).2)) : Int)) : Bu)])))).2)) (o0.g 17) (o0.g 19) (hla := (by omega)) (hlb := (by omega))) ?_
 rintro y1 c2 ⟨o1, d0, q1, rfl, j0, b1, v0⟩
 have c2 := o0.below j0.below
 have j0 := o0.dN c2 b1
 refine ⟨_, rfl, fun c2 b1 => ?_⟩
 have c2 := sWI j0 16 (pB 0 0 pn)
 refine ⟨c2, ?_⟩
 refine d1 9 ?_
 refine sto 2 b1 j0 fun c2 o0 y1 z1 => ?_
 have o0 := sWI z1 16 (pB 0 0 pn)
 refine ⟨o0, ?_⟩
 refine wpAnyH_done (by kernel_rfl) (x0 _ _ ?_) _
 refine xn b2 <| wp_ret <| e_cell (i := 2) (vs := [.slice o1 q1.length d0, .int .i64 (((bOf ⟨4, 0, 0, ⟨#[]⟩⟩ [(((nthS y0 0).2.2), 0), (u0, (((bOf n (blts (Zs ++ ([((((k1, n1, m0) : Sl), ((((bOf ⟨5, 0, 0, ⟨#[]⟩⟩ [(f0, (((bUp (a, (ae)) 1 0).2))), (p0, (0))]).2)) : Int)) : Bu)])))).2)))]).2))]) (.inl rfl) y1 z1 rfl rfl rfl rfl Tryd.underlying57 rfl sz57 ?_
 refine ⟨o1, d0, q1, ?_, z1.fr, z1.rx 20, (by unfold bHy bX; rw [if_neg c0, if_neg i0, blts_len, show gs.length - 1 = k by omega]; simp only [← hZs, blts_app, blts_cons, blts_nil, q0, h1, b0, j1, p1, t0, v0, lsts_nth]; try rfl)⟩
 exact cr (ret_u (by rfl) (by (unfold bHy bX; rw [if_neg c0, if_neg i0, blts_len, show gs.length - 1 = k by omega]; simp only [← hZs, blts_app, blts_cons, blts_nil, q0, h1, b0, j1, p1, t0, v0, lsts_nth]; try rfl)))
theorem right_calls (w0 : World) (Z : Nat → Prop) (hZ : ∀ k, Z k → k < w0.heap.size) (n : Nd) (hShp : Shapes w0 Z) (hs : n.S.size < 1000000 := by first | assumption | omega | (simp <;> omega)) :
    Calls Tryd.prog 68 [.agg #[.int .i64 (n.K), .int .i64 (n.N), .int .i64 (n.M), .string n.S]].toArray w0 (fun e w' => e = .returned (.bool (right n)) ∧ Fr none_ w0 w') := by
 have b0 := s0 (M := none_) hZ (zc (d := dShapes) hShp zn)
 refine c_enter Tryd.func68 rfl Tryd.ntmps68 rfl fun c0 d0 => ?_
 refine wsc fun c0 f0 => bxx d0 b0 fun c0 h0 i0 j0 k0 => ?_
 refine aw j0 f0 fun h0 c0 => ?_
 refine wp_seq_k fun f0 h0 => wsc fun f0 j0 => lR c0 fun f0 d0 => ?_
 refine lOr 3 (decide (30 ≤ (n.K))) d0 fun f0 c0 => ?_
 refine wn j0 ?_
 rcases Bool.eq_false_or_eq_true (((decide ((n.K) < 0)) || (decide (30 ≤ (n.K))))) with j0 | j0
 ·
  have f0 := j0
  try simp only [bz] at f0
  refine wct c0 j0 fun f0 => ?_
  refine wsc fun d0 b0 => aw f0 b0 fun d0 m0 => ?_
  refine wp_ret <| x_then_r <| er1 m0 ?_
  refine ⟨?_, k0.fr⟩
  exact cr (ret_b (by exact (right_bad (by omega)).symm))
 have m0 := or_fl j0
 have b0 := of_decide_eq_false m0
 have m0 := or_fr j0
 have d0 := of_decide_eq_false m0
 refine wcf c0 j0 fun m0 => ?_
 refine wp_skip <| xn h0 <| wsc fun h0 c0 => lR m0 fun h0 f0 => ?_
 refine m_indexA (i := ((n.K)).toNat) (j := (((n.K)).toNat) * 4) sv f0 rfl rfl rfl rfl Tryd.underlying93 sz92 (by omega) (by omega) rfl (by decide) fun h0 m0 => ?_
 obtain ⟨h0, f0, n0, o0⟩ := shapes_at (k0.get (i := 0) rfl) (((n.K)).toNat) (by omega)
 have p0 := k0.data (dRow 1 h0 (shp (((n.K)).toNat)).b.length f0 (encIs (shp (((n.K)).toNat)).b)) n0
 refine m_loadEN sv m0 rfl rfl rfl o0 Tryd.underlying92 rfl sz92 (by decide) fun n0 k0 => ?_
 refine alc k0 p0 fun n0 o0 m0 q0 t0 => ?_
 refine sto 1 q0 t0 fun o0 n0 k0 p0 => ?_
 refine wn c0 <| wp_seq_k fun c0 n0 => wp_block ?_
 refine c_join (fun ga gw => Reg ga 110 [(1, .pointer (some ⟨i0, 0, none⟩)), (2, .bool false), (3, .pointer (some ⟨m0, 0, none⟩)), (16, .bool (((!((shp (((n.K)).toNat)).n)) && (!(decide ((n.N) = 0)))) || (((!((shp (((n.K)).toNat)).m)) && (!(decide ((n.M) = 0)))) || (((!((shp (((n.K)).toNat)).s)) && (!(decide (n.S = (⟨#[]⟩ : ByteArray))))) || (((shp (((n.K)).toNat)).s) && (!(nameOk n.S))))))), (1000000, .bool false)] ∧ St w0 Z none_ gw [.box i0 39 [.int .i64 (n.K), .int .i64 (n.N), .int .i64 (n.M), .string n.S], .box m0 92 [.slice h0 ((shp (((n.K)).toNat)).b.length) f0, .bool ((shp (((n.K)).toNat)).n), .bool ((shp (((n.K)).toNat)).m), .bool ((shp (((n.K)).toNat)).s)]] [dShapes, dRow 1 h0 (shp (((n.K)).toNat)).b.length f0 (encIs (shp (((n.K)).toNat)).b)]) ?_ ?_
 ·
  refine wsc fun c0 o0 => lR k0 fun c0 t0 => ?_
  refine lAn 3 (!(decide ((n.N) = 0))) t0 fun c0 k0 => ?_
  refine aw k0 o0 fun c0 t0 => ?_
  rcases Bool.eq_false_or_eq_true (((!((shp (((n.K)).toNat)).n)) && (!(decide ((n.N) = 0))))) with o0 | o0
  ·
   have c0 := and_tl o0
   have k0 := not_t c0
   have k0 := and_tr o0
   have c0 := not_t k0
   have k0 := of_decide_eq_false c0
   refine wct t0 o0 fun k0 => ?_
   refine wp_skip ?_
   exact x_then_n ⟨(k0.sub (rc2 (rc rfl (rc (rb rfl (by (simp only [o0, bl]; done))) (rc rfl rnl))))), p0⟩
  have k0 := o0
  try simp only [bz] at k0
  refine wcf t0 o0 fun k0 => ?_
  refine wsc fun t0 c0 => lR k0 fun t0 q0 => ?_
  refine lAn 3 (!(decide ((n.M) = 0))) q0 fun t0 k0 => ?_
  refine aw k0 c0 fun t0 q0 => ?_
  rcases Bool.eq_false_or_eq_true (((!((shp (((n.K)).toNat)).m)) && (!(decide ((n.M) = 0))))) with c0 | c0
  ·
   have t0 := and_tl c0
   have k0 := not_t t0
   have k0 := and_tr c0
   have t0 := not_t k0
   have k0 := of_decide_eq_false t0
   refine wct q0 c0 fun k0 => ?_
   refine wp_skip ?_
   exact x_then_n ⟨(k0.sub (rc2 (rc rfl (rc (rb rfl (by (simp only [o0, c0, bl]; done))) (rc rfl rnl))))), p0⟩
  have k0 := c0
  try simp only [bz] at k0
  refine wcf q0 c0 fun k0 => ?_
  refine wsc fun q0 t0 => lR k0 fun q0 u0 => ?_
  refine lAn 3 (!(decide (n.S = (⟨#[]⟩ : ByteArray)))) u0 fun q0 k0 => ?_
  refine aw k0 t0 fun q0 u0 => ?_
  rcases Bool.eq_false_or_eq_true (((!((shp (((n.K)).toNat)).s)) && (!(decide (n.S = (⟨#[]⟩ : ByteArray)))))) with t0 | t0
  ·
   have q0 := and_tl t0
   have k0 := not_t q0
   have k0 := and_tr t0
   have q0 := not_t k0
   have k0 := of_decide_eq_false q0
   refine wct u0 t0 fun k0 => ?_
   refine wp_skip ?_
   exact x_then_n ⟨(k0.sub (rc2 (rc rfl (rc (rb rfl (by (simp only [o0, c0, t0, bl]; done))) (rc rfl rnl))))), p0⟩
  have k0 := t0
  try simp only [bz] at k0
  refine wcf u0 t0 fun k0 => ?_
  refine c_region ?_
  refine lR k0 fun u0 q0 => ?_
  refine l_join (fun ga gw => Reg ga 110 [(1, .pointer (some ⟨i0, 0, none⟩)), (2, .bool false), (3, .pointer (some ⟨m0, 0, none⟩)), (16, .bool false), (48, .bool (((shp (((n.K)).toNat)).s) && (!(nameOk n.S)))), (1000000, .bool false)] ∧ St w0 Z none_ gw [.box i0 39 [.int .i64 (n.K), .int .i64 (n.N), .int .i64 (n.M), .string n.S], .box m0 92 [.slice h0 ((shp (((n.K)).toNat)).b.length) f0, .bool ((shp (((n.K)).toNat)).n), .bool ((shp (((n.K)).toNat)).m), .bool ((shp (((n.K)).toNat)).s)]] [dShapes, dRow 1 h0 (shp (((n.K)).toNat)).b.length f0 (encIs (shp (((n.K)).toNat)).b)]) 5 ?_ ?_
  ·
   rcases Bool.eq_false_or_eq_true ((shp (((n.K)).toNat)).s) with m0 | m0
   ·
    have f0 := q0.setb (d := 43) (b := true) rfl m0
    refine lR f0 fun h0 i0 => ?_
    have h0 := p0.nf
    refine kcl i0 ok79 (name_calls _ _ h0.il n.S) ?_
    rintro i0 f0 ⟨rfl, u0⟩
    have f0 := h0.below u0.below
    refine ⟨_, rfl, fun u0 h0 => ?_⟩
    refine lR h0 fun u0 i0 => ?_
    refine wpList_nil ?_
    exact x_then_n ⟨(i0.sub (rc4 (rc (rb rfl (by (simp only [m0, bl]; done))) (rc rfl rnl)))), f0⟩
   have i0 := q0.setb (d := 43) (b := false) rfl m0
   refine lR i0 fun q0 f0 => ?_
   refine wpList_nil ?_
   exact x_then_n ⟨(f0.sub (rc4 (rc (rb rfl (by (simp only [m0, bl]; done))) (rc rfl rnl)))), p0⟩
  rintro f0 m0 ⟨p0, q0⟩
  refine asg p0 fun m0 f0 => ?_
  refine wpList_nil ?_
  exact x_then_n ⟨(f0.sub (rc2 (rc rfl (rc (rb rfl (by (simp only [o0, c0, t0, bl]; done))) (rc rfl rnl))))), q0⟩
 rintro f0 q0 ⟨t0, c0⟩
 rcases Bool.eq_false_or_eq_true ((((!((shp (((n.K)).toNat)).n)) && (!(decide ((n.N) = 0)))) || (((!((shp (((n.K)).toNat)).m)) && (!(decide ((n.M) = 0)))) || (((!((shp (((n.K)).toNat)).s)) && (!(decide (n.S = (⟨#[]⟩ : ByteArray))))) || (((shp (((n.K)).toNat)).s) && (!(nameOk n.S))))))) with q0 | q0
 ·
  have f0 := q0
  try simp only [bz] at f0
  refine wct t0 q0 fun f0 => ?_
  refine wsc fun o0 m0 => aw f0 m0 fun o0 p0 => ?_
  refine wp_ret <| x_block_r <| x_then_r <| er1 p0 ?_
  refine ⟨?_, c0.fr⟩
  exact cr (ret_b (by exact (right_big q0).symm))
 have p0 := or_fl q0
 have m0 := p0
 try simp only [bz] at m0
 have m0 := or_fr q0
 have p0 := or_fl m0
 have o0 := p0
 try simp only [bz] at o0
 have o0 := or_fr m0
 have m0 := or_fl o0
 have p0 := m0
 try simp only [bz] at p0
 have p0 := or_fr o0
 have o0 := p0
 try simp only [bz] at o0
 refine wcf t0 q0 fun o0 => ?_
 refine wsc fun t0 p0 => lR o0 fun t0 m0 => ?_
 refine wn p0 ?_
 rcases Decidable.em ((n.K) = 2) with p0 | p0
 ·
  refine wct m0 (decide_eq_true p0) fun t0 => ?_
  refine wsc fun o0 f0 => lR t0 fun o0 i0 => ?_
  have o0 := c0.nf
  refine kcl i0 ok80 (lvCheck_calls _ _ o0.il (n.N)) ?_
  rintro i0 t0 ⟨rfl, u0⟩
  have t0 := o0.below u0.below
  refine ⟨_, rfl, fun u0 o0 => ?_⟩
  refine lR o0 fun u0 i0 => ?_
  refine wn f0 <| wp_ret <| x_block_r <| x_then_r <| er1 i0 ?_
  refine ⟨?_, t0.fr⟩
  exact cr (ret_b (by exact (right_sort q0 (by assumption)).symm))
 refine wcf m0 (decide_eq_false p0) fun t0 => ?_
 refine wsc fun m0 i0 => lR t0 fun m0 f0 => ?_
 refine wn i0 ?_
 rcases Decidable.em ((n.K) = 26) with i0 | i0
 ·
  refine wct f0 (decide_eq_true i0) fun m0 => ?_
  refine wp_seq_k fun t0 u0 => ?_
  obtain ⟨t0, o0, h0⟩ := c0.agree
  refine d_reg3 (n := 22) h0 2 (pB 0 0 pn) (pan_then (pan_block (pan_then pan_body))) fun o0 t0 k0 v0 x0 y0 => ?_
  refine dR [0, 1, 2, 3] m0 fun y0 v0 => ?_
  rcases Decidable.em (0 ≤ (n.N)) with y0 | y0
  ·
   have m0 := v0.setb (d := 64) (b := true) rfl (decide_eq_true y0)
   refine dR [4, 5, 6, 7] m0 fun t0 o0 => ?_
   refine d1 8 ?_
   have t0 := x0.nf
   refine kcl o0 ok81 (most_calls _ _ t0.il (n.K)) ?_
   rintro o0 m0 ⟨rfl, h0⟩
   have m0 := t0.below h0.below
   refine ⟨_, rfl, fun h0 t0 => ?_⟩
   have h0 := sWI m0 2 (pB 0 0 pn)
   refine ⟨h0, ?_⟩
   refine dR [9, 10, 11] t0 fun h0 o0 => ?_
   refine dAn 12 [13, 14] 15 (decide (0 ≤ (n.M))) o0 fun h0 t0 => ?_
   refine dR [16] t0 fun h0 o0 => ?_
   refine dAn 17 [18, 19] 20 (decide ((n.M) ≤ 6)) o0 fun h0 t0 => ?_
   refine dR [21] t0 fun h0 o0 => ?_
   refine wpAnyH_done (by kernel_rfl) (k0 _ _ ?_) _
   refine xn u0 <| wp_ret <| x_block_r <| x_then_r <| er1 o0 ?_
   refine ⟨?_, m0.fr⟩
   exact cr (ret_b (by (rw [right_con' q0 (by assumption)]; first | rfl | (simp <;> omega) | (simp [j0, b0, d0, q0, p0, i0, y0]; done) | (rw [Bool.eq_iff_iff]; simp <;> omega))))
  have m0 := v0.setb (d := 64) (b := false) rfl (decide_eq_false y0)
  refine dR [4, 5, 6, 7, 8, 9, 10, 11, 12, 13, 14, 15, 16, 17, 18, 19, 20, 21] m0 fun v0 o0 => ?_
  refine wpAnyH_done (by kernel_rfl) (k0 _ _ ?_) _
  refine xn u0 <| wp_ret <| x_block_r <| x_then_r <| er1 o0 ?_
  refine ⟨?_, x0.fr⟩
  exact cr (ret_b (by (rw [right_con' q0 (by assumption)]; first | rfl | (simp <;> omega) | (simp [j0, b0, d0, q0, p0, i0, y0]; done) | (rw [Bool.eq_iff_iff]; simp <;> omega))))
 refine wcf f0 (decide_eq_false i0) fun y0 => ?_
 refine wsc fun f0 x0 => lR y0 fun f0 o0 => ?_
 refine wn x0 ?_
 rcases Decidable.em ((n.K) = 27) with x0 | x0
 ·
  refine wct o0 (decide_eq_true x0) fun f0 => ?_
  refine wsc fun y0 u0 => lR f0 fun y0 k0 => ?_
  refine lAn 3 (decide ((n.M) ≤ 6)) k0 fun y0 f0 => ?_
  refine aw f0 u0 fun y0 k0 => ?_
  refine wp_ret <| x_block_r <| x_then_r <| er1 k0 ?_
  refine ⟨?_, c0.fr⟩
  exact cr (ret_b (by (rw [right_elim' q0 (by assumption)]; first | rfl | (simp <;> omega) | (simp [j0, b0, d0, q0, p0, i0, x0]; done) | (rw [Bool.eq_iff_iff]; simp <;> omega))))
 refine wcf o0 (decide_eq_false x0) fun k0 => ?_
 refine wp_skip <| x_block_n <| xn n0 <| wp_seq_k fun n0 o0 => ?_
 obtain ⟨n0, u0, y0⟩ := c0.agree
 refine d_reg3 (n := 17) y0 2 (pB 0 0 (pB 1 0 pn)) (pan_then pan_body) fun u0 n0 c0 f0 v0 m0 => ?_
 refine dR [0, 1, 2, 3] k0 fun m0 f0 => ?_
 rcases Bool.eq_false_or_eq_true ((shp (((n.K)).toNat)).n) with m0 | m0
 ·
  have k0 := f0.setb (d := 97) (b := false) rfl (by rw [m0]; rfl)
  refine dR [4, 5, 6, 7] k0 fun n0 u0 => ?_
  rcases Decidable.em (0 ≤ (n.N)) with n0 | n0
  ·
   have k0 := u0.setb (d := 101) (b := true) rfl (decide_eq_true n0)
   refine dR [8, 9, 10, 11] k0 fun y0 h0 => ?_
   refine d1 12 ?_
   have y0 := v0.nf
   refine kcl h0 ok81 (most_calls _ _ y0.il (n.K)) ?_
   rintro h0 k0 ⟨rfl, t0⟩
   have k0 := y0.below t0.below
   refine ⟨_, rfl, fun t0 y0 => ?_⟩
   have t0 := sWI k0 2 (pB 0 0 (pB 1 0 pn))
   refine ⟨t0, ?_⟩
   refine dR [13, 14, 15, 16] y0 fun t0 h0 => ?_
   refine wpAnyH_done (by kernel_rfl) (c0 _ _ ?_) _
   refine xn o0 <| wp_ret <| er1 h0 ?_
   refine ⟨?_, k0.fr⟩
   exact cr (ret_b (by (rw [right_oth q0 (by omega) (by omega) (by assumption) (by assumption) (by assumption)]; first | rfl | (simp <;> omega) | (simp [j0, b0, d0, q0, p0, i0, x0, m0, n0]; done) | (rw [Bool.eq_iff_iff]; simp <;> omega))))
  have k0 := u0.setb (d := 101) (b := false) rfl (decide_eq_false n0)
  refine dR [8, 9, 10, 11, 12, 13, 14, 15, 16] k0 fun u0 h0 => ?_
  refine wpAnyH_done (by kernel_rfl) (c0 _ _ ?_) _
  refine xn o0 <| wp_ret <| er1 h0 ?_
  refine ⟨?_, v0.fr⟩
  exact cr (ret_b (by (rw [right_oth q0 (by omega) (by omega) (by assumption) (by assumption) (by assumption)]; first | rfl | (simp <;> omega) | (simp [j0, b0, d0, q0, p0, i0, x0, m0, n0]; done) | (rw [Bool.eq_iff_iff]; simp <;> omega))))
 have n0 := f0.setb (d := 97) (b := true) rfl (by rw [m0]; rfl)
 refine dR [4, 5, 6, 7, 8, 9, 10, 11, 12, 13, 14, 15, 16] n0 fun f0 h0 => ?_
 refine wpAnyH_done (by kernel_rfl) (c0 _ _ ?_) _
 refine xn o0 <| wp_ret <| er1 h0 ?_
 refine ⟨?_, v0.fr⟩
 exact cr (ret_b (by (rw [right_oth q0 (by omega) (by omega) (by assumption) (by assumption) (by assumption)]; first | rfl | (simp <;> omega) | (simp [j0, b0, d0, q0, p0, i0, x0, m0]; done) | (rw [Bool.eq_iff_iff]; simp <;> omega))))
theorem measured_calls (w0 : World) (Z : Nat → Prop) (hZ : ∀ k, Z k → k < w0.heap.size) (tA : Option Addr) (tc : Nat) (t : List Nd) (hShp : Shapes w0 Z) (ht : (dRow 4 tA t.length tc (encNs t)).φ w0 Z) (hl : t.length ≤ 4000 := by first | assumption | omega | (simp <;> omega)) (hsm : sml t := by first | assumption | omega | (simp <;> omega)) :
    Calls Tryd.prog 54 [.slice tA t.length tc].toArray w0 (fun e w' => ∃ (rA0 : Option Addr) (rc0 : Nat), e = .returned (.tuple #[.slice rA0 (measL t).length rc0, .bool (measB t)]) ∧ Fr none_ w0 w' ∧ (dRow 2 rA0 ((measL t).length) rc0 (encMs (measL t))).φ w' (nxt Z w0 w')) := by
 have b0 := s0 (M := none_) hZ (zc (d := dShapes) hShp (zc ht zn))
 refine c_enter Tryd.func54 rfl Tryd.ntmps54 rfl fun c0 d0 => ?_
 refine wsc fun c0 f0 => lR d0 fun c0 h0 => ?_
 refine wn f0 <| wsc fun f0 c0 => lR h0 fun f0 d0 => ?_
 refine wn c0 <| wp_seq_k fun c0 f0 => wsc fun c0 h0 => lR d0 fun c0 i0 => ?_
 refine wn h0 <| wp_block ?_
 have h0 := b0.nilrow 90 2
 have b0 := h0.nilrow 90 2
 refine wp_loop_ghost (fun gn ga gw => ∃ k : Nat, ∃ st : List T, ∃ Aa : Option Addr, ∃ ca : Nat, ∃ Ao : Option Addr, ∃ co : Nat, (Reg ga 73 [(1000000, .bool false), (12, .slice tA t.length tc), (13, .int .i64 ((t.length : Nat) : Int)), (14, .int .i64 ((k : Nat) : Int)), (4, .slice Aa ((allTs 0 st).length) ca), (5, .slice Ao ((meas 0 st).length) co)]) ∧ (St w0 Z none_ gw [.row Aa ((allTs 0 st).length) ca 90 2 (encMs (allTs 0 st)), .row Ao ((meas 0 st).length) co 90 2 (encMs (meas 0 st))] [dShapes, dRow 4 tA t.length tc (encNs t)]) ∧ (k ≤ t.length) ∧ (scanT [] (t.take k) = some st) ∧ (t.length - k) = gn) _ ⟨0, [], none, 0, none, 0, (i0.sub (rc4 (rc rfl (rc rfl rnl)))), b0, by omega, rfl, rfl⟩ ?_
 rintro b0 i0 h0 ⟨k, st, Aa, ca, Ao, co, c0, d0, hk, hsc, j0⟩
 have hfl := scan_flats hsc hk
 have hml := meas_length 0 st
 have hal := allTs_length 0 st
 have hsl := flats_len_ge st
 refine wsc fun j0 h0 => lR c0 fun j0 i0 => ?_
 refine wn h0 <| wp_seq_k fun h0 j0 => ?_
 rcases Decidable.em (((k : Nat) : Int) < ((t.length : Nat) : Int)) with h0 | h0
 ·
  refine wct i0 (decide_eq_true h0) fun c0 => ?_
  refine wp_skip <| xn j0 <| wp_seq_k fun j0 b0 => wp_block ?_
  refine wsc fun j0 k0 => mv c0 fun j0 m0 => ?_
  refine ix k (k * 4) m0 (nds_elem (t := t) (k := k) (d0.row (i := 1) rfl).2 (by omega)).some_ fun j0 c0 => ?_
  refine m_loadEN sv c0 rfl rfl rfl (nds_elem (t := t) (k := k) (d0.row (i := 1) rfl).2 (by omega)) Tryd.underlying39 rfl sz39 (by decide) fun j0 m0 => ?_
  refine alc m0 d0 fun j0 c0 n0 o0 p0 => ?_
  refine asg o0 fun c0 j0 => ?_
  refine sto 2 j0 p0 fun c0 o0 m0 q0 => ?_
  refine wn k0 <| wp_seq_k fun k0 o0 => wsc fun k0 c0 => lR m0 fun k0 j0 => ?_
  have k0 := q0.nf
  refine kcl j0 ok68 (right_calls _ _ k0.il (nth t k) (k0.g 0) (hs := (hsm _ (by omega)))) ?_
  rintro j0 q0 ⟨rfl, m0⟩
  have q0 := k0.below m0.below
  refine ⟨_, rfl, fun m0 k0 => ?_⟩
  refine lR k0 fun m0 j0 => ?_
  refine l_join (fun ga gw => Reg ga 73 [(4, .slice Aa ((allTs 0 st).length) ca), (5, .slice Ao ((meas 0 st).length) co), (6, .int .i64 ((k : Nat) : Int)), (7, .pointer (some ⟨n0, 0, none⟩)), (12, .slice tA t.length tc), (13, .int .i64 ((t.length : Nat) : Int)), (14, .int .i64 ((k : Nat) : Int)), (28, .bool ((!(right (nth t k))) || (decide ((((meas 0 st).length : Nat) : Int) < ((many (nth t k) : Nat) : Int))))), (1000000, .bool false)] ∧ St w0 Z none_ gw [.row Aa ((allTs 0 st).length) ca 90 2 (encMs (allTs 0 st)), .row Ao ((meas 0 st).length) co 90 2 (encMs (meas 0 st)), .box n0 39 [.int .i64 (((nth t k).K)), .int .i64 (((nth t k).N)), .int .i64 (((nth t k).M)), .string ((nth t k).S)]] [dShapes, dRow 4 tA t.length tc (encNs t)]) 6 ?_ ?_
  ·
   rcases Bool.eq_false_or_eq_true (right (nth t k)) with m0 | m0
   ·
    have k0 := j0.setb (d := 22) (b := false) rfl (by rw [m0]; rfl)
    refine lR k0 fun p0 t0 => ?_
    have p0 := q0.nf
    refine kcl t0 ok36 (many_calls _ _ p0.il (nth t k) (p0.g 0)) ?_
    rintro t0 k0 ⟨rfl, u0⟩
    have k0 := p0.below u0.below
    refine ⟨_, rfl, fun u0 p0 => ?_⟩
    refine lR p0 fun u0 t0 => ?_
    refine wpList_nil ?_
    exact x_then_n ⟨(t0.sub (rc4 (rc2 (rc rfl (rc (rb rfl (by (simp only [m0, bl]; done))) (rc rfl rnl)))))), k0⟩
   have t0 := j0.setb (d := 22) (b := true) rfl (by rw [m0]; rfl)
   refine lR t0 fun j0 k0 => ?_
   refine wpList_nil ?_
   exact x_then_n ⟨(k0.sub (rc4 (rc2 (rc rfl (rc (rb rfl (by (simp only [m0, bl]; done))) (rc rfl rnl)))))), q0⟩
  rintro k0 m0 ⟨q0, j0⟩
  refine wn c0 ?_
  rcases Bool.eq_false_or_eq_true (((!(right (nth t k))) || (decide ((((meas 0 st).length : Nat) : Int) < ((many (nth t k) : Nat) : Int))))) with c0 | c0
  ·
   have m0 := c0
   try simp only [bz] at m0
   refine wct q0 c0 fun k0 => ?_
   refine wsc fun t0 u0 => lR k0 fun t0 p0 => ?_
   refine wn u0 <| wp_ret <| x_then_r <| x_block_r <| x_then_r <| x_then_r <| x_block_r <| x_then_r <| er2 p0 ?_
   have p0 : measL t = [] := (meas_bad (scan_none hsc (by omega) (push_none (by rcases m0 with h | h; exact .inl h; exact .inr (by omega))))).1
   rw [p0]
   refine ⟨none, 0, ?_, j0.fr, ⟨Nat.le_refl _, RowI.nil _ _ _ _⟩⟩
   exact ret_t2 rfl (ret_b (by exact (meas_bad (scan_none hsc (by omega) (push_none (by rcases m0 with h | h; exact .inl h; exact .inr (by omega))))).2.symm))
  have m0 := or_fl c0
  have p0 := not_f m0
  have p0 := or_fr c0
  have m0 := of_decide_eq_false p0
  refine wcf q0 c0 fun m0 => ?_
  refine wp_skip <| xn o0 <| wsc fun o0 c0 => lR m0 fun o0 q0 => ?_
  have o0 := j0.nf
  refine kcl q0 ok36 (many_calls _ _ o0.il (nth t k) (o0.g 0)) ?_
  rintro q0 j0 ⟨rfl, m0⟩
  have j0 := o0.below m0.below
  refine ⟨_, rfl, fun m0 o0 => ?_⟩
  refine sbi ((((meas 0 st).length : Nat) : Int) - ((many (nth t k) : Nat) : Int)) o0 fun m0 q0 => ?_
  refine aw q0 c0 fun m0 o0 => ?_
  refine wsc fun c0 m0 => mv o0 fun c0 q0 => ?_
  refine bld q0 fun c0 o0 => ?_
  refine alc o0 j0 fun c0 q0 p0 u0 t0 => ?_
  refine sto 3 u0 t0 fun q0 c0 o0 j0 => ?_
  refine wn m0 <| wp_seq_k fun m0 c0 => wsc fun m0 q0 => lR o0 fun m0 t0 => ?_
  have m0 := own_cap (j0.res (i := 1) rfl)
  refine m_sliceV (lo := some (.tmp 37)) (hi := none) (vlo := (some (.int .i64 ((((meas 0 st).length : Nat) : Int) - ((many (nth t k) : Nat) : Int))))) (vhi := none) (kd := .i64) (kd' := .i64) sv t0 rfl rfl rfl rfl rfl (((meas 0 st).length) - (many (nth t k))) (many (nth t k)) (.inl (by (congr 2; omega))) (.inr ⟨rfl, by omega⟩) Tryd.underlying65 sz90 (by omega) (by decide) fun m0 o0 u0 k0 v0 x0 => ?_
  refine lR x0 fun k0 m0 => ?_
  refine wn q0 <| wp_block ?_
  refine wp_loop_ghost (fun gn ga gw => ∃ j : Nat, (Reg ga 73 [(4, .slice Aa ((allTs 0 st).length) ca), (5, .slice Ao ((meas 0 st).length) co), (12, .slice tA t.length tc), (13, .int .i64 ((t.length : Nat) : Int)), (14, .int .i64 ((k : Nat) : Int)), (1000000, .bool false), (8, .int .i64 ((((meas 0 st).length : Nat) : Int) - ((many (nth t k) : Nat) : Int))), (9, .pointer (some ⟨p0, 0, none⟩)), (38, .slice o0 (many (nth t k)) u0), (39, .int .i64 ((many (nth t k) : Nat) : Int)), (40, .int .i64 ((j : Nat) : Int))]) ∧ (St w0 Z none_ gw [.row Aa ((allTs 0 st).length) ca 90 2 (encMs (allTs 0 st)), .row Ao ((meas 0 st).length) co 90 2 (encMs (meas 0 st)), .box n0 39 [.int .i64 (((nth t k).K)), .int .i64 (((nth t k).N)), .int .i64 (((nth t k).M)), .string ((nth t k).S)], .box p0 90 [.int .i64 ((fromQ k (meas 0 st) (((meas 0 st).length) - (many (nth t k))) j)), .int .i64 ((deepQ (meas 0 st) (((meas 0 st).length) - (many (nth t k))) j))]] [dShapes, dRow 4 tA t.length tc (encNs t)]) ∧ (j ≤ many (nth t k)) ∧ (many (nth t k) - j) = gn) _ ⟨0, (m0.sub (rc4 (rc4 (rc2 (rc rfl rnl))))), j0, by omega, rfl⟩ ?_
  rintro m0 j0 q0 ⟨j, k0, x0, hj, t0⟩
  obtain ⟨t0, q0⟩ := deepQ_le (st := st) (b := ((meas 0 st).length) - (many (nth t k))) (q := j)
  obtain ⟨q0, t0⟩ := meas_deep_le (st := st) (i := (((meas 0 st).length) - (many (nth t k))) + j)
  refine wsc fun t0 q0 => lR k0 fun t0 j0 => ?_
  refine wn q0 <| wp_seq_k fun q0 t0 => ?_
  rcases Decidable.em (((j : Nat) : Int) < ((many (nth t k) : Nat) : Int)) with q0 | q0
  ·
   refine wct j0 (decide_eq_true q0) fun k0 => ?_
   refine wp_skip <| xn t0 <| wp_seq_k fun t0 m0 => wp_block ?_
   refine wsc fun t0 y0 => mv k0 fun t0 z0 => ?_
   refine ix j (j * 2) z0 (Cut.elem v0 (by omega) (own_ms (t := meas 0 st) (k := (((meas 0 st).length) - (many (nth t k))) + j) (x0.res (i := 1) rfl) (by omega))).some_ fun t0 k0 => ?_
   refine m_loadEN sv k0 rfl rfl rfl (Cut.elem v0 (by omega) (own_ms (t := meas 0 st) (k := (((meas 0 st).length) - (many (nth t k))) + j) (x0.res (i := 1) rfl) (by omega))) Tryd.underlying90 rfl sz90 (by decide) fun t0 z0 => ?_
   refine alc z0 x0 fun t0 k0 v0 b1 c1 => ?_
   refine asg b1 fun k0 t0 => ?_
   refine sto 4 t0 c1 fun k0 b1 z0 f1 => ?_
   refine wn y0 <| c_join (fun ga gw => Reg ga 73 [(4, .slice Aa ((allTs 0 st).length) ca), (5, .slice Ao ((meas 0 st).length) co), (8, .int .i64 ((((meas 0 st).length : Nat) : Int) - ((many (nth t k) : Nat) : Int))), (9, .pointer (some ⟨p0, 0, none⟩)), (11, .pointer (some ⟨v0, 0, none⟩)), (12, .slice tA t.length tc), (13, .int .i64 ((t.length : Nat) : Int)), (14, .int .i64 ((k : Nat) : Int)), (38, .slice o0 (many (nth t k)) u0), (39, .int .i64 ((many (nth t k) : Nat) : Int)), (40, .int .i64 ((j : Nat) : Int)), (1000000, .bool false)] ∧ St w0 Z none_ gw [.row Aa ((allTs 0 st).length) ca 90 2 (encMs (allTs 0 st)), .row Ao ((meas 0 st).length) co 90 2 (encMs (meas 0 st)), .box n0 39 [.int .i64 (((nth t k).K)), .int .i64 (((nth t k).N)), .int .i64 (((nth t k).M)), .string ((nth t k).S)], .box p0 90 [.int .i64 ((if (((j : Nat) : Int) = 0) then (((nthM (meas 0 st) ((((meas 0 st).length) - (many (nth t k))) + j)).1)) else ((fromQ k (meas 0 st) (((meas 0 st).length) - (many (nth t k))) j)))), .int .i64 ((deepQ (meas 0 st) (((meas 0 st).length) - (many (nth t k))) j))], .box v0 90 [.int .i64 (((nthM (meas 0 st) ((((meas 0 st).length) - (many (nth t k))) + j)).1)), .int .i64 (((nthM (meas 0 st) ((((meas 0 st).length) - (many (nth t k))) + j)).2))]] [dShapes, dRow 4 tA t.length tc (encNs t)]) ?_ ?_
   ·
    refine wsc fun v0 u0 => lR z0 fun v0 o0 => ?_
    refine wn u0 ?_
    rcases Decidable.em (((j : Nat) : Int) = 0) with u0 | u0
    ·
     refine wct o0 (decide_eq_true u0) fun v0 => ?_
     refine c_region ?_
     refine lR v0 fun z0 p0 => ?_
     refine sto 3 p0 f1 fun z0 v0 n0 y0 => ?_
     refine wpList_nil ?_
     have hSj := y0
     exact x_then_n ⟨(n0.sub (rc4 (rc4 (rc2 (rc rfl (rc rfl rnl)))))), by rw [(show (((if (((j : Nat) : Int) = 0) then (((nthM (meas 0 st) ((((meas 0 st).length) - (many (nth t k))) + j)).1)) else ((fromQ k (meas 0 st) (((meas 0 st).length) - (many (nth t k))) j)))) : Int) = (((nthM (meas 0 st) ((((meas 0 st).length) - (many (nth t k))) + j)).1)) by (simp only [decide_eq_true u0, if_pos u0, bl]; done))]; exact hSj⟩
    refine wcf o0 (decide_eq_false u0) fun n0 => ?_
    refine wp_skip ?_
    have hSj := f1
    exact x_then_n ⟨(n0.sub (rc4 (rc4 (rc2 (rc rfl (rc rfl rnl)))))), by rw [(show (((if (((j : Nat) : Int) = 0) then (((nthM (meas 0 st) ((((meas 0 st).length) - (many (nth t k))) + j)).1)) else ((fromQ k (meas 0 st) (((meas 0 st).length) - (many (nth t k))) j)))) : Int) = ((fromQ k (meas 0 st) (((meas 0 st).length) - (many (nth t k))) j)) by (simp only [decide_eq_false u0, if_neg u0, bl]; done))]; exact hSj⟩
   rintro n0 u0 ⟨f1, o0⟩
   refine c_region ?_
   refine lR f1 fun u0 n0 => ?_
   refine adi (((nthM (meas 0 st) ((((meas 0 st).length) - (many (nth t k))) + j)).2) + 1) n0 fun u0 f1 => ?_
   refine r_max sv f1 rfl rfl rfl rfl rfl (by decide) fun u0 n0 => ?_
   refine lR n0 fun u0 f1 => ?_
   refine sto 3 f1 o0 fun u0 n0 y0 v0 => ?_
   refine wpList_nil ?_
   refine x_block_n <| xn m0 <| c_region ?_
   refine adi ((j + 1 : Nat) : Int) y0 fun m0 n0 => ?_
   refine mv n0 fun m0 y0 => ?_
   refine wpList_nil ?_
   have m0 : ((if (((j : Nat) : Int) = 0) then (((nthM (meas 0 st) ((((meas 0 st).length) - (many (nth t k))) + j)).1)) else ((fromQ k (meas 0 st) (((meas 0 st).length) - (many (nth t k))) j)))) = ((fromQ k (meas 0 st) (((meas 0 st).length) - (many (nth t k))) (j + 1))) := by unfold fromQ; (repeat' split) <;> first | rfl | omega | (congr 2; omega) | (congr 3; omega)
   have n0 := v0
   rw [m0] at n0
   have m0 : ((max ((deepQ (meas 0 st) (((meas 0 st).length) - (many (nth t k))) j)) (((nthM (meas 0 st) ((((meas 0 st).length) - (many (nth t k))) + j)).2) + 1))) = ((deepQ (meas 0 st) (((meas 0 st).length) - (many (nth t k))) (j + 1))) := rfl
   have v0 := n0
   rw [m0] at v0
   have m0 := v0.erase 4
   exact ⟨_, by omega, j + 1, (y0.sub (rc4 (rc4 (rc2 (rc rfl rnl))))), m0, by omega, rfl⟩
  refine wcf j0 (decide_eq_false q0) fun m0 => ?_
  refine wp_exit ?_
  refine x_then_e ?_
  refine x_then_e ?_
  refine x_block_eq ?_
  refine xn c0 <| wp_seq_k fun c0 q0 => ?_
  obtain ⟨c0, j0, y0⟩ := x0.agree
  refine d_reg3 (n := 7) y0 2 (pB 3 0 pn) (pan_then (pan_block (pan_then (pan_then (pan_block (pan_then pan_body)))))) fun j0 c0 x0 v0 n0 u0 => ?_
  refine dR [0, 1] m0 fun v0 j0 => ?_
  refine dt 2 rfl c0 j0 (want_n rfl) (fun x hx => m_sliceP (q := ((meas 0 st).length) - (many (nth t k))) (sy j0) j0 rfl rfl rfl rfl (by omega) Tryd.underlying65 sz90 (by omega) (by decide) gt) u0 fun v0 m0 => ?_
  refine dt 3 rfl c0 m0 (want_n rfl) (fun x hx => m_loadCN (sy m0) m0 rfl rfl rfl (CellsAt.cons_ (hx.c 0) (CellsAt.cons_ (hx.c 1) (CellsAt.nil _ _))) Tryd.underlying90 rfl sz90 (by decide) gt) u0 fun v0 j0 => ?_
  refine d1 4 ?_
  refine bsl j0 n0 fun v0 m0 u0 c0 y0 => ?_
  have u0 := sWI y0 2 (pB 3 0 pn)
  refine ⟨u0, ?_⟩
  refine d1 5 ?_
  refine m_appendC (f := encM) (i := 1) (meas 0 st) ([(((fromQ k (meas 0 st) (((meas 0 st).length) - (many (nth t k))) j)), ((deepQ (meas 0 st) (((meas 0 st).length) - (many (nth t k))) j)))]) (st_opV rfl (want_n rfl)) c0 y0 rfl rfl rfl rfl rfl (by omega) encM_len (encM_one _) Tryd.underlying65 zi90 rfl rfl (own_lnews (f := encM) (y0.res (i := 4) rfl)) rfl (by (simp only [List.length_cons, List.length_nil]; omega)) (by decide) fun u0 m0 v0 j0 n0 f1 o0 => ?_
  have n0 : ((meas 0 st).take (((meas 0 st).length) - (many (nth t k))) ++ ([(((fromQ k (meas 0 st) (((meas 0 st).length) - (many (nth t k))) j)), ((deepQ (meas 0 st) (((meas 0 st).length) - (many (nth t k))) j)))]) : List (Int × Int)).length = ((meas 0 st).length + 1) - (many (nth t k)) := by (simp only [List.length_append, List.length_take, List.length_cons, List.length_nil]; omega)
  have n0 := o0.erase 4
  have o0 := sWI n0 2 (pB 3 0 pn)
  refine ⟨o0, ?_⟩
  refine dR [6] f1 fun o0 m0 => ?_
  refine wpAnyH_done (by kernel_rfl) (x0 _ _ ?_) _
  refine xn q0 <| c_region ?_
  refine lR m0 fun q0 x0 => ?_
  refine bsl x0 n0 fun q0 m0 o0 f1 u0 => ?_
  refine m_appendF (f := encM) (i := 0) (allTs 0 st) ([(((fromQ k (meas 0 st) (((meas 0 st).length) - (many (nth t k))) j)), ((deepQ (meas 0 st) (((meas 0 st).length) - (many (nth t k))) j)))]) sv f1 u0 rfl rfl rfl rfl rfl encM_len (encM_one _) Tryd.underlying65 zi90 rfl rfl (own_lnews (f := encM) (u0.res (i := 4) rfl)) rfl (by (simp only [List.length_cons, List.length_nil]; omega)) (by decide) fun o0 m0 q0 x0 n0 y0 c0 => ?_
  have n0 : ((allTs 0 st) ++ ([(((fromQ k (meas 0 st) (((meas 0 st).length) - (many (nth t k))) j)), ((deepQ (meas 0 st) (((meas 0 st).length) - (many (nth t k))) j)))]) : List (Int × Int)).length = (allTs 0 st).length + 1 := by (simp only [List.length_append, List.length_take, List.length_cons, List.length_nil]; done)
  have n0 := c0.erase 4
  refine asg y0 fun c0 m0 => ?_
  refine wpList_nil ?_
  refine x_block_n <| xn b0 <| c_region ?_
  refine adi ((k + 1 : Nat) : Int) m0 fun b0 c0 => ?_
  refine mv c0 fun b0 m0 => ?_
  refine wpList_nil ?_
  obtain ⟨st', hp, hpl⟩ := push_some (st := st) (n := nth t k) (by assumption) (by omega)
  obtain ⟨hm1, hm2⟩ := push_meas hp hfl
  have hjq : j = many (nth t k) := by omega
  have b0 : (allTs 0 st) ++ ([(((fromQ k (meas 0 st) (((meas 0 st).length) - (many (nth t k))) j)), ((deepQ (meas 0 st) (((meas 0 st).length) - (many (nth t k))) j)))]) = allTs 0 st' := by rw [hm2, hjq]; try simp only [meas_length]
  have c0 := m0
  have m0 := n0
  rw [b0] at c0 m0
  have b0 : (meas 0 st).take (((meas 0 st).length) - (many (nth t k))) ++ ([(((fromQ k (meas 0 st) (((meas 0 st).length) - (many (nth t k))) j)), ((deepQ (meas 0 st) (((meas 0 st).length) - (many (nth t k))) j)))]) = meas 0 st' := by rw [hm1, hjq]; try simp only [meas_length]
  have n0 := c0
  have c0 := m0
  rw [b0] at n0 c0
  have b0 := c0.erase 3
  have c0 := b0.erase 2
  have b0 := c0.forget 2
  exact ⟨_, by omega, k + 1, st', q0, x0, v0, j0, (n0.sub (rc4 (rc rfl (rc rfl rnl)))), b0, by omega, (scan_step hsc (by omega)).trans hp, rfl⟩
 refine wcf i0 (decide_eq_false h0) fun b0 => ?_
 refine wp_exit ?_
 refine x_then_e ?_
 refine x_then_e ?_
 refine x_block_eq ?_
 refine xn f0 <| wsc fun f0 h0 => lR b0 fun f0 i0 => ?_
 refine wn h0 <| wp_ret <| er2 i0 ?_
 have i0 : measL t = allTs 0 st := measL_end (by rw [← hsc, List.take_of_length_le (by omega)])
 rw [i0]
 have i0 := d0.pub 0 (dRow 2 Aa ((allTs 0 st).length) ca (encMs (allTs 0 st)))
 refine ⟨Aa, ca, ?_, i0.fr, i0.rx 2⟩
 exact ret_t2 rfl (ret_b (by (rw [measB_end (by rw [← hsc, List.take_of_length_le (by omega)]), meas_length]; done)))
theorem look_calls (w0 : World) (Z : Nat → Prop) (hZ : ∀ k, Z k → k < w0.heap.size) (tA : Option Addr) (tc : Nat) (t : List Nd) (hShp : Shapes w0 Z) (ht : (dRow 4 tA t.length tc (encNs t)).φ w0 Z) (hsm : sml t := by first | assumption | omega | (simp <;> omega)) (hl : t.length ≤ 1000000 := by first | assumption | omega | (simp <;> omega)) :
    Calls Tryd.prog 35 [.slice tA t.length tc].toArray w0 (fun e w' => ∃ (rA0 : Option Addr) (rc0 : Nat), e = .returned (.tuple #[.slice rA0 (lookL t).length rc0, .int .i64 (chk t)]) ∧ Fr none_ w0 w' ∧ (dRow 2 rA0 ((lookL t).length) rc0 (encMs (lookL t))).φ w' (nxt Z w0 w')) := by
 have b0 := s0 (M := none_) hZ (zc (d := dShapes) hShp (zc ht zn))
 refine c_enter Tryd.func35 rfl Tryd.ntmps35 rfl fun c0 d0 => ?_
 refine wsc fun c0 f0 => lR d0 fun c0 h0 => ?_
 refine wn f0 <| wp_seq_k fun f0 c0 => wsc fun f0 d0 => lR h0 fun f0 i0 => ?_
 refine wn d0 ?_
 rcases Decidable.em (4000 < ((t.length : Nat) : Int)) with d0 | d0
 ·
  refine wct i0 (decide_eq_true d0) fun f0 => ?_
  refine wsc fun h0 j0 => lR f0 fun h0 k0 => ?_
  refine wn j0 <| wp_ret <| x_then_r <| er2 k0 ?_
  have k0 : lookL t = [] := lookL_bad (by rw [chk_size (by omega)]; omega)
  rw [k0]
  refine ⟨none, 0, ?_, b0.fr, ⟨Nat.le_refl _, RowI.nil _ _ _ _⟩⟩
  exact ret_t2 rfl (ret_i (by first | exact (chk_size (by omega)).symm))
 refine wcf i0 (decide_eq_false d0) fun k0 => ?_
 refine wp_skip <| xn c0 <| wsc fun c0 d0 => mv k0 fun c0 i0 => ?_
 have c0 := b0.nf
 refine kcl i0 ok54 (measured_calls _ _ c0.il _ _ _ (c0.g 0) (c0.g 1)) ?_
 rintro i0 b0 ⟨k0, j0, rfl, h0, f0⟩
 have b0 := c0.below h0.below
 have h0 := c0.dN b0 f0
 refine ⟨_, rfl, fun b0 f0 => ?_⟩
 refine lR f0 fun b0 c0 => ?_
 refine wn d0 <| wp_seq_k fun d0 b0 => wp_block ?_
 refine wsc fun d0 f0 => lR c0 fun d0 i0 => ?_
 refine wn f0 ?_
 rcases Bool.eq_false_or_eq_true (measB t) with f0 | f0
 ·
  have hpos := measL_pos f0
  have hml := measL_length f0
  refine wcfb i0 rfl (by rw [f0]; rfl) fun d0 => ?_
  refine wsc fun c0 m0 => lR d0 fun c0 n0 => ?_
  refine sbi ((((measL t).length : Nat) : Int) - 1) n0 fun c0 d0 => ?_
  refine ix (((measL t).length) - (1)) ((((measL t).length) - (1)) * 2) d0 (ms_elem (t := measL t) (k := ((measL t).length) - (1)) (h0.row (i := 2) rfl).2 (by omega)).some_ fun c0 n0 => ?_
  refine m_fieldE (j' := (((measL t).length) - (1)) * 2 + 1) sv n0 rfl rfl rfl (ms_elem (t := measL t) (k := ((measL t).length) - (1)) (h0.row (i := 2) rfl).2 (by omega)).some_ Tryd.underlying90 rfl sz3 rfl rfl (by decide) fun c0 d0 => ?_
  refine lde 1 ((((measL t).length) - (1)) * 2) d0 (ms_elem (t := measL t) (k := ((measL t).length) - (1)) (h0.row (i := 2) rfl).2 (by omega)) fun c0 n0 => ?_
  refine lR n0 fun c0 d0 => ?_
  refine wn m0 ?_
  rcases Decidable.em (60 < (((nthM (measL t) (((measL t).length) - (1))).2))) with m0 | m0
  ·
   refine wct d0 (decide_eq_true m0) fun c0 => ?_
   refine wsc fun n0 o0 => lR c0 fun n0 p0 => ?_
   refine wn o0 <| wp_ret <| x_block_r <| x_then_r <| er2 p0 ?_
   have p0 : lookL t = [] := lookL_bad (by (rw [chk_deep (by omega) (by assumption) (by assumption)]; omega))
   rw [p0]
   refine ⟨none, 0, ?_, h0.fr, ⟨Nat.le_refl _, RowI.nil _ _ _ _⟩⟩
   exact ret_t2 rfl (ret_i (by first | exact (chk_deep (by omega) (by assumption) (by assumption)).symm))
  refine wcf d0 (decide_eq_false m0) fun p0 => ?_
  refine wp_skip <| x_block_n <| xn b0 <| wsc fun b0 m0 => lR p0 fun b0 d0 => ?_
  refine wn m0 <| wp_ret <| er2 d0 ?_
  have d0 : lookL t = measL t := lookL_good (chk_good (by omega) (by assumption) (by assumption))
  rw [d0]
  refine ⟨k0, j0, ?_, h0.fr, h0.rx 2⟩
  exact ret_t2 rfl (ret_i (by first | exact (chk_good (by omega) (by assumption) (by assumption)).symm))
 refine wctb i0 rfl (by rw [f0]; rfl) fun j0 => ?_
 refine wsc fun f0 i0 => lR j0 fun f0 k0 => ?_
 refine wn i0 <| wp_ret <| x_block_r <| x_then_r <| er2 k0 ?_
 have k0 : lookL t = [] := lookL_bad (by (rw [chk_form (by omega) (by assumption)]; omega))
 rw [k0]
 refine ⟨none, 0, ?_, h0.fr, ⟨Nat.le_refl _, RowI.nil _ _ _ _⟩⟩
 exact ret_t2 rfl (ret_i (by first | exact (chk_form (by omega) (by assumption)).symm))
theorem check_calls (w0 : World) (Z : Nat → Prop) (hZ : ∀ k, Z k → k < w0.heap.size) (tA : Option Addr) (tc : Nat) (t : List Nd) (hShp : Shapes w0 Z) (ht : (dRow 4 tA t.length tc (encNs t)).φ w0 Z) (hsm : sml t := by first | assumption | omega | (simp <;> omega)) (hl : t.length ≤ 1000000 := by first | assumption | omega | (simp <;> omega)) :
    Calls Tryd.prog 27 [.slice tA t.length tc].toArray w0 (fun e w' => e = .returned (.int .i64 (chk t)) ∧ Fr none_ w0 w') := by
 have b0 := s0 (M := none_) hZ (zc (d := dShapes) hShp (zc ht zn))
 refine c_enter Tryd.func27 rfl Tryd.ntmps27 rfl fun c0 d0 => ?_
 refine wsc fun c0 f0 => aw d0 f0 fun c0 h0 => ?_
 refine wsc fun f0 c0 => mv h0 fun f0 d0 => ?_
 have f0 := b0.nf
 refine kcl d0 ok35 (look_calls _ _ f0.il _ _ _ (f0.g 0) (f0.g 1)) ?_
 rintro d0 b0 ⟨h0, i0, rfl, j0, k0⟩
 have i0 := f0.below j0.below
 have j0 := f0.dN i0 k0
 refine ⟨_, rfl, fun i0 k0 => ?_⟩
 refine lR k0 fun i0 f0 => ?_
 refine wn c0 <| wsc fun c0 i0 => lR f0 fun c0 k0 => ?_
 refine wn i0 <| wp_ret <| er1 k0 ?_
 refine ⟨?_, j0.fr⟩
 exact cr (ret_i (by rfl))
theorem cloneI_calls (w0 : World) (Z : Nat → Prop) (hZ : ∀ k, Z k → k < w0.heap.size) (tA : Option Addr) (tc : Nat) (t : List Int) (ht : (dRow 1 tA t.length tc (encIs t)).φ w0 Z) (hl : t.length ≤ 1000000 := by first | assumption | omega | (simp <;> omega)) :
    Calls Tryd.prog 101 [.slice tA t.length tc].toArray w0 (fun e w' => ∃ (rA0 : Option Addr) (rc0 : Nat), e = .returned (.slice rA0 (t).length rc0) ∧ Fr none_ w0 w' ∧ (dRow 1 rA0 ((t).length) rc0 (encIs t)).φ w' (nxt Z w0 w')) := by
 have b0 := s0 (M := none_) hZ (zc ht zn)
 refine c_enter Tryd.func101 rfl Tryd.ntmps101 rfl fun c0 d0 => ?_
 refine wsc fun c0 f0 => aw d0 f0 fun c0 h0 => ?_
 refine wp_seq_k fun f0 c0 => wsc fun f0 d0 => mv h0 fun f0 i0 => ?_
 refine r_eqlNil sv i0 rfl rfl rfl rfl Tryd.underlying82 (by decide) fun f0 h0 => ?_
 refine wn d0 ?_
 rcases Bool.eq_false_or_eq_true (Option.isNone tA) with d0 | d0
 ·
  refine wct h0 d0 fun f0 => ?_
  refine wsc fun i0 j0 => aw f0 j0 fun i0 k0 => ?_
  refine wp_ret <| x_then_r <| er1 k0 ?_
  have k0 : t = [] := List.eq_nil_of_length_eq_zero (nil_len ht (by assumption))
  rw [k0]
  refine ⟨none, 0, ?_, b0.fr, ⟨Nat.le_refl _, RowI.nil _ _ _ _⟩⟩
  exact cr rfl
 refine wcf h0 d0 fun k0 => ?_
 refine wp_skip <| xn c0 <| wsc fun c0 d0 => bsl k0 b0 fun c0 h0 j0 i0 f0 => ?_
 refine mv i0 fun j0 h0 => ?_
 refine m_appendF (f := encI) (i := 0) ([]) (t) sv h0 f0 rfl rfl rfl rfl rfl encI_len (encI_one _) Tryd.underlying82 zi3 rfl rfl (f0.row (i := 0) rfl).2.news rfl (by (simp only [List.length_cons, List.length_nil]; omega)) (by decide) fun j0 i0 c0 k0 b0 m0 n0 => ?_
 have b0 : (([]) ++ t : List Int).length = t.length := by (simp only [List.length_append, List.length_take, List.length_cons, List.length_nil]; omega)
 refine aw m0 d0 fun b0 i0 => ?_
 refine wp_ret <| er1 i0 ?_
 have i0 : t = ([]) ++ t := by simp
 rw [i0]
 have i0 := n0.pub 0 (dRow 1 c0 ((([]) ++ t : List Int).length) k0 (encIs (([]) ++ t)))
 refine ⟨c0, k0, ?_, i0.fr, i0.rx 1⟩
 exact cr rfl
theorem cloneN_calls (w0 : World) (Z : Nat → Prop) (hZ : ∀ k, Z k → k < w0.heap.size) (tA : Option Addr) (tc : Nat) (t : List Nd) (ht : (dRow 4 tA t.length tc (encNs t)).φ w0 Z) (hl : t.length ≤ 1000000 := by first | assumption | omega | (simp <;> omega)) :
    Calls Tryd.prog 38 [.slice tA t.length tc].toArray w0 (fun e w' => ∃ (rA0 : Option Addr) (rc0 : Nat), e = .returned (.slice rA0 (t).length rc0) ∧ Fr none_ w0 w' ∧ (Res.row rA0 (t).length rc0 39 4 (encNs t)).holds w' ∧ (∀ k, (Res.row rA0 (t).length rc0 39 4 (encNs t)).blk = some k → w0.heap.size ≤ k)) := by
 have b0 := s0 (M := none_) hZ (zc ht zn)
 refine c_enter Tryd.func38 rfl Tryd.ntmps38 rfl fun c0 d0 => ?_
 refine wsc fun c0 f0 => aw d0 f0 fun c0 h0 => ?_
 refine wp_seq_k fun f0 c0 => wsc fun f0 d0 => mv h0 fun f0 i0 => ?_
 refine r_eqlNil sv i0 rfl rfl rfl rfl Tryd.underlying22 (by decide) fun f0 h0 => ?_
 refine wn d0 ?_
 rcases Bool.eq_false_or_eq_true (Option.isNone tA) with d0 | d0
 ·
  refine wct h0 d0 fun f0 => ?_
  refine wsc fun i0 j0 => aw f0 j0 fun i0 k0 => ?_
  refine wp_ret <| x_then_r <| er1 k0 ?_
  have k0 : t = [] := List.eq_nil_of_length_eq_zero (nil_len ht (by assumption))
  rw [k0]
  refine ⟨none, 0, ?_, b0.fr, nil_row1, nil_row2⟩
  exact cr rfl
 refine wcf h0 d0 fun k0 => ?_
 refine wp_skip <| xn c0 <| wsc fun c0 d0 => bsl k0 b0 fun c0 h0 j0 i0 f0 => ?_
 refine mv i0 fun j0 h0 => ?_
 refine m_appendF (f := encN) (i := 0) ([]) (t) sv h0 f0 rfl rfl rfl rfl rfl encN_len (encN_one _) Tryd.underlying22 zi39 rfl rfl (f0.row (i := 0) rfl).2.news rfl (by (simp only [List.length_cons, List.length_nil]; omega)) (by decide) fun j0 i0 c0 k0 b0 m0 n0 => ?_
 have b0 : (([]) ++ t : List Nd).length = t.length := by (simp only [List.length_append, List.length_take, List.length_cons, List.length_nil]; omega)
 refine aw m0 d0 fun b0 i0 => ?_
 refine wp_ret <| er1 i0 ?_
 have i0 : t = ([]) ++ t := by simp
 rw [i0]
 refine ⟨c0, k0, ?_, n0.fr, (n0.res (i := 0) rfl), (n0.fresh (i := 0) rfl)⟩
 exact cr rfl
end Go.Proofs.YtpfmnpaifchleaaDoor
