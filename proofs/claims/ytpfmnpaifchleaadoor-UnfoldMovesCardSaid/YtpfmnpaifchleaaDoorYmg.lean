import Derived.Test.YtpfmnpaifchleaaDoorYmf
namespace Go.Proofs.YtpfmnpaifchleaaDoor
open Go Go.RowKit
set_option linter.unusedSimpArgs false
set_option linter.unusedVariables false
set_option maxRecDepth 100000
set_option maxHeartbeats 1000000
theorem bonelim_calls (w0 : World) (Z : Nat → Prop) (hZ : ∀ k, Z k → k < w0.heap.size) (n : Nd) (tA : Option Addr) (tc : Nat) (t : List Nd) (consA : Option Addr) (consc : Nat) (cons : List Tl) (ht : (dRow 4 tA t.length tc (encNs t)).φ w0 Z) (hcons : (dRow 1 consA cons.length consc (encTs cons)).φ w0 Z) (hconss : (dAllT cons).φ w0 Z) (hst : sml t := by first | assumption | omega | (simp <;> omega)) (hlt : t.length ≤ 5000 := by first | assumption | omega | (simp <;> omega)) (hct : chk t = 0 := by first | assumption | omega | (simp <;> omega)) (hnt : n = nth t (t.length - 1) := by first | assumption | omega | (simp <;> omega)) (h27 : n.K = 27 := by first | assumption | omega | (simp <;> omega)) (hcs : ∀ l ∈ lstsT cons, ∀ y ∈ l, sml y ∧ y.length ≤ 4000 := by first | assumption | omega | (simp <;> omega)) (hc4 : cons.length ≤ 1000 := by first | assumption | omega | (simp <;> omega)) :
    Calls Tryd.prog 50 [.agg #[.int .i64 (n.K), .int .i64 (n.N), .int .i64 (n.M), .string n.S], .slice tA t.length tc, .slice consA cons.length consc].toArray w0 (fun e w' => ∃ (rA0 : Option Addr) (rc0 : Nat) (rL0 : List Nd), e = .returned (.agg #[.slice rA0 rL0.length rc0, .int .i64 ((bEl n t (lstsT cons)).2)]) ∧ Fr none_ w0 w' ∧ (dRow 4 rA0 rL0.length rc0 (encNs rL0)).φ w' (nxt Z w0 w') ∧ rL0 = (bEl n t (lstsT cons)).1) := by
 have b0 := s0 (M := none_) hZ (zc ht (zc hcons (zc hconss zn)))
 have hpt := chk_pos hct
 have hrn : right n = true := hnt ▸ right_at (meas_chk hct) (show t.length - 1 < t.length by omega)
 have hm27 := many_27 h27
 have hM9 := right_M hrn
 have c0 := many_le hrn
 have hmt : many (nth t (t.length - 1)) = n.M.toNat + 2 := hnt ▸ hm27
 have hsn : n.S.size < 1000000 := hnt ▸ hst _ (by omega)
 have hctl := lstsT_len cons
 refine c_enter Tryd.func50 rfl Tryd.ntmps50 rfl fun c0 d0 => ?_
 refine wsc fun c0 f0 => bxx d0 b0 fun c0 i0 j0 k0 m0 => ?_
 refine alc k0 m0 fun i0 c0 d0 b0 n0 => ?_
 refine wn f0 <| wsc fun f0 c0 => mv b0 fun f0 i0 => ?_
 have f0 := n0.nf
 refine kcl i0 ok46 (bparts_calls _ _ f0.il _ _ _ (f0.g 0) (hl := (by omega)) (hsm := (by exact hst)) (hb := (by exact meas_chk hct))) ?_
 rintro i0 n0 ⟨b0, m0, k0, rfl, o0, p0, q0, t0⟩
 have i0 := f0.below o0.below
 have o0 := f0.dN i0 p0
 have i0 := f0.dN o0 q0
 refine ⟨_, rfl, fun o0 q0 => ?_⟩
 have hpb : blts k0 = bP t := t0
 have hpl : k0.length = many n := by rw [← blts_len, hpb, bP_len hct, ← hnt]
 refine aw q0 c0 fun t0 o0 => ?_
 refine wp_seq_k fun c0 t0 => ?_
 obtain ⟨c0, q0, f0⟩ := i0.agree
 refine d_reg3 (n := 8) f0 5 (pB 0 0 pn) (pan_then pan_body) fun q0 i0 p0 u0 v0 x0 => ?_
 refine dR [0, 2, 3] o0 fun u0 q0 => ?_
 refine dt 4 rfl i0 q0 (want_n rfl) (fun x hx => r_add (z := (n.M + 1)) (sy q0) q0 rfl rfl rfl rfl (by decide) (by omega) (by omega) (by omega) gt) x0 fun u0 o0 => ?_
 refine d1 1 ?_
 have u0 := v0.nf
 refine kcl o0 ok31 (rparts_calls _ _ u0.il _ _ _ (u0.g 0) (hl := (by omega)) (hsm := hst) (hb := (meas_chk hct))) ?_
 rintro o0 v0 ⟨q0, x0, i0, rfl, f0, y0, z0, b1⟩
 have o0 := u0.below f0.below
 have f0 := u0.dN o0 y0
 have o0 := u0.dN f0 z0
 refine ⟨_, rfl, fun f0 z0 => ?_⟩
 have hLg := b1.trans (agA_ok hct).symm
 have hgl := (ag_len hct hLg).1
 obtain ⟨f0, u0, y0⟩ := ag_nth (k := (n.M + 1).toNat) hct hLg hst (by rw [← hnt]; omega)
 have hdz : (nthS i0 (n.M + 1).toNat).2.2 = (elD n t) := by rw [lsts_nth, b1]; rfl
 have hcd : chk (elD n t) = 0 := hdz ▸ y0
 have hpd := chk_pos y0
 have hsd : sml (elD n t) := hdz ▸ u0
 have hrx := right_at (meas_chk hcd) (show (elD n t).length - 1 < (elD n t).length by have := chk_pos hcd; omega)
 have hrx0 := con_nn hrx
 have hxK : (nth (nthS i0 (n.M + 1).toNat).2.2 ((nthS i0 (n.M + 1).toNat).2.2.length - 1)).K = (nth (elD n t) ((elD n t).length - 1)).K := by rw [hdz]
 have hxN : (nth (nthS i0 (n.M + 1).toNat).2.2 ((nthS i0 (n.M + 1).toNat).2.2.length - 1)).N = (nth (elD n t) ((elD n t).length - 1)).N := by rw [hdz]
 have hxM : (nth (nthS i0 (n.M + 1).toNat).2.2 ((nthS i0 (n.M + 1).toNat).2.2.length - 1)).M = (nth (elD n t) ((elD n t).length - 1)).M := by rw [hdz]
 have hxS : (nth (nthS i0 (n.M + 1).toNat).2.2 ((nthS i0 (n.M + 1).toNat).2.2.length - 1)).S = (nth (elD n t) ((elD n t).length - 1)).S := by rw [hdz]
 have b1 := sWI o0 5 (pB 0 0 pn)
 refine ⟨b1, ?_⟩
 obtain ⟨b1, f0, c1⟩ := o0.agree
 refine d_more (f0 5 _ rfl) ?_
 have o0 := sWI c1 8 (pB 0 0 pn)
 refine dix 5 (((n.M + 1)).toNat) ((((n.M + 1)).toNat) * 1) z0 (fun x hx => (ss_elem (t := i0) (k := ((n.M + 1)).toNat) (sdat (f0 6 _ rfl) hx.ag).2 (by omega)).some_) fun o0 f1 => ?_
 refine dle 6 0 ((((n.M + 1)).toNat) * 1) f1 (fun x hx => ss_elem (t := i0) (k := ((n.M + 1)).toNat) (sdat (f0 6 _ rfl) hx.ag).2 (by omega)) fun o0 z0 => ?_
 have o0 := c1.el 7 (((n.M + 1)).toNat)
 refine dR [7] z0 fun c1 f1 => ?_
 refine wpAnyH_done (by kernel_rfl) (p0 _ _ ?_) _
 refine xn t0 <| wsc fun t0 p0 => mv f1 fun t0 c1 => ?_
 have t0 := o0.nf
 refine kcl c1 ok28 (rroot_calls _ _ t0.il _ _ ((nthS i0 (((n.M + 1)).toNat)).2.2) (t0.g 9) (hl := (by omega)) (h0 := hpd)) ?_
 rintro c1 o0 ⟨rfl, f1⟩
 have o0 := t0.below f1.below
 refine ⟨_, rfl, fun f1 t0 => ?_⟩
 refine alc t0 o0 fun f1 c1 z0 f0 h1 => ?_
 refine sto 2 f0 h1 fun c1 f1 t0 o0 => ?_
 refine wn p0 <| wp_seq_k fun p0 c1 => wp_seq_k fun p0 h1 => ?_
 obtain ⟨p0, f0, i1⟩ := o0.agree
 refine d_reg3 (n := 35) i1 10 (pB 0 0 (pB 2 0 pn)) (pan_then (pan_then pan_body)) fun o0 j1 k1 m1 n1 o1 => ?_
 refine dR [0, 1, 2, 3] t0 fun m1 o0 => ?_
 refine d_or 4 [5, 6, 7, 8] 9 (!(decide ((nth ((nthS i0 (((n.M + 1)).toNat)).2.2) (((nthS i0 (((n.M + 1)).toNat)).2.2).length - 1)).S = n.S))) j1 o0 o1 (fun m1 t0 i1 => ?_) fun p1 s1 => ?_
 ·
  have p1 := not_f m1
  have m1 := of_decide_eq_true p1
  obtain ⟨p1, hM0⟩ := hrx0 (hxK.symm.trans m1)
  have hm26 := many_26 (show (nth (elD n t) ((elD n t).length - 1)).K = 26 from hxK.symm.trans m1)
  refine dR [4, 5, 6, 7, 8, 9] t0 fun m1 o0 => ?_
  exact i1.fin o0
 refine dR [10] s1 fun o0 i1 => ?_
 refine d_or 11 [12, 13, 14, 15] 16 (!(decide ((n.M) = ((cons.length : Nat) : Int)))) j1 i1 o1 (fun o0 s1 m1 => ?_) fun t0 t1 => ?_
 ·
  have t0 := or_fl o0
  have i1 := not_f t0
  have t0 := of_decide_eq_true i1
  obtain ⟨p1, hM0⟩ := hrx0 (hxK.symm.trans t0)
  have hm26 := many_26 (show (nth (elD n t) ((elD n t).length - 1)).K = 26 from hxK.symm.trans t0)
  have t0 := or_fr o0
  have o0 := not_f t0
  have t0 := of_decide_eq_true o0
  refine dR [11, 12, 13, 14, 15, 16] s1 fun t0 o0 => ?_
  exact m1.fin o0
 refine dR [17] t1 fun o0 m1 => ?_
 refine d_or 18 [19, 20, 21, 22] 23 (decide (((cons.length : Nat) : Int) ≤ (((nth ((nthS i0 (((n.M + 1)).toNat)).2.2) (((nthS i0 (((n.M + 1)).toNat)).2.2).length - 1)).N)))) j1 m1 o1 (fun o0 t1 t0 => ?_) fun s1 i1 => ?_
 ·
  have s1 := or_fl o0
  have m1 := or_fl s1
  have u1 := not_f m1
  have m1 := of_decide_eq_true u1
  obtain ⟨p1, hM0⟩ := hrx0 (hxK.symm.trans m1)
  have hm26 := many_26 (show (nth (elD n t) ((elD n t).length - 1)).K = 26 from hxK.symm.trans m1)
  have m1 := or_fr s1
  have s1 := not_f m1
  have m1 := of_decide_eq_true s1
  have m1 := or_fr o0
  have o0 := not_f m1
  have m1 := of_decide_eq_true o0
  refine dR [18, 19, 20, 21, 22, 23] t1 fun m1 o0 => ?_
  exact t0.fin o0
 refine dR [24] i1 fun o0 t0 => ?_
 refine d_or 25 [26, 27, 28, 29, 30, 31, 32, 33] 34 (!(decide ((((nthT cons (((((nth ((nthS i0 (((n.M + 1)).toNat)).2.2) (((nthS i0 (((n.M + 1)).toNat)).2.2).length - 1)).N))).toNat)).2.2.length : Nat) : Int) = (((nth ((nthS i0 (((n.M + 1)).toNat)).2.2) (((nthS i0 (((n.M + 1)).toNat)).2.2).length - 1)).M))))) j1 t0 o1 (fun o0 i1 m1 => ?_) fun t1 s1 => ?_
 ·
  have t1 := or_fl o0
  have t0 := or_fl t1
  have u1 := or_fl t0
  have v1 := not_f u1
  have u1 := of_decide_eq_true v1
  obtain ⟨p1, hM0⟩ := hrx0 (hxK.symm.trans u1)
  have hm26 := many_26 (show (nth (elD n t) ((elD n t).length - 1)).K = 26 from hxK.symm.trans u1)
  have u1 := or_fr t0
  have t0 := not_f u1
  have u1 := of_decide_eq_true t0
  have u1 := or_fr t1
  have t1 := not_f u1
  have u1 := of_decide_eq_true t1
  have u1 := or_fr o0
  have o0 := of_decide_eq_false u1
  refine dR [25, 26, 27] i1 fun o0 u1 => ?_
  refine dix 28 (((((nth ((nthS i0 (((n.M + 1)).toNat)).2.2) (((nthS i0 (((n.M + 1)).toNat)).2.2).length - 1)).N))).toNat) ((((((nth ((nthS i0 (((n.M + 1)).toNat)).2.2) (((nthS i0 (((n.M + 1)).toNat)).2.2).length - 1)).N))).toNat) * 1) u1 (fun x hx => (ts_elem (t := cons) (k := ((((nth ((nthS i0 (((n.M + 1)).toNat)).2.2) (((nthS i0 (((n.M + 1)).toNat)).2.2).length - 1)).N))).toNat) (sdat (f0 1 _ rfl) hx.ag).2 (by omega)).some_) fun o0 i1 => ?_
  refine dt 29 rfl j1 i1 (wt i1) (fun x hx => m_loadE (sy i1) i1 rfl rfl rfl 0 ((((((nth ((nthS i0 (((n.M + 1)).toNat)).2.2) (((nthS i0 (((n.M + 1)).toNat)).2.2).length - 1)).N))).toNat) * 1) (ts_elem (t := cons) (k := ((((nth ((nthS i0 (((n.M + 1)).toNat)).2.2) (((nthS i0 (((n.M + 1)).toNat)).2.2).length - 1)).N))).toNat) (sdat (f0 1 _ rfl) hx.ag).2 (by omega)) rfl rfl Tryd.underlying40 rfl (by decide) gt) o1 fun o0 u1 => ?_
  have o0 := n1.elT 2 (((((nth ((nthS i0 (((n.M + 1)).toNat)).2.2) (((nthS i0 (((n.M + 1)).toNat)).2.2).length - 1)).N))).toNat)
  have i1 := o0.elA 2 (((((nth ((nthS i0 (((n.M + 1)).toNat)).2.2) (((nthS i0 (((n.M + 1)).toNat)).2.2).length - 1)).N))).toNat)
  refine dR [30, 31, 32, 33, 34] u1 fun i1 o0 => ?_
  exact m1.fin o0
 refine wpAnyH_done (by kernel_rfl) (k1 _ _ ?_) _
 refine xn h1 ?_
 rcases Bool.eq_false_or_eq_true ((((((!(decide ((((nth ((nthS i0 (((n.M + 1)).toNat)).2.2) (((nthS i0 (((n.M + 1)).toNat)).2.2).length - 1)).K)) = 26))) || (!(decide ((nth ((nthS i0 (((n.M + 1)).toNat)).2.2) (((nthS i0 (((n.M + 1)).toNat)).2.2).length - 1)).S = n.S)))) || (!(decide ((n.M) = ((cons.length : Nat) : Int))))) || (decide (((cons.length : Nat) : Int) ≤ (((nth ((nthS i0 (((n.M + 1)).toNat)).2.2) (((nthS i0 (((n.M + 1)).toNat)).2.2).length - 1)).N))))) || (!(decide ((((nthT cons (((((nth ((nthS i0 (((n.M + 1)).toNat)).2.2) (((nthS i0 (((n.M + 1)).toNat)).2.2).length - 1)).N))).toNat)).2.2.length : Nat) : Int) = (((nth ((nthS i0 (((n.M + 1)).toNat)).2.2) (((nthS i0 (((n.M + 1)).toNat)).2.2).length - 1)).M))))))) with h1 | h1
 ·
  have k1 := h1
  try simp only [bz] at k1
  refine wct s1 h1 fun o0 => ?_
  refine wsc fun m1 i1 => ?_
  have m1 := n1.nf
  refine kcl o0 ok45 (bstuck_calls _ _ m1.il ) ?_
  rintro o0 u1 ⟨o1, j1, f0, rfl, t1, t0, v1⟩
  have u1 := m1.below t1.below
  have t1 := m1.dN u1 t0
  refine ⟨_, rfl, fun u1 t0 => ?_⟩
  refine sto 1 t0 t1 fun u1 m1 o0 x1 => ?_
  refine wn i1 <| wp_ret <| x_then_r <| e_cell (i := 1) (vs := [.slice o1 f0.length j1, .int .i64 (120)]) (.inl rfl) o0 x1 rfl rfl rfl rfl Tryd.underlying57 rfl sz57 ?_
  refine ⟨o1, j1, f0, ?_, x1.fr, x1.rx 11, (by have hcl : (nthLL (lstsT cons) (nth (elD n t) ((elD n t).length - 1)).N.toNat).length = (nthT cons ((nth (nthS i0 (n.M + 1).toNat).2.2 ((nthS i0 (n.M + 1).toNat).2.2.length - 1)).N).toNat).2.2.length := (by rw [hxN, ← lstsT_nth, lsts_len]); unfold bEl; rw [if_neg (by rintro ⟨o0, i1, m1, u1, t0⟩; rcases k1 with (((z | z) | z) | z) | z <;> first | exact z (hxK.trans o0) | exact z (hxS.trans i1) | omega)]; exact v1)⟩
  exact cr (ret_u (by rfl) (by (have hcl : (nthLL (lstsT cons) (nth (elD n t) ((elD n t).length - 1)).N.toNat).length = (nthT cons ((nth (nthS i0 (n.M + 1).toNat).2.2 ((nthS i0 (n.M + 1).toNat).2.2.length - 1)).N).toNat).2.2.length := (by rw [hxN, ← lstsT_nth, lsts_len]); unfold bEl; rw [if_neg (by rintro ⟨o0, i1, m1, u1, t0⟩; rcases k1 with (((z | z) | z) | z) | z <;> first | exact z (hxK.trans o0) | exact z (hxS.trans i1) | omega)])))
 have t0 := or_fl h1
 have u1 := or_fl t0
 have m1 := or_fl u1
 have k1 := or_fl m1
 have x1 := not_f k1
 have k1 := of_decide_eq_true x1
 obtain ⟨p1, hM0⟩ := hrx0 (hxK.symm.trans k1)
 have hm26 := many_26 (show (nth (elD n t) ((elD n t).length - 1)).K = 26 from hxK.symm.trans k1)
 have p1 := or_fr m1
 have m1 := not_f p1
 have p1 := of_decide_eq_true m1
 have m1 := or_fr u1
 have u1 := not_f m1
 have m1 := of_decide_eq_true u1
 have m1 := or_fr t0
 have t0 := of_decide_eq_false m1
 have t0 := or_fr h1
 have m1 := not_f t0
 have t0 := of_decide_eq_true m1
 refine wcf s1 h1 fun t0 => ?_
 refine wp_skip <| xn c1 <| wsc fun c1 h1 => mv t0 fun c1 s1 => ?_
 have c1 := n1.nf
 refine kcl s1 ok46 (bparts_calls _ _ c1.il _ _ ((nthS i0 (((n.M + 1)).toNat)).2.2) (c1.g 9) (hl := (by omega)) (hsm := (by exact u0)) (hb := (by exact meas_chk y0))) ?_
 rintro s1 y0 ⟨u0, n1, t0, rfl, m1, u1, x1, v1⟩
 have y0 := c1.below m1.below
 have m1 := c1.dN y0 u1
 have y0 := c1.dN m1 x1
 refine ⟨_, rfl, fun m1 x1 => ?_⟩
 have hqb : blts t0 = bP (elD n t) := by rw [v1, hdz]; rfl
 have hql : t0.length = many (nth (elD n t) ((elD n t).length - 1)) := by rw [← blts_len, hqb, bP_len hcd]
 have hqn : (bP (elD n t)).length = t0.length := by rw [← hqb, blts_len]
 have hqe : ∀ k, sml (nthU t0 k).1.2.2 ∧ (nthU t0 k).1.2.2.length ≤ 4000 := fun k => by have := nthD_any (p := blts t0) (Q := fun x => sml x ∧ x.length ≤ 4000) (hqb ▸ bP_all hcd hsd) ⟨sml_nil, by simp⟩ k; rw [← blts_nth] at this; exact this
 have hpall := bP_all hct hst
 have hqall := bP_all hcd hsd
 have v1 := fun k => bF1_sz (o := nthD (bP t) ((nth (elD n t) ((elD n t).length - 1)).N + 1).toNat) (q := bP (elD n t)) (nthD_any (Q := fun x => sml x ∧ x.length ≤ 4000) hpall ⟨sml_nil, by simp⟩ _) hqall k
 have m1 : (bP (elD n t)).length ≤ 8 := by rw [bP_len hcd]; exact many_le hrx
 have hgz := fun k => bG_sz (n := n) (p := bP t) (T := nthLL (lstsT cons) (nth (elD n t) ((elD n t).length - 1)).N.toNat) (q := bP (elD n t)) (o := bF1 (nthD (bP t) ((nth (elD n t) ((elD n t).length - 1)).N + 1).toNat) (bP (elD n t)) (bP (elD n t)).length) (B := 40000) hsn hpall (by rw [bP_len hct]; omega) (nthLL_all hcs _) ⟨(v1 _).1, Nat.le_trans (v1 _).2 (by have := Nat.mul_le_mul_right 4001 m1; omega)⟩ hqall k
 refine aw x1 h1 fun m1 c1 => ?_
 refine wsc fun h1 m1 => lR c1 fun h1 x1 => ?_
 refine adi (((nth ((nthS i0 (((n.M + 1)).toNat)).2.2) (((nthS i0 (((n.M + 1)).toNat)).2.2).length - 1)).N) + 1) x1 fun h1 c1 => ?_
 refine ix (((((nth ((nthS i0 (((n.M + 1)).toNat)).2.2) (((nthS i0 (((n.M + 1)).toNat)).2.2).length - 1)).N) + 1)).toNat) ((((((nth ((nthS i0 (((n.M + 1)).toNat)).2.2) (((nthS i0 (((n.M + 1)).toNat)).2.2).length - 1)).N) + 1)).toNat) * 2) c1 (us_elem (t := k0) (k := ((((nth ((nthS i0 (((n.M + 1)).toNat)).2.2) (((nthS i0 (((n.M + 1)).toNat)).2.2).length - 1)).N) + 1)).toNat) (y0.row (i := 3) rfl).2 (by omega)).some_ fun h1 x1 => ?_
 refine m_loadEN sv x1 rfl rfl rfl (us_elem (t := k0) (k := ((((nth ((nthS i0 (((n.M + 1)).toNat)).2.2) (((nthS i0 (((n.M + 1)).toNat)).2.2).length - 1)).N) + 1)).toNat) (y0.row (i := 3) rfl).2 (by omega)) Tryd.underlying57 rfl sz57 (by decide) fun h1 c1 => ?_
 have h1 := y0.elU 4 (((((nth ((nthS i0 (((n.M + 1)).toNat)).2.2) (((nthS i0 (((n.M + 1)).toNat)).2.2).length - 1)).N) + 1)).toNat)
 refine alc c1 h1 fun y0 x1 u1 s1 f0 => ?_
 refine sto 3 s1 f0 fun x1 y0 h1 c1 => ?_
 refine wn m1 <| wp_seq_k fun m1 x1 => wsc fun m1 f0 => aw h1 f0 fun m1 s1 => ?_
 refine wp_block ?_
 have f0 : (((nthU k0 (((((nth ((nthS i0 (((n.M + 1)).toNat)).2.2) (((nthS i0 (((n.M + 1)).toNat)).2.2).length - 1)).N) + 1)).toNat)).1.2.2, (((nthU k0 (((((nth ((nthS i0 (((n.M + 1)).toNat)).2.2) (((nthS i0 (((n.M + 1)).toNat)).2.2).length - 1)).N) + 1)).toNat)).2))) : Bd) = bF1 (nthD (bP t) ((nth (elD n t) ((elD n t).length - 1)).N + 1).toNat) (bP (elD n t)) 0 := by rw [hxN, show bF1 (nthD (bP t) ((nth (elD n t) ((elD n t).length - 1)).N + 1).toNat) (bP (elD n t)) 0 = nthD (bP t) ((nth (elD n t) ((elD n t).length - 1)).N + 1).toNat from rfl, ← hpb, ← blts_nth]
 have m1 : ((((nthU k0 (((((nth ((nthS i0 (((n.M + 1)).toNat)).2.2) (((nthS i0 (((n.M + 1)).toNat)).2.2).length - 1)).N) + 1)).toNat)).2)) : Int) = (bF1 (nthD (bP t) ((nth (elD n t) ((elD n t).length - 1)).N + 1).toNat) (bP (elD n t)) 0).2 := (by have q := congrArg Prod.snd f0; exact q)
 have h1 := c1.nf
 have c1 : St w0 Z none_ y0 [.box j0 39 [.int .i64 (n.K), .int .i64 (n.N), .int .i64 (n.M), .string n.S], .box d0 57 [.slice none 0 0, .int .i64 0], .box z0 39 [.int .i64 (((nth ((nthS i0 (((n.M + 1)).toNat)).2.2) (((nthS i0 (((n.M + 1)).toNat)).2.2).length - 1)).K)), .int .i64 (((nth ((nthS i0 (((n.M + 1)).toNat)).2.2) (((nthS i0 (((n.M + 1)).toNat)).2.2).length - 1)).N)), .int .i64 (((nth ((nthS i0 (((n.M + 1)).toNat)).2.2) (((nthS i0 (((n.M + 1)).toNat)).2.2).length - 1)).M)), .string ((nth ((nthS i0 (((n.M + 1)).toNat)).2.2) (((nthS i0 (((n.M + 1)).toNat)).2.2).length - 1)).S)], .box u1 57 [.slice ((nthU k0 (((((nth ((nthS i0 (((n.M + 1)).toNat)).2.2) (((nthS i0 (((n.M + 1)).toNat)).2.2).length - 1)).N) + 1)).toNat)).1.1) ((nthU k0 (((((nth ((nthS i0 (((n.M + 1)).toNat)).2.2) (((nthS i0 (((n.M + 1)).toNat)).2.2).length - 1)).N) + 1)).toNat)).1.2.2.length) ((nthU k0 (((((nth ((nthS i0 (((n.M + 1)).toNat)).2.2) (((nthS i0 (((n.M + 1)).toNat)).2.2).length - 1)).N) + 1)).toNat)).1.2.1), .int .i64 (((bF1 (nthD (bP t) ((nth (elD n t) ((elD n t).length - 1)).N + 1).toNat) (bP (elD n t)) 0).2))]] [dRow 4 tA t.length tc (encNs t), dRow 1 consA cons.length consc (encTs cons), dAllT cons, dRow 2 b0 k0.length m0 (encUs k0), dAllU k0, dAg n0 c0, dRow 1 q0 i0.length x0 (encSs i0), dAll i0, dAg v0 b1, dRow 4 ((nthS i0 (((n.M + 1)).toNat)).1) ((nthS i0 (((n.M + 1)).toNat)).2.2.length) ((nthS i0 (((n.M + 1)).toNat)).2.1) (encNs ((nthS i0 (((n.M + 1)).toNat)).2.2)), dAg f1 p0, dRow 2 u0 t0.length n1 (encUs t0), dAllU t0, dRow 4 ((nthU k0 (((((nth ((nthS i0 (((n.M + 1)).toNat)).2.2) (((nthS i0 (((n.M + 1)).toNat)).2.2).length - 1)).N) + 1)).toNat)).1.1) ((nthU k0 (((((nth ((nthS i0 (((n.M + 1)).toNat)).2.2) (((nthS i0 (((n.M + 1)).toNat)).2.2).length - 1)).N) + 1)).toNat)).1.2.2.length) ((nthU k0 (((((nth ((nthS i0 (((n.M + 1)).toNat)).2.2) (((nthS i0 (((n.M + 1)).toNat)).2.2).length - 1)).N) + 1)).toNat)).1.2.1) (encNs ((nthU k0 (((((nth ((nthS i0 (((n.M + 1)).toNat)).2.2) (((nthS i0 (((n.M + 1)).toNat)).2.2).length - 1)).N) + 1)).toNat)).1.2.2))] := by rw [← m1]; exact h1
 have h1 : (nthU k0 (((((nth ((nthS i0 (((n.M + 1)).toNat)).2.2) (((nthS i0 (((n.M + 1)).toNat)).2.2).length - 1)).N) + 1)).toNat)).1.2.2 = (bF1 (nthD (bP t) ((nth (elD n t) ((elD n t).length - 1)).N + 1).toNat) (bP (elD n t)) 0).1 := (by have q := congrArg Prod.fst f0; exact q)
 have f0 : (nthU k0 (((((nth ((nthS i0 (((n.M + 1)).toNat)).2.2) (((nthS i0 (((n.M + 1)).toNat)).2.2).length - 1)).N) + 1)).toNat)).1.2.2 = (bF1 (nthD (bP t) ((nth (elD n t) ((elD n t).length - 1)).N + 1).toNat) (bP (elD n t)) 0).1 := h1
 have h1 := s1
 have s1 := c1
 (try rw [f0] at h1); rw [f0] at s1
 refine wp_loop_ghost (fun gn ga gw => ∃ k : Nat, ∃ oAk : Option Addr, ∃ ock : Nat, (Reg ga 120 [(1000000, .bool false), (2, .slice consA cons.length consc), (3, .pointer (some ⟨j0, 0, none⟩)), (6, .pointer (some ⟨d0, 0, none⟩)), (7, .slice b0 k0.length m0), (9, .pointer (some ⟨z0, 0, none⟩)), (10, .slice u0 t0.length n1), (11, .pointer (some ⟨u1, 0, none⟩)), (12, .int .i64 ((k : Nat) : Int))]) ∧ (St w0 Z none_ gw [.box j0 39 [.int .i64 (n.K), .int .i64 (n.N), .int .i64 (n.M), .string n.S], .box d0 57 [.slice none 0 0, .int .i64 0], .box z0 39 [.int .i64 (((nth ((nthS i0 (((n.M + 1)).toNat)).2.2) (((nthS i0 (((n.M + 1)).toNat)).2.2).length - 1)).K)), .int .i64 (((nth ((nthS i0 (((n.M + 1)).toNat)).2.2) (((nthS i0 (((n.M + 1)).toNat)).2.2).length - 1)).N)), .int .i64 (((nth ((nthS i0 (((n.M + 1)).toNat)).2.2) (((nthS i0 (((n.M + 1)).toNat)).2.2).length - 1)).M)), .string ((nth ((nthS i0 (((n.M + 1)).toNat)).2.2) (((nthS i0 (((n.M + 1)).toNat)).2.2).length - 1)).S)], .box u1 57 [.slice oAk (((bF1 (nthD (bP t) ((nth (elD n t) ((elD n t).length - 1)).N + 1).toNat) (bP (elD n t)) k).1).length) ock, .int .i64 (((bF1 (nthD (bP t) ((nth (elD n t) ((elD n t).length - 1)).N + 1).toNat) (bP (elD n t)) k).2))]] [dRow 4 tA t.length tc (encNs t), dRow 1 consA cons.length consc (encTs cons), dAllT cons, dRow 2 b0 k0.length m0 (encUs k0), dAllU k0, dAg n0 c0, dRow 1 q0 i0.length x0 (encSs i0), dAll i0, dAg v0 b1, dRow 4 ((nthS i0 (((n.M + 1)).toNat)).1) ((nthS i0 (((n.M + 1)).toNat)).2.2.length) ((nthS i0 (((n.M + 1)).toNat)).2.1) (encNs ((nthS i0 (((n.M + 1)).toNat)).2.2)), dAg f1 p0, dRow 2 u0 t0.length n1 (encUs t0), dAllU t0, dRow 4 oAk (((bF1 (nthD (bP t) ((nth (elD n t) ((elD n t).length - 1)).N + 1).toNat) (bP (elD n t)) k).1).length) ock (encNs ((bF1 (nthD (bP t) ((nth (elD n t) ((elD n t).length - 1)).N + 1).toNat) (bP (elD n t)) k).1))]) ∧ (k ≤ (bP (elD n t)).length) ∧ ((bP (elD n t)).length - k) = gn) _ ⟨0, (nthU k0 (((((nth ((nthS i0 (((n.M + 1)).toNat)).2.2) (((nthS i0 (((n.M + 1)).toNat)).2.2).length - 1)).N) + 1)).toNat)).1.1, (nthU k0 (((((nth ((nthS i0 (((n.M + 1)).toNat)).2.2) (((nthS i0 (((n.M + 1)).toNat)).2.2).length - 1)).N) + 1)).toNat)).1.2.1, (h1.sub (rc4 (rc4 (rc rfl rnl)))), s1, by omega, rfl⟩ ?_
 rintro s1 h1 f0 ⟨k, oAk, ock, c1, m1, hkk, y0⟩
 have hozk := (v1 k).2
 have hoyk : k * 4001 ≤ 8 * 4001 := Nat.mul_le_mul_right _ (by omega)
 refine wp_seq_k fun v1 y0 => wsc fun v1 h1 => lR c1 fun v1 s1 => ?_
 refine wn h1 ?_
 rcases Decidable.em (((k : Nat) : Int) < ((t0.length : Nat) : Int)) with h1 | h1
 ·
  refine wct s1 (decide_eq_true h1) fun v1 => ?_
  refine wp_skip <| xn y0 <| wp_seq_k fun y0 c1 => wp_block ?_
  obtain ⟨y0, j1, o1⟩ := m1.agree
  refine dl_region2 (S := (sW f0 y0 [cel u1 0 (.slice oAk (((bF1 (nthD (bP t) ((nth (elD n t) ((elD n t).length - 1)).N + 1).toNat) (bP (elD n t)) k).1).length) ock), cel u1 1 (.int .i64 (((bF1 (nthD (bP t) ((nth (elD n t) ((elD n t).length - 1)).N + 1).toNat) (bP (elD n t)) k).2)))])) (n := 7) [6] mixed rfl o1 (pan_block (pan_then (pan_then (pan_block (pan_then pan_body))))) fun t1 y1 z1 b2 c2 => ?_
  have b2 := sWI c2 14 (pc 3 0 (pc 3 1 pn))
  refine dlt 0 rfl y1 v1 (want_n rfl) (fun x hx => m_loadCN (sy v1) v1 rfl rfl rfl (CellsAt.cons_ (hx.c 0) (CellsAt.cons_ (hx.c 1) (CellsAt.nil _ _))) Tryd.underlying57 rfl sz57 (by decide) gt) b2 fun t1 o1 => ?_
  refine dtv 1 y1 o1 fun t1 v1 => ?_
  refine dtv 2 y1 v1 fun t1 o1 => ?_
  refine dta 3 rfl y1 o1 (want_n rfl) (fun x => m_index (i := k) (j := k * 2) (sy o1) o1 rfl rfl rfl rfl Tryd.underlying76 sz57 (by omega) (by omega) (us_elem (t := t0) (k := k) (c2.row (i := 11) rfl).2 (by omega)).some_ rfl (by decide) gt) fun t1 v1 => ?_
  refine dlt 4 rfl y1 v1 (want_n rfl) (fun x hx => m_loadEN (sy v1) v1 rfl rfl rfl (us_elem (t := t0) (k := k) (sdat (j1 11 _ rfl) hx.ag).2 (by omega)) Tryd.underlying57 rfl sz57 (by decide) gt) b2 fun t1 o1 => ?_
  have t1 := c2.elU 12 k
  refine dl_one (i := 5) (by kernel_rfl) ?_
  have c2 := t1.nf
  refine kcl o1 ok63 (btwo_calls _ _ c2.il 5 0 _ _ ((bF1 (nthD (bP t) ((nth (elD n t) ((elD n t).length - 1)).N + 1).toNat) (bP (elD n t)) k).1) (((bF1 (nthD (bP t) ((nth (elD n t) ((elD n t).length - 1)).N + 1).toNat) (bP (elD n t)) k).2)) _ _ ((nthU t0 k).1.2.2) (((nthU t0 k).2)) (c2.g 13) (c2.g 15) (hla := (by omega)) (hlb := (by exact Nat.le_trans (hqe k).2 (by decide)))) ?_
  rintro o1 t1 ⟨v1, b2, y1, rfl, j1, d2, f2⟩
  have t1 := c2.below j1.below
  have j1 := c2.dN t1 d2
  refine ⟨_, rfl, fun t1 d2 => ?_⟩
  have t1 := sWI j1 14 (pc 3 0 (pc 3 1 pn))
  refine ⟨fun _ _ => t1, ?_⟩
  refine dl_one (i := 6) (by kernel_rfl) ?_
  refine sto 3 d2 j1 fun t1 c2 o1 h2 => ?_
  refine ⟨fun h => absurd h (by decide), ?_⟩
  refine dl_done (by kernel_rfl) (z1 _ _ ?_) _
  refine x_block_n <| xn c1 <| c_region ?_
  refine mv o1 fun c1 z1 => ?_
  refine adi ((k + 1 : Nat) : Int) z1 fun c1 o1 => ?_
  refine asg o1 fun c1 z1 => ?_
  refine wpList_nil ?_
  have c1 : ((y1, (((bOf ⟨5, 0, 0, ⟨#[]⟩⟩ [(((bF1 (nthD (bP t) ((nth (elD n t) ((elD n t).length - 1)).N + 1).toNat) (bP (elD n t)) k).1), (((bF1 (nthD (bP t) ((nth (elD n t) ((elD n t).length - 1)).N + 1).toNat) (bP (elD n t)) k).2))), (((nthU t0 k).1.2.2), (((nthU t0 k).2)))]).2))) : Bd) = bF1 (nthD (bP t) ((nth (elD n t) ((elD n t).length - 1)).N + 1).toNat) (bP (elD n t)) (k + 1) := by rw [f2, bF1, ← hqb, ← blts_nth]; first | done | rfl
  have f2 : ((((bOf ⟨5, 0, 0, ⟨#[]⟩⟩ [(((bF1 (nthD (bP t) ((nth (elD n t) ((elD n t).length - 1)).N + 1).toNat) (bP (elD n t)) k).1), (((bF1 (nthD (bP t) ((nth (elD n t) ((elD n t).length - 1)).N + 1).toNat) (bP (elD n t)) k).2))), (((nthU t0 k).1.2.2), (((nthU t0 k).2)))]).2)) : Int) = (bF1 (nthD (bP t) ((nth (elD n t) ((elD n t).length - 1)).N + 1).toNat) (bP (elD n t)) (k + 1)).2 := (by have q := congrArg Prod.snd c1; exact q)
  have o1 := h2.nf
  have h2 : St w0 Z none_ c2 [.box j0 39 [.int .i64 (n.K), .int .i64 (n.N), .int .i64 (n.M), .string n.S], .box d0 57 [.slice none 0 0, .int .i64 0], .box z0 39 [.int .i64 (((nth ((nthS i0 (((n.M + 1)).toNat)).2.2) (((nthS i0 (((n.M + 1)).toNat)).2.2).length - 1)).K)), .int .i64 (((nth ((nthS i0 (((n.M + 1)).toNat)).2.2) (((nthS i0 (((n.M + 1)).toNat)).2.2).length - 1)).N)), .int .i64 (((nth ((nthS i0 (((n.M + 1)).toNat)).2.2) (((nthS i0 (((n.M + 1)).toNat)).2.2).length - 1)).M)), .string ((nth ((nthS i0 (((n.M + 1)).toNat)).2.2) (((nthS i0 (((n.M + 1)).toNat)).2.2).length - 1)).S)], .box u1 57 [.slice v1 y1.length b2, .int .i64 (((bF1 (nthD (bP t) ((nth (elD n t) ((elD n t).length - 1)).N + 1).toNat) (bP (elD n t)) (k + 1)).2))]] [dRow 4 tA t.length tc (encNs t), dRow 1 consA cons.length consc (encTs cons), dAllT cons, dRow 2 b0 k0.length m0 (encUs k0), dAllU k0, dAg n0 c0, dRow 1 q0 i0.length x0 (encSs i0), dAll i0, dAg v0 b1, dRow 4 ((nthS i0 (((n.M + 1)).toNat)).1) ((nthS i0 (((n.M + 1)).toNat)).2.2.length) ((nthS i0 (((n.M + 1)).toNat)).2.1) (encNs ((nthS i0 (((n.M + 1)).toNat)).2.2)), dAg f1 p0, dRow 2 u0 t0.length n1 (encUs t0), dAllU t0, dRow 4 oAk (((bF1 (nthD (bP t) ((nth (elD n t) ((elD n t).length - 1)).N + 1).toNat) (bP (elD n t)) k).1).length) ock (encNs ((bF1 (nthD (bP t) ((nth (elD n t) ((elD n t).length - 1)).N + 1).toNat) (bP (elD n t)) k).1)), dAg f0 y0, dRow 4 ((nthU t0 k).1.1) ((nthU t0 k).1.2.2.length) ((nthU t0 k).1.2.1) (encNs ((nthU t0 k).1.2.2)), dRow 4 v1 y1.length b2 (encNs y1)] := by rw [← f2]; exact o1
  have o1 : y1 = (bF1 (nthD (bP t) ((nth (elD n t) ((elD n t).length - 1)).N + 1).toNat) (bP (elD n t)) (k + 1)).1 := (by have q := congrArg Prod.fst c1; exact q)
  have c1 : y1 = (bF1 (nthD (bP t) ((nth (elD n t) ((elD n t).length - 1)).N + 1).toNat) (bP (elD n t)) (k + 1)).1 := o1
  have o1 := z1
  have z1 := h2
  (try rw [c1] at o1); rw [c1] at z1
  have c1 := z1.forget 15
  have z1 := c1.forget 14
  have c1 := z1.forget 13
  exact ⟨_, by omega, k + 1, v1, b2, (o1.sub (rc4 (rc4 (rc rfl rnl)))), c1, by omega, rfl⟩
 refine wcf s1 (decide_eq_false h1) fun c1 => ?_
 refine wp_exit ?_
 refine x_then_e ?_
 refine x_then_e ?_
 refine x_block_eq ?_
 refine xn x1 <| wp_seq_k fun x1 h1 => wsc fun x1 s1 => aw c1 s1 fun x1 o1 => ?_
 refine wp_block ?_
 have s1 : (((bF1 (nthD (bP t) ((nth (elD n t) ((elD n t).length - 1)).N + 1).toNat) (bP (elD n t)) k).1, (((bF1 (nthD (bP t) ((nth (elD n t) ((elD n t).length - 1)).N + 1).toNat) (bP (elD n t)) k).2))) : Bd) = bG n (bP t) (nthLL (lstsT cons) (nth (elD n t) ((elD n t).length - 1)).N.toNat) (bP (elD n t)) (bF1 (nthD (bP t) ((nth (elD n t) ((elD n t).length - 1)).N + 1).toNat) (bP (elD n t)) (bP (elD n t)).length) 0 := by rw [show (bP (elD n t)).length = k by omega]; rfl
 have x1 : ((((bF1 (nthD (bP t) ((nth (elD n t) ((elD n t).length - 1)).N + 1).toNat) (bP (elD n t)) k).2)) : Int) = (bG n (bP t) (nthLL (lstsT cons) (nth (elD n t) ((elD n t).length - 1)).N.toNat) (bP (elD n t)) (bF1 (nthD (bP t) ((nth (elD n t) ((elD n t).length - 1)).N + 1).toNat) (bP (elD n t)) (bP (elD n t)).length) 0).2 := (by have q := congrArg Prod.snd s1; exact q)
 have c1 := m1.nf
 have m1 : St w0 Z none_ f0 [.box j0 39 [.int .i64 (n.K), .int .i64 (n.N), .int .i64 (n.M), .string n.S], .box d0 57 [.slice none 0 0, .int .i64 0], .box z0 39 [.int .i64 (((nth ((nthS i0 (((n.M + 1)).toNat)).2.2) (((nthS i0 (((n.M + 1)).toNat)).2.2).length - 1)).K)), .int .i64 (((nth ((nthS i0 (((n.M + 1)).toNat)).2.2) (((nthS i0 (((n.M + 1)).toNat)).2.2).length - 1)).N)), .int .i64 (((nth ((nthS i0 (((n.M + 1)).toNat)).2.2) (((nthS i0 (((n.M + 1)).toNat)).2.2).length - 1)).M)), .string ((nth ((nthS i0 (((n.M + 1)).toNat)).2.2) (((nthS i0 (((n.M + 1)).toNat)).2.2).length - 1)).S)], .box u1 57 [.slice oAk (((bF1 (nthD (bP t) ((nth (elD n t) ((elD n t).length - 1)).N + 1).toNat) (bP (elD n t)) k).1).length) ock, .int .i64 (((bG n (bP t) (nthLL (lstsT cons) (nth (elD n t) ((elD n t).length - 1)).N.toNat) (bP (elD n t)) (bF1 (nthD (bP t) ((nth (elD n t) ((elD n t).length - 1)).N + 1).toNat) (bP (elD n t)) (bP (elD n t)).length) 0).2))]] [dRow 4 tA t.length tc (encNs t), dRow 1 consA cons.length consc (encTs cons), dAllT cons, dRow 2 b0 k0.length m0 (encUs k0), dAllU k0, dAg n0 c0, dRow 1 q0 i0.length x0 (encSs i0), dAll i0, dAg v0 b1, dRow 4 ((nthS i0 (((n.M + 1)).toNat)).1) ((nthS i0 (((n.M + 1)).toNat)).2.2.length) ((nthS i0 (((n.M + 1)).toNat)).2.1) (encNs ((nthS i0 (((n.M + 1)).toNat)).2.2)), dAg f1 p0, dRow 2 u0 t0.length n1 (encUs t0), dAllU t0, dRow 4 oAk (((bF1 (nthD (bP t) ((nth (elD n t) ((elD n t).length - 1)).N + 1).toNat) (bP (elD n t)) k).1).length) ock (encNs ((bF1 (nthD (bP t) ((nth (elD n t) ((elD n t).length - 1)).N + 1).toNat) (bP (elD n t)) k).1))] := by rw [← x1]; exact c1
 have c1 : (bF1 (nthD (bP t) ((nth (elD n t) ((elD n t).length - 1)).N + 1).toNat) (bP (elD n t)) k).1 = (bG n (bP t) (nthLL (lstsT cons) (nth (elD n t) ((elD n t).length - 1)).N.toNat) (bP (elD n t)) (bF1 (nthD (bP t) ((nth (elD n t) ((elD n t).length - 1)).N + 1).toNat) (bP (elD n t)) (bP (elD n t)).length) 0).1 := (by have q := congrArg Prod.fst s1; exact q)
 have s1 : (bF1 (nthD (bP t) ((nth (elD n t) ((elD n t).length - 1)).N + 1).toNat) (bP (elD n t)) k).1 = (bG n (bP t) (nthLL (lstsT cons) (nth (elD n t) ((elD n t).length - 1)).N.toNat) (bP (elD n t)) (bF1 (nthD (bP t) ((nth (elD n t) ((elD n t).length - 1)).N + 1).toNat) (bP (elD n t)) (bP (elD n t)).length) 0).1 := c1
 have c1 := o1
 have o1 := m1
 (try rw [s1] at c1); rw [s1] at o1
 refine wp_loop_ghost (fun gn ga gw => ∃ j : Nat, ∃ oAj : Option Addr, ∃ ocj : Nat, (Reg ga 120 [(1000000, .bool false), (2, .slice consA cons.length consc), (3, .pointer (some ⟨j0, 0, none⟩)), (6, .pointer (some ⟨d0, 0, none⟩)), (7, .slice b0 k0.length m0), (9, .pointer (some ⟨z0, 0, none⟩)), (10, .slice u0 t0.length n1), (11, .pointer (some ⟨u1, 0, none⟩)), (13, .int .i64 ((j : Nat) : Int))]) ∧ (St w0 Z none_ gw [.box j0 39 [.int .i64 (n.K), .int .i64 (n.N), .int .i64 (n.M), .string n.S], .box d0 57 [.slice none 0 0, .int .i64 0], .box z0 39 [.int .i64 (((nth ((nthS i0 (((n.M + 1)).toNat)).2.2) (((nthS i0 (((n.M + 1)).toNat)).2.2).length - 1)).K)), .int .i64 (((nth ((nthS i0 (((n.M + 1)).toNat)).2.2) (((nthS i0 (((n.M + 1)).toNat)).2.2).length - 1)).N)), .int .i64 (((nth ((nthS i0 (((n.M + 1)).toNat)).2.2) (((nthS i0 (((n.M + 1)).toNat)).2.2).length - 1)).M)), .string ((nth ((nthS i0 (((n.M + 1)).toNat)).2.2) (((nthS i0 (((n.M + 1)).toNat)).2.2).length - 1)).S)], .box u1 57 [.slice oAj (((bG n (bP t) (nthLL (lstsT cons) (nth (elD n t) ((elD n t).length - 1)).N.toNat) (bP (elD n t)) (bF1 (nthD (bP t) ((nth (elD n t) ((elD n t).length - 1)).N + 1).toNat) (bP (elD n t)) (bP (elD n t)).length) j).1).length) ocj, .int .i64 (((bG n (bP t) (nthLL (lstsT cons) (nth (elD n t) ((elD n t).length - 1)).N.toNat) (bP (elD n t)) (bF1 (nthD (bP t) ((nth (elD n t) ((elD n t).length - 1)).N + 1).toNat) (bP (elD n t)) (bP (elD n t)).length) j).2))]] [dRow 4 tA t.length tc (encNs t), dRow 1 consA cons.length consc (encTs cons), dAllT cons, dRow 2 b0 k0.length m0 (encUs k0), dAllU k0, dAg n0 c0, dRow 1 q0 i0.length x0 (encSs i0), dAll i0, dAg v0 b1, dRow 4 ((nthS i0 (((n.M + 1)).toNat)).1) ((nthS i0 (((n.M + 1)).toNat)).2.2.length) ((nthS i0 (((n.M + 1)).toNat)).2.1) (encNs ((nthS i0 (((n.M + 1)).toNat)).2.2)), dAg f1 p0, dRow 2 u0 t0.length n1 (encUs t0), dAllU t0, dRow 4 oAj (((bG n (bP t) (nthLL (lstsT cons) (nth (elD n t) ((elD n t).length - 1)).N.toNat) (bP (elD n t)) (bF1 (nthD (bP t) ((nth (elD n t) ((elD n t).length - 1)).N + 1).toNat) (bP (elD n t)) (bP (elD n t)).length) j).1).length) ocj (encNs ((bG n (bP t) (nthLL (lstsT cons) (nth (elD n t) ((elD n t).length - 1)).N.toNat) (bP (elD n t)) (bF1 (nthD (bP t) ((nth (elD n t) ((elD n t).length - 1)).N + 1).toNat) (bP (elD n t)) (bP (elD n t)).length) j).1))]) ∧ (j ≤ (bP (elD n t)).length) ∧ ((bP (elD n t)).length - j) = gn) _ ⟨0, oAk, ock, (c1.sub (rc4 (rc4 (rc rfl rnl)))), o1, by omega, rfl⟩ ?_
 rintro o1 c1 s1 ⟨j, oAj, ocj, m1, x1, hkj, f0⟩
 have hozj := (hgz j).2
 have hoyj : j * 120001 ≤ 8 * 120001 := Nat.mul_le_mul_right _ (by omega)
 refine wp_seq_k fun f0 c1 => wsc fun f0 o1 => lR m1 fun f0 b2 => ?_
 refine wn o1 ?_
 rcases Decidable.em (((j : Nat) : Int) < ((t0.length : Nat) : Int)) with o1 | o1
 ·
  have hTk : nthL (nthLL (lstsT cons) (nth (elD n t) ((elD n t).length - 1)).N.toNat) j = (nthS (nthT cons (nth (nthS i0 (n.M + 1).toNat).2.2 ((nthS i0 (n.M + 1).toNat).2.2.length - 1)).N.toNat).2.2 j).2.2 := by rw [hxN, lsts_nth, lstsT_nth]
  obtain ⟨hty, htl⟩ := cons_at hcs (N := (nth (nthS i0 (n.M + 1).toNat).2.2 ((nthS i0 (n.M + 1).toNat).2.2.length - 1)).N.toNat) (k := j) (by omega) (by omega)
  refine wct b2 (decide_eq_true o1) fun f0 => ?_
  refine wp_skip <| xn c1 <| wp_seq_k fun c1 m1 => wp_block ?_
  refine wp_seq_k fun c1 v1 => ?_
  obtain ⟨c1, z1, h2⟩ := x1.agree
  refine d_reg3 (n := 12) h2 14 (pB 0 0 (pB 2 0 pn)) (pan_then (pan_block (pan_then (pan_then (pan_block (pan_then pan_body)))))) fun y1 f2 c2 y0 t1 d2 => ?_
  refine dR [0, 1, 2, 3, 4] f0 fun y1 h2 => ?_
  refine dix 5 (((((nth ((nthS i0 (((n.M + 1)).toNat)).2.2) (((nthS i0 (((n.M + 1)).toNat)).2.2).length - 1)).N))).toNat) ((((((nth ((nthS i0 (((n.M + 1)).toNat)).2.2) (((nthS i0 (((n.M + 1)).toNat)).2.2).length - 1)).N))).toNat) * 1) h2 (fun x hx => (ts_elem (t := cons) (k := ((((nth ((nthS i0 (((n.M + 1)).toNat)).2.2) (((nthS i0 (((n.M + 1)).toNat)).2.2).length - 1)).N))).toNat) (sdat (z1 1 _ rfl) hx.ag).2 (by omega)).some_) fun y1 f0 => ?_
  refine dt 6 rfl f2 f0 (want_n rfl) (fun x hx => m_loadE (sy f0) f0 rfl rfl rfl 0 ((((((nth ((nthS i0 (((n.M + 1)).toNat)).2.2) (((nthS i0 (((n.M + 1)).toNat)).2.2).length - 1)).N))).toNat) * 1) (ts_elem (t := cons) (k := ((((nth ((nthS i0 (((n.M + 1)).toNat)).2.2) (((nthS i0 (((n.M + 1)).toNat)).2.2).length - 1)).N))).toNat) (sdat (z1 1 _ rfl) hx.ag).2 (by omega)) rfl rfl Tryd.underlying40 rfl (by decide) gt) d2 fun y1 h2 => ?_
  have y1 := t1.elT 2 (((((nth ((nthS i0 (((n.M + 1)).toNat)).2.2) (((nthS i0 (((n.M + 1)).toNat)).2.2).length - 1)).N))).toNat)
  have t1 := y1.elA 2 (((((nth ((nthS i0 (((n.M + 1)).toNat)).2.2) (((nthS i0 (((n.M + 1)).toNat)).2.2).length - 1)).N))).toNat)
  refine dR [7] h2 fun y1 f0 => ?_
  obtain ⟨y1, h2, d2⟩ := t1.agree
  refine d_more (h2 14 _ rfl) ?_
  have t1 := sWI d2 17 (pB 0 0 (pB 2 0 pn))
  refine dix 8 j (j * 1) f0 (fun x hx => (ss_elem (t := (nthT cons (((((nth ((nthS i0 (((n.M + 1)).toNat)).2.2) (((nthS i0 (((n.M + 1)).toNat)).2.2).length - 1)).N))).toNat)).2.2) (k := j) (sdat (h2 15 _ rfl) hx.ag).2 (by omega)).some_) fun t1 f2 => ?_
  refine dle 9 0 (j * 1) f2 (fun x hx => ss_elem (t := (nthT cons (((((nth ((nthS i0 (((n.M + 1)).toNat)).2.2) (((nthS i0 (((n.M + 1)).toNat)).2.2).length - 1)).N))).toNat)).2.2) (k := j) (sdat (h2 15 _ rfl) hx.ag).2 (by omega)) fun t1 f0 => ?_
  have t1 := d2.el 16 j
  refine d1 10 ?_
  have d2 := t1.nf
  refine kcl f0 ok15 (rkind_calls _ _ d2.il n.S _ _ ((nthS ((nthT cons (((((nth ((nthS i0 (((n.M + 1)).toNat)).2.2) (((nthS i0 (((n.M + 1)).toNat)).2.2).length - 1)).N))).toNat)).2.2) j).2.2) (d2.g 18) (hsm := hty) (hl := (by omega))) ?_
  rintro f0 t1 ⟨rfl, f2⟩
  have f0 := d2.below f2.below
  refine ⟨_, rfl, fun f2 d2 => ?_⟩
  have f2 := sWI f0 17 (pB 0 0 (pB 2 0 pn))
  refine ⟨f2, ?_⟩
  refine dR [11] d2 fun f2 h2 => ?_
  refine wpAnyH_done (by kernel_rfl) (c2 _ _ ?_) _
  refine xn v1 <| wsc fun v1 c2 => lR h2 fun v1 f2 => ?_
  refine wn c2 ?_
  rcases Decidable.em (0 < ((kdA n.S ((nthS ((nthT cons (((((nth ((nthS i0 (((n.M + 1)).toNat)).2.2) (((nthS i0 (((n.M + 1)).toNat)).2.2).length - 1)).N))).toNat)).2.2) j).2.2)))) with c2 | c2
  ·
   have hcT : chk (nthS (nthT cons ((nth (nthS i0 (n.M + 1).toNat).2.2 ((nthS i0 (n.M + 1).toNat).2.2.length - 1)).N).toNat).2.2 j).2.2 = 0 := kd_chk (s := n.S) (by omega)
   have hTp : ∀ x ∈ ptL (nthS (nthT cons ((nth (nthS i0 (n.M + 1).toNat).2.2 ((nthS i0 (n.M + 1).toNat).2.2.length - 1)).N).toNat).2.2 j).2.2, sml x ∧ x.length ≤ 4000 := fun x hx => by rw [← agA_ok hcT] at hx; obtain ⟨o0, i1⟩ := ag_sml hty x hx; exact ⟨o0, by omega⟩
   refine wct f2 (decide_eq_true c2) fun i1 => ?_
   have o0 := f0.elT 2 (((nth ((nthS i0 (n.M + 1).toNat).2.2) (((nthS i0 (n.M + 1).toNat).2.2).length - 1)).N).toNat)
   have v1 := o0.elA 2 (((nth ((nthS i0 (n.M + 1).toNat).2.2) (((nthS i0 (n.M + 1).toNat).2.2).length - 1)).N).toNat)
   obtain ⟨o0, h2, d2⟩ := v1.agree
   refine dl_region2 (S := (sW t1 o0 [cel j0 0 (.int .i64 (n.K)), cel j0 1 (.int .i64 (n.N)), cel j0 2 (.int .i64 (n.M)), cel j0 3 (.string n.S), cel z0 0 (.int .i64 (((nth ((nthS i0 (((n.M + 1)).toNat)).2.2) (((nthS i0 (((n.M + 1)).toNat)).2.2).length - 1)).K))), cel z0 1 (.int .i64 (((nth ((nthS i0 (((n.M + 1)).toNat)).2.2) (((nthS i0 (((n.M + 1)).toNat)).2.2).length - 1)).N))), cel z0 2 (.int .i64 (((nth ((nthS i0 (((n.M + 1)).toNat)).2.2) (((nthS i0 (((n.M + 1)).toNat)).2.2).length - 1)).M))), cel z0 3 (.string ((nth ((nthS i0 (((n.M + 1)).toNat)).2.2) (((nthS i0 (((n.M + 1)).toNat)).2.2).length - 1)).S)), cel u1 0 (.slice oAj (((bG n (bP t) (nthLL (lstsT cons) (nth (elD n t) ((elD n t).length - 1)).N.toNat) (bP (elD n t)) (bF1 (nthD (bP t) ((nth (elD n t) ((elD n t).length - 1)).N + 1).toNat) (bP (elD n t)) (bP (elD n t)).length) j).1).length) ocj), cel u1 1 (.int .i64 (((bG n (bP t) (nthLL (lstsT cons) (nth (elD n t) ((elD n t).length - 1)).N.toNat) (bP (elD n t)) (bF1 (nthD (bP t) ((nth (elD n t) ((elD n t).length - 1)).N + 1).toNat) (bP (elD n t)) (bP (elD n t)).length) j).2)))])) (n := 19) [18] mixed rfl d2 (pan_block (pan_then (pan_then (pan_block (pan_then pan_body))))) fun v1 z1 j1 i2 j2 => ?_
   have i2 := sWI j2 21 (pc 0 0 (pc 0 1 (pc 0 2 (pc 0 3 (pc 2 0 (pc 2 1 (pc 2 2 (pc 2 3 (pc 3 0 (pc 3 1 pn))))))))))
   refine dlt 0 rfl z1 i1 (want_n rfl) (fun x hx => m_loadCN (sy i1) i1 rfl rfl rfl (CellsAt.cons_ (hx.c 8) (CellsAt.cons_ (hx.c 9) (CellsAt.nil _ _))) Tryd.underlying57 rfl sz57 (by decide) gt) i2 fun v1 d2 => ?_
   refine dlt 1 rfl z1 d2 (want_n rfl) (fun x hx => m_loadCN (sy d2) d2 rfl rfl rfl (CellsAt.cons_ (hx.c 0) (CellsAt.cons_ (hx.c 1) (CellsAt.cons_ (hx.c 2) (CellsAt.cons_ (hx.c 3) (CellsAt.nil _ _))))) Tryd.underlying39 rfl sz39 (by decide) gt) i2 fun v1 i1 => ?_
   refine dtv 2 z1 i1 fun v1 d2 => ?_
   refine dtv 3 z1 d2 fun v1 i1 => ?_
   refine dta 4 rfl z1 i1 (want_n rfl) (fun x => m_field (j' := 1) (sy i1) i1 rfl rfl rfl Tryd.underlying39 rfl sz3 rfl rfl (by decide) gt) fun v1 d2 => ?_
   refine dlt 5 rfl z1 d2 (want_n rfl) (fun x hx => m_loadC (sy d2) d2 rfl rfl rfl (hx.c 5) Tryd.underlying3 rfl (by decide) gt) i2 fun v1 i1 => ?_
   refine dta 6 rfl z1 i1 (want_n rfl) (fun x => m_index (i := ((((nth ((nthS i0 (((n.M + 1)).toNat)).2.2) (((nthS i0 (((n.M + 1)).toNat)).2.2).length - 1)).N))).toNat) (j := (((((nth ((nthS i0 (((n.M + 1)).toNat)).2.2) (((nthS i0 (((n.M + 1)).toNat)).2.2).length - 1)).N))).toNat) * 1) (sy i1) i1 rfl rfl rfl rfl Tryd.underlying23 sz40 (by omega) (by omega) (ts_elem (t := cons) (k := ((((nth ((nthS i0 (((n.M + 1)).toNat)).2.2) (((nthS i0 (((n.M + 1)).toNat)).2.2).length - 1)).N))).toNat) (j2.row (i := 1) rfl).2 (by omega)).some_ rfl (by decide) gt) fun v1 d2 => ?_
   refine dlt 7 rfl z1 d2 (want_n rfl) (fun x hx => m_loadE (sy d2) d2 rfl rfl rfl 0 ((((((nth ((nthS i0 (((n.M + 1)).toNat)).2.2) (((nthS i0 (((n.M + 1)).toNat)).2.2).length - 1)).N))).toNat) * 1) (ts_elem (t := cons) (k := ((((nth ((nthS i0 (((n.M + 1)).toNat)).2.2) (((nthS i0 (((n.M + 1)).toNat)).2.2).length - 1)).N))).toNat) (sdat (h2 1 _ rfl) hx.ag).2 (by omega)) rfl rfl Tryd.underlying40 rfl (by decide) gt) i2 fun v1 i1 => ?_
   refine dtv 8 z1 i1 fun v1 d2 => ?_
   refine dta 9 rfl z1 d2 (want_n rfl) (fun x => m_index (i := j) (j := j * 1) (sy d2) d2 rfl rfl rfl rfl Tryd.underlying40 sz22 (by omega) (by omega) (ss_elem (t := (nthT cons (((((nth ((nthS i0 (((n.M + 1)).toNat)).2.2) (((nthS i0 (((n.M + 1)).toNat)).2.2).length - 1)).N))).toNat)).2.2) (k := j) (j2.row (i := 15) rfl).2 (by omega)).some_ rfl (by decide) gt) fun v1 i1 => ?_
   refine dlt 10 rfl z1 i1 (want_n rfl) (fun x hx => m_loadE (sy i1) i1 rfl rfl rfl 0 (j * 1) (ss_elem (t := (nthT cons (((((nth ((nthS i0 (((n.M + 1)).toNat)).2.2) (((nthS i0 (((n.M + 1)).toNat)).2.2).length - 1)).N))).toNat)).2.2) (k := j) (sdat (h2 15 _ rfl) hx.ag).2 (by omega)) rfl rfl Tryd.underlying22 rfl (by decide) gt) i2 fun v1 d2 => ?_
   refine dtv 11 z1 d2 fun v1 i1 => ?_
   refine dtv 12 z1 i1 fun v1 d2 => ?_
   refine dta 13 rfl z1 d2 (want_n rfl) (fun x => m_index (i := j) (j := j * 2) (sy d2) d2 rfl rfl rfl rfl Tryd.underlying76 sz57 (by omega) (by omega) (us_elem (t := t0) (k := j) (j2.row (i := 11) rfl).2 (by omega)).some_ rfl (by decide) gt) fun v1 i1 => ?_
   refine dlt 14 rfl z1 i1 (want_n rfl) (fun x hx => m_loadEN (sy i1) i1 rfl rfl rfl (us_elem (t := t0) (k := j) (sdat (h2 11 _ rfl) hx.ag).2 (by omega)) Tryd.underlying57 rfl sz57 (by decide) gt) i2 fun v1 d2 => ?_
   have v1 := j2.elU 12 j
   refine dtv 15 z1 d2 fun j2 i1 => ?_
   refine dl_one (i := 16) (by kernel_rfl) ?_
   have j2 := v1.nf
   refine kcl i1 ok64 (bhyp_calls _ _ j2.il n _ _ _ _ _ ((nthS ((nthT cons (((((nth ((nthS i0 (((n.M + 1)).toNat)).2.2) (((nthS i0 (((n.M + 1)).toNat)).2.2).length - 1)).N))).toNat)).2.2) j).2.2) _ _ ((nthU t0 j).1.2.2) (((nthU t0 j).2)) ((kdA n.S ((nthS ((nthT cons (((((nth ((nthS i0 (((n.M + 1)).toNat)).2.2) (((nthS i0 (((n.M + 1)).toNat)).2.2).length - 1)).N))).toNat)).2.2) j).2.2))) (j2.g 3) (j2.g 4) (j2.g 18) (j2.g 22) (hpn := (by omega)) (hpm := (by omega)) (hpq := (hpb ▸ hpall)) (hst := hty) (hlt := htl) (hsa := (hqe j).1) (hla := (hqe j).2) (hkt := (fun q => (kd_two (by omega) q).2))) ?_
   rintro i1 v1 ⟨d2, z1, i2, rfl, h2, k2, m2⟩
   have v1 := j2.below h2.below
   have h2 := j2.dN v1 k2
   refine ⟨_, rfl, fun v1 k2 => ?_⟩
   have hzy : i2.length ≤ 120000 := by rw [m2]; exact (bHy_sz hsn (hpb ▸ hpall) (by rw [blts_len]; omega) hTp (hqe j)).2
   have v1 := sWI h2 21 (pc 0 0 (pc 0 1 (pc 0 2 (pc 0 3 (pc 2 0 (pc 2 1 (pc 2 2 (pc 2 3 (pc 3 0 (pc 3 1 pn))))))))))
   refine ⟨fun _ _ => v1, ?_⟩
   refine dl_one (i := 17) (by kernel_rfl) ?_
   have v1 := h2.nf
   refine kcl k2 ok63 (btwo_calls _ _ v1.il 5 0 _ _ ((bG n (bP t) (nthLL (lstsT cons) (nth (elD n t) ((elD n t).length - 1)).N.toNat) (bP (elD n t)) (bF1 (nthD (bP t) ((nth (elD n t) ((elD n t).length - 1)).N + 1).toNat) (bP (elD n t)) (bP (elD n t)).length) j).1) (((bG n (bP t) (nthLL (lstsT cons) (nth (elD n t) ((elD n t).length - 1)).N.toNat) (bP (elD n t)) (bF1 (nthD (bP t) ((nth (elD n t) ((elD n t).length - 1)).N + 1).toNat) (bP (elD n t)) (bP (elD n t)).length) j).2)) _ _ _ (((bHy n (blts k0) ((nthS ((nthT cons (((((nth ((nthS i0 (((n.M + 1)).toNat)).2.2) (((nthS i0 (((n.M + 1)).toNat)).2.2).length - 1)).N))).toNat)).2.2) j).2.2) (((nthU t0 j).1.2.2), (((nthU t0 j).2))) ((kdA n.S ((nthS ((nthT cons (((((nth ((nthS i0 (((n.M + 1)).toNat)).2.2) (((nthS i0 (((n.M + 1)).toNat)).2.2).length - 1)).N))).toNat)).2.2) j).2.2)))).2)) (v1.g 13) (v1.g 23) (hla := (by omega)) (hlb := (by omega))) ?_
   rintro k2 h2 ⟨j2, i1, n2, rfl, o2, p2, s2⟩
   have h2 := v1.below o2.below
   have o2 := v1.dN h2 p2
   refine ⟨_, rfl, fun h2 p2 => ?_⟩
   have h2 := sWI o2 21 (pc 0 0 (pc 0 1 (pc 0 2 (pc 0 3 (pc 2 0 (pc 2 1 (pc 2 2 (pc 2 3 (pc 3 0 (pc 3 1 pn))))))))))
   refine ⟨fun _ _ => h2, ?_⟩
   refine dl_one (i := 18) (by kernel_rfl) ?_
   refine sto 3 p2 o2 fun h2 v1 k2 t2 => ?_
   refine ⟨fun h => absurd h (by decide), ?_⟩
   refine dl_done (by kernel_rfl) (j1 _ _ ?_) _
   refine x_block_n <| xn m1 <| c_region ?_
   refine mv k2 fun j1 h2 => ?_
   refine adi ((j + 1 : Nat) : Int) h2 fun j1 k2 => ?_
   refine asg k2 fun j1 h2 => ?_
   refine wpList_nil ?_
   have j1 : ((n2, (((bOf ⟨5, 0, 0, ⟨#[]⟩⟩ [(((bG n (bP t) (nthLL (lstsT cons) (nth (elD n t) ((elD n t).length - 1)).N.toNat) (bP (elD n t)) (bF1 (nthD (bP t) ((nth (elD n t) ((elD n t).length - 1)).N + 1).toNat) (bP (elD n t)) (bP (elD n t)).length) j).1), (((bG n (bP t) (nthLL (lstsT cons) (nth (elD n t) ((elD n t).length - 1)).N.toNat) (bP (elD n t)) (bF1 (nthD (bP t) ((nth (elD n t) ((elD n t).length - 1)).N + 1).toNat) (bP (elD n t)) (bP (elD n t)).length) j).2))), (i2, (((bHy n (blts k0) ((nthS ((nthT cons (((((nth ((nthS i0 (((n.M + 1)).toNat)).2.2) (((nthS i0 (((n.M + 1)).toNat)).2.2).length - 1)).N))).toNat)).2.2) j).2.2) (((nthU t0 j).1.2.2), (((nthU t0 j).2))) ((kdA n.S ((nthS ((nthT cons (((((nth ((nthS i0 (((n.M + 1)).toNat)).2.2) (((nthS i0 (((n.M + 1)).toNat)).2.2).length - 1)).N))).toNat)).2.2) j).2.2)))).2)))]).2))) : Bd) = bG n (bP t) (nthLL (lstsT cons) (nth (elD n t) ((elD n t).length - 1)).N.toNat) (bP (elD n t)) (bF1 (nthD (bP t) ((nth (elD n t) ((elD n t).length - 1)).N + 1).toNat) (bP (elD n t)) (bP (elD n t)).length) (j + 1) := by rw [s2, m2, bG, if_pos (by rw [hTk]; exact c2), ← hqb, ← hpb, ← blts_nth t0 j, hTk]; first | done | rfl
   have s2 : ((((bOf ⟨5, 0, 0, ⟨#[]⟩⟩ [(((bG n (bP t) (nthLL (lstsT cons) (nth (elD n t) ((elD n t).length - 1)).N.toNat) (bP (elD n t)) (bF1 (nthD (bP t) ((nth (elD n t) ((elD n t).length - 1)).N + 1).toNat) (bP (elD n t)) (bP (elD n t)).length) j).1), (((bG n (bP t) (nthLL (lstsT cons) (nth (elD n t) ((elD n t).length - 1)).N.toNat) (bP (elD n t)) (bF1 (nthD (bP t) ((nth (elD n t) ((elD n t).length - 1)).N + 1).toNat) (bP (elD n t)) (bP (elD n t)).length) j).2))), (i2, (((bHy n (blts k0) ((nthS ((nthT cons (((((nth ((nthS i0 (((n.M + 1)).toNat)).2.2) (((nthS i0 (((n.M + 1)).toNat)).2.2).length - 1)).N))).toNat)).2.2) j).2.2) (((nthU t0 j).1.2.2), (((nthU t0 j).2))) ((kdA n.S ((nthS ((nthT cons (((((nth ((nthS i0 (((n.M + 1)).toNat)).2.2) (((nthS i0 (((n.M + 1)).toNat)).2.2).length - 1)).N))).toNat)).2.2) j).2.2)))).2)))]).2)) : Int) = (bG n (bP t) (nthLL (lstsT cons) (nth (elD n t) ((elD n t).length - 1)).N.toNat) (bP (elD n t)) (bF1 (nthD (bP t) ((nth (elD n t) ((elD n t).length - 1)).N + 1).toNat) (bP (elD n t)) (bP (elD n t)).length) (j + 1)).2 := (by have q := congrArg Prod.snd j1; exact q)
   have m2 := t2.nf
   have t2 : St w0 Z none_ v1 [.box j0 39 [.int .i64 (n.K), .int .i64 (n.N), .int .i64 (n.M), .string n.S], .box d0 57 [.slice none 0 0, .int .i64 0], .box z0 39 [.int .i64 (((nth ((nthS i0 (((n.M + 1)).toNat)).2.2) (((nthS i0 (((n.M + 1)).toNat)).2.2).length - 1)).K)), .int .i64 (((nth ((nthS i0 (((n.M + 1)).toNat)).2.2) (((nthS i0 (((n.M + 1)).toNat)).2.2).length - 1)).N)), .int .i64 (((nth ((nthS i0 (((n.M + 1)).toNat)).2.2) (((nthS i0 (((n.M + 1)).toNat)).2.2).length - 1)).M)), .string ((nth ((nthS i0 (((n.M + 1)).toNat)).2.2) (((nthS i0 (((n.M + 1)).toNat)).2.2).length - 1)).S)], .box u1 57 [.slice j2 n2.length i1, .int .i64 (((bG n (bP t) (nthLL (lstsT cons) (nth (elD n t) ((elD n t).length - 1)).N.toNat) (bP (elD n t)) (bF1 (nthD (bP t) ((nth (elD n t) ((elD n t).length - 1)).N + 1).toNat) (bP (elD n t)) (bP (elD n t)).length) (j + 1)).2))]] [dRow 4 tA t.length tc (encNs t), dRow 1 consA cons.length consc (encTs cons), dAllT cons, dRow 2 b0 k0.length m0 (encUs k0), dAllU k0, dAg n0 c0, dRow 1 q0 i0.length x0 (encSs i0), dAll i0, dAg v0 b1, dRow 4 ((nthS i0 (((n.M + 1)).toNat)).1) ((nthS i0 (((n.M + 1)).toNat)).2.2.length) ((nthS i0 (((n.M + 1)).toNat)).2.1) (encNs ((nthS i0 (((n.M + 1)).toNat)).2.2)), dAg f1 p0, dRow 2 u0 t0.length n1 (encUs t0), dAllU t0, dRow 4 oAj (((bG n (bP t) (nthLL (lstsT cons) (nth (elD n t) ((elD n t).length - 1)).N.toNat) (bP (elD n t)) (bF1 (nthD (bP t) ((nth (elD n t) ((elD n t).length - 1)).N + 1).toNat) (bP (elD n t)) (bP (elD n t)).length) j).1).length) ocj (encNs ((bG n (bP t) (nthLL (lstsT cons) (nth (elD n t) ((elD n t).length - 1)).N.toNat) (bP (elD n t)) (bF1 (nthD (bP t) ((nth (elD n t) ((elD n t).length - 1)).N + 1).toNat) (bP (elD n t)) (bP (elD n t)).length) j).1)), dAg s1 c1, dRow 1 ((nthT cons (((((nth ((nthS i0 (((n.M + 1)).toNat)).2.2) (((nthS i0 (((n.M + 1)).toNat)).2.2).length - 1)).N))).toNat)).1) ((nthT cons (((((nth ((nthS i0 (((n.M + 1)).toNat)).2.2) (((nthS i0 (((n.M + 1)).toNat)).2.2).length - 1)).N))).toNat)).2.2.length) ((nthT cons (((((nth ((nthS i0 (((n.M + 1)).toNat)).2.2) (((nthS i0 (((n.M + 1)).toNat)).2.2).length - 1)).N))).toNat)).2.1) (encSs ((nthT cons (((((nth ((nthS i0 (((n.M + 1)).toNat)).2.2) (((nthS i0 (((n.M + 1)).toNat)).2.2).length - 1)).N))).toNat)).2.2)), dAll ((nthT cons (((((nth ((nthS i0 (((n.M + 1)).toNat)).2.2) (((nthS i0 (((n.M + 1)).toNat)).2.2).length - 1)).N))).toNat)).2.2), dAg y0 y1, dRow 4 ((nthS ((nthT cons (((((nth ((nthS i0 (((n.M + 1)).toNat)).2.2) (((nthS i0 (((n.M + 1)).toNat)).2.2).length - 1)).N))).toNat)).2.2) j).1) ((nthS ((nthT cons (((((nth ((nthS i0 (((n.M + 1)).toNat)).2.2) (((nthS i0 (((n.M + 1)).toNat)).2.2).length - 1)).N))).toNat)).2.2) j).2.2.length) ((nthS ((nthT cons (((((nth ((nthS i0 (((n.M + 1)).toNat)).2.2) (((nthS i0 (((n.M + 1)).toNat)).2.2).length - 1)).N))).toNat)).2.2) j).2.1) (encNs ((nthS ((nthT cons (((((nth ((nthS i0 (((n.M + 1)).toNat)).2.2) (((nthS i0 (((n.M + 1)).toNat)).2.2).length - 1)).N))).toNat)).2.2) j).2.2)), dRow 1 ((nthT cons (((nth ((nthS i0 (n.M + 1).toNat).2.2) (((nthS i0 (n.M + 1).toNat).2.2).length - 1)).N).toNat)).1) ((nthT cons (((nth ((nthS i0 (n.M + 1).toNat).2.2) (((nthS i0 (n.M + 1).toNat).2.2).length - 1)).N).toNat)).2.2.length) ((nthT cons (((nth ((nthS i0 (n.M + 1).toNat).2.2) (((nthS i0 (n.M + 1).toNat).2.2).length - 1)).N).toNat)).2.1) (encSs ((nthT cons (((nth ((nthS i0 (n.M + 1).toNat).2.2) (((nthS i0 (n.M + 1).toNat).2.2).length - 1)).N).toNat)).2.2)), dAll ((nthT cons (((nth ((nthS i0 (n.M + 1).toNat).2.2) (((nthS i0 (n.M + 1).toNat).2.2).length - 1)).N).toNat)).2.2), dAg t1 o0, dRow 4 ((nthU t0 j).1.1) ((nthU t0 j).1.2.2.length) ((nthU t0 j).1.2.1) (encNs ((nthU t0 j).1.2.2)), dRow 4 d2 i2.length z1 (encNs i2), dRow 4 j2 n2.length i1 (encNs n2)] := by rw [← s2]; exact m2
   have m2 : n2 = (bG n (bP t) (nthLL (lstsT cons) (nth (elD n t) ((elD n t).length - 1)).N.toNat) (bP (elD n t)) (bF1 (nthD (bP t) ((nth (elD n t) ((elD n t).length - 1)).N + 1).toNat) (bP (elD n t)) (bP (elD n t)).length) (j + 1)).1 := (by have q := congrArg Prod.fst j1; exact q)
   have j1 : n2 = (bG n (bP t) (nthLL (lstsT cons) (nth (elD n t) ((elD n t).length - 1)).N.toNat) (bP (elD n t)) (bF1 (nthD (bP t) ((nth (elD n t) ((elD n t).length - 1)).N + 1).toNat) (bP (elD n t)) (bP (elD n t)).length) (j + 1)).1 := m2
   have m2 := h2
   have h2 := t2
   (try rw [j1] at m2); rw [j1] at h2
   have j1 := h2.forget 23
   have h2 := j1.forget 22
   have j1 := h2.forget 21
   have h2 := j1.forget 20
   have j1 := h2.forget 19
   have h2 := j1.forget 18
   have j1 := h2.forget 17
   have h2 := j1.forget 16
   have j1 := h2.forget 15
   have h2 := j1.forget 14
   have j1 := h2.forget 13
   exact ⟨_, by omega, j + 1, j2, i1, (m2.sub (rc4 (rc4 (rc rfl rnl)))), j1, by omega, rfl⟩
  refine wcf f2 (decide_eq_false c2) fun j1 => ?_
  refine wp_skip <| x_block_n <| xn m1 <| c_region ?_
  refine mv j1 fun m1 f2 => ?_
  refine adi ((j + 1 : Nat) : Int) f2 fun m1 j1 => ?_
  refine asg j1 fun m1 f2 => ?_
  refine wpList_nil ?_
  have m1 : (((bG n (bP t) (nthLL (lstsT cons) (nth (elD n t) ((elD n t).length - 1)).N.toNat) (bP (elD n t)) (bF1 (nthD (bP t) ((nth (elD n t) ((elD n t).length - 1)).N + 1).toNat) (bP (elD n t)) (bP (elD n t)).length) j).1, (((bG n (bP t) (nthLL (lstsT cons) (nth (elD n t) ((elD n t).length - 1)).N.toNat) (bP (elD n t)) (bF1 (nthD (bP t) ((nth (elD n t) ((elD n t).length - 1)).N + 1).toNat) (bP (elD n t)) (bP (elD n t)).length) j).2))) : Bd) = bG n (bP t) (nthLL (lstsT cons) (nth (elD n t) ((elD n t).length - 1)).N.toNat) (bP (elD n t)) (bF1 (nthD (bP t) ((nth (elD n t) ((elD n t).length - 1)).N + 1).toNat) (bP (elD n t)) (bP (elD n t)).length) (j + 1) := by rw [bG, if_neg (by rw [hTk]; exact c2)]
  have c2 : ((((bG n (bP t) (nthLL (lstsT cons) (nth (elD n t) ((elD n t).length - 1)).N.toNat) (bP (elD n t)) (bF1 (nthD (bP t) ((nth (elD n t) ((elD n t).length - 1)).N + 1).toNat) (bP (elD n t)) (bP (elD n t)).length) j).2)) : Int) = (bG n (bP t) (nthLL (lstsT cons) (nth (elD n t) ((elD n t).length - 1)).N.toNat) (bP (elD n t)) (bF1 (nthD (bP t) ((nth (elD n t) ((elD n t).length - 1)).N + 1).toNat) (bP (elD n t)) (bP (elD n t)).length) (j + 1)).2 := (by have q := congrArg Prod.snd m1; exact q)
  have j1 := f0.nf
  have f0 : St w0 Z none_ t1 [.box j0 39 [.int .i64 (n.K), .int .i64 (n.N), .int .i64 (n.M), .string n.S], .box d0 57 [.slice none 0 0, .int .i64 0], .box z0 39 [.int .i64 (((nth ((nthS i0 (((n.M + 1)).toNat)).2.2) (((nthS i0 (((n.M + 1)).toNat)).2.2).length - 1)).K)), .int .i64 (((nth ((nthS i0 (((n.M + 1)).toNat)).2.2) (((nthS i0 (((n.M + 1)).toNat)).2.2).length - 1)).N)), .int .i64 (((nth ((nthS i0 (((n.M + 1)).toNat)).2.2) (((nthS i0 (((n.M + 1)).toNat)).2.2).length - 1)).M)), .string ((nth ((nthS i0 (((n.M + 1)).toNat)).2.2) (((nthS i0 (((n.M + 1)).toNat)).2.2).length - 1)).S)], .box u1 57 [.slice oAj (((bG n (bP t) (nthLL (lstsT cons) (nth (elD n t) ((elD n t).length - 1)).N.toNat) (bP (elD n t)) (bF1 (nthD (bP t) ((nth (elD n t) ((elD n t).length - 1)).N + 1).toNat) (bP (elD n t)) (bP (elD n t)).length) j).1).length) ocj, .int .i64 (((bG n (bP t) (nthLL (lstsT cons) (nth (elD n t) ((elD n t).length - 1)).N.toNat) (bP (elD n t)) (bF1 (nthD (bP t) ((nth (elD n t) ((elD n t).length - 1)).N + 1).toNat) (bP (elD n t)) (bP (elD n t)).length) (j + 1)).2))]] [dRow 4 tA t.length tc (encNs t), dRow 1 consA cons.length consc (encTs cons), dAllT cons, dRow 2 b0 k0.length m0 (encUs k0), dAllU k0, dAg n0 c0, dRow 1 q0 i0.length x0 (encSs i0), dAll i0, dAg v0 b1, dRow 4 ((nthS i0 (((n.M + 1)).toNat)).1) ((nthS i0 (((n.M + 1)).toNat)).2.2.length) ((nthS i0 (((n.M + 1)).toNat)).2.1) (encNs ((nthS i0 (((n.M + 1)).toNat)).2.2)), dAg f1 p0, dRow 2 u0 t0.length n1 (encUs t0), dAllU t0, dRow 4 oAj (((bG n (bP t) (nthLL (lstsT cons) (nth (elD n t) ((elD n t).length - 1)).N.toNat) (bP (elD n t)) (bF1 (nthD (bP t) ((nth (elD n t) ((elD n t).length - 1)).N + 1).toNat) (bP (elD n t)) (bP (elD n t)).length) j).1).length) ocj (encNs ((bG n (bP t) (nthLL (lstsT cons) (nth (elD n t) ((elD n t).length - 1)).N.toNat) (bP (elD n t)) (bF1 (nthD (bP t) ((nth (elD n t) ((elD n t).length - 1)).N + 1).toNat) (bP (elD n t)) (bP (elD n t)).length) j).1)), dAg s1 c1, dRow 1 ((nthT cons (((((nth ((nthS i0 (((n.M + 1)).toNat)).2.2) (((nthS i0 (((n.M + 1)).toNat)).2.2).length - 1)).N))).toNat)).1) ((nthT cons (((((nth ((nthS i0 (((n.M + 1)).toNat)).2.2) (((nthS i0 (((n.M + 1)).toNat)).2.2).length - 1)).N))).toNat)).2.2.length) ((nthT cons (((((nth ((nthS i0 (((n.M + 1)).toNat)).2.2) (((nthS i0 (((n.M + 1)).toNat)).2.2).length - 1)).N))).toNat)).2.1) (encSs ((nthT cons (((((nth ((nthS i0 (((n.M + 1)).toNat)).2.2) (((nthS i0 (((n.M + 1)).toNat)).2.2).length - 1)).N))).toNat)).2.2)), dAll ((nthT cons (((((nth ((nthS i0 (((n.M + 1)).toNat)).2.2) (((nthS i0 (((n.M + 1)).toNat)).2.2).length - 1)).N))).toNat)).2.2), dAg y0 y1, dRow 4 ((nthS ((nthT cons (((((nth ((nthS i0 (((n.M + 1)).toNat)).2.2) (((nthS i0 (((n.M + 1)).toNat)).2.2).length - 1)).N))).toNat)).2.2) j).1) ((nthS ((nthT cons (((((nth ((nthS i0 (((n.M + 1)).toNat)).2.2) (((nthS i0 (((n.M + 1)).toNat)).2.2).length - 1)).N))).toNat)).2.2) j).2.2.length) ((nthS ((nthT cons (((((nth ((nthS i0 (((n.M + 1)).toNat)).2.2) (((nthS i0 (((n.M + 1)).toNat)).2.2).length - 1)).N))).toNat)).2.2) j).2.1) (encNs ((nthS ((nthT cons (((((nth ((nthS i0 (((n.M + 1)).toNat)).2.2) (((nthS i0 (((n.M + 1)).toNat)).2.2).length - 1)).N))).toNat)).2.2) j).2.2))] := by rw [← c2]; exact j1
  have j1 : (bG n (bP t) (nthLL (lstsT cons) (nth (elD n t) ((elD n t).length - 1)).N.toNat) (bP (elD n t)) (bF1 (nthD (bP t) ((nth (elD n t) ((elD n t).length - 1)).N + 1).toNat) (bP (elD n t)) (bP (elD n t)).length) j).1 = (bG n (bP t) (nthLL (lstsT cons) (nth (elD n t) ((elD n t).length - 1)).N.toNat) (bP (elD n t)) (bF1 (nthD (bP t) ((nth (elD n t) ((elD n t).length - 1)).N + 1).toNat) (bP (elD n t)) (bP (elD n t)).length) (j + 1)).1 := (by have q := congrArg Prod.fst m1; exact q)
  have m1 : (bG n (bP t) (nthLL (lstsT cons) (nth (elD n t) ((elD n t).length - 1)).N.toNat) (bP (elD n t)) (bF1 (nthD (bP t) ((nth (elD n t) ((elD n t).length - 1)).N + 1).toNat) (bP (elD n t)) (bP (elD n t)).length) j).1 = (bG n (bP t) (nthLL (lstsT cons) (nth (elD n t) ((elD n t).length - 1)).N.toNat) (bP (elD n t)) (bF1 (nthD (bP t) ((nth (elD n t) ((elD n t).length - 1)).N + 1).toNat) (bP (elD n t)) (bP (elD n t)).length) (j + 1)).1 := j1
  have j1 := f2
  have f2 := f0
  (try rw [m1] at j1); rw [m1] at f2
  have m1 := f2.forget 18
  have f2 := m1.forget 17
  have m1 := f2.forget 16
  have f2 := m1.forget 15
  have m1 := f2.forget 14
  exact ⟨_, by omega, j + 1, oAj, ocj, (j1.sub (rc4 (rc4 (rc rfl rnl)))), m1, by omega, rfl⟩
 refine wcf b2 (decide_eq_false o1) fun m1 => ?_
 refine wp_exit ?_
 refine x_then_e ?_
 refine x_then_e ?_
 refine x_block_eq ?_
 refine xn h1 <| wsc fun h1 o1 => lR m1 fun h1 b2 => ?_
 refine sto 1 b2 x1 fun h1 m1 j1 f2 => ?_
 refine wn o1 <| wp_ret <| e_cell (i := 1) (vs := [.slice oAj (((bG n (bP t) (nthLL (lstsT cons) (nth (elD n t) ((elD n t).length - 1)).N.toNat) (bP (elD n t)) (bF1 (nthD (bP t) ((nth (elD n t) ((elD n t).length - 1)).N + 1).toNat) (bP (elD n t)) (bP (elD n t)).length) j).1).length) ocj, .int .i64 (((bG n (bP t) (nthLL (lstsT cons) (nth (elD n t) ((elD n t).length - 1)).N.toNat) (bP (elD n t)) (bF1 (nthD (bP t) ((nth (elD n t) ((elD n t).length - 1)).N + 1).toNat) (bP (elD n t)) (bP (elD n t)).length) j).2))]) (.inl rfl) j1 f2 rfl rfl rfl rfl Tryd.underlying57 rfl sz57 ?_
 refine ⟨oAj, ocj, ((bG n (bP t) (nthLL (lstsT cons) (nth (elD n t) ((elD n t).length - 1)).N.toNat) (bP (elD n t)) (bF1 (nthD (bP t) ((nth (elD n t) ((elD n t).length - 1)).N + 1).toNat) (bP (elD n t)) (bP (elD n t)).length) j).1), ?_, f2.fr, f2.rx 13, (by have hcl : (nthLL (lstsT cons) (nth (elD n t) ((elD n t).length - 1)).N.toNat).length = (nthT cons ((nth (nthS i0 (n.M + 1).toNat).2.2 ((nthS i0 (n.M + 1).toNat).2.2.length - 1)).N).toNat).2.2.length := (by rw [hxN, ← lstsT_nth, lsts_len]); rw [show j = (bP (elD n t)).length by omega]; unfold bEl; rw [if_pos ⟨hxK.symm.trans k1, hxS.symm.trans p1, by omega, by omega, by omega⟩])⟩
 exact cr (ret_u (by rfl) (by (have hcl : (nthLL (lstsT cons) (nth (elD n t) ((elD n t).length - 1)).N.toNat).length = (nthT cons ((nth (nthS i0 (n.M + 1).toNat).2.2 ((nthS i0 (n.M + 1).toNat).2.2.length - 1)).N).toNat).2.2.length := (by rw [hxN, ← lstsT_nth, lsts_len]); rw [show j = (bP (elD n t)).length by omega]; unfold bEl; rw [if_pos ⟨hxK.symm.trans k1, hxS.symm.trans p1, by omega, by omega, by omega⟩])))
theorem brule_calls (w0 : World) (Z : Nat → Prop) (hZ : ∀ k, Z k → k < w0.heap.size) (tA : Option Addr) (tc : Nat) (t : List Nd) (consA : Option Addr) (consc : Nat) (cons : List Tl) (ht : (dRow 4 tA t.length tc (encNs t)).φ w0 Z) (hcons : (dRow 1 consA cons.length consc (encTs cons)).φ w0 Z) (hconss : (dAllT cons).φ w0 Z) (hst : sml t := by first | assumption | omega | (simp <;> omega)) (hlt : t.length ≤ 5000 := by first | assumption | omega | (simp <;> omega)) (hct : chk t = 0 := by first | assumption | omega | (simp <;> omega)) (hcs : ∀ l ∈ lstsT cons, ∀ y ∈ l, sml y ∧ y.length ≤ 4000 := by first | assumption | omega | (simp <;> omega)) (hc4 : cons.length ≤ 1000 := by first | assumption | omega | (simp <;> omega)) :
    Calls Tryd.prog 26 [.slice tA t.length tc, .slice consA cons.length consc].toArray w0 (fun e w' => ∃ (rA0 : Option Addr) (rc0 : Nat) (rL0 : List Nd), e = .returned (.agg #[.slice rA0 rL0.length rc0, .int .i64 ((bRu t (lstsT cons)).2)]) ∧ Fr none_ w0 w' ∧ (dRow 4 rA0 rL0.length rc0 (encNs rL0)).φ w' (nxt Z w0 w') ∧ rL0 = (bRu t (lstsT cons)).1) := by
 have b0 := s0 (M := none_) hZ (zc ht (zc hcons (zc hconss zn)))
 have hpt := chk_pos hct
 have hrn : right (nth t (t.length - 1)) = true := right_at (meas_chk hct) (show t.length - 1 < t.length by omega)
 have hM9 := right_M hrn
 have c0 := many_le hrn
 have hsn : (nth t (t.length - 1)).S.size < 1000000 := hst _ (by omega)
 have htA : tgA t = tgK (nth t (t.length - 1)) := if_pos hct
 refine c_enter Tryd.func26 rfl Tryd.ntmps26 rfl fun c0 d0 => ?_
 refine wsc fun c0 f0 => alc d0 b0 fun c0 i0 j0 k0 m0 => ?_
 refine wn f0 <| wsc fun f0 j0 => mv k0 fun f0 i0 => ?_
 have f0 := m0.nf
 refine kcl i0 ok13 (rtarget_calls _ _ f0.il _ _ _ (f0.g 0) (hsm := hst) (hl := (by omega))) ?_
 rintro i0 m0 ⟨rfl, k0⟩
 have m0 := f0.below k0.below
 refine ⟨_, rfl, fun k0 f0 => ?_⟩
 refine aw f0 j0 fun k0 i0 => ?_
 refine wp_seq_k fun j0 k0 => wsc fun j0 f0 => lR i0 fun j0 c0 => ?_
 refine wn f0 ?_
 rcases Decidable.em (((tgA t)) < 0) with f0 | f0
 ·
  refine wct c0 (decide_eq_true f0) fun j0 => ?_
  refine wsc fun i0 d0 => ?_
  have i0 := m0.nf
  refine kcl j0 ok45 (bstuck_calls _ _ i0.il ) ?_
  rintro j0 b0 ⟨n0, o0, p0, rfl, q0, t0, u0⟩
  have b0 := i0.below q0.below
  have q0 := i0.dN b0 t0
  refine ⟨_, rfl, fun b0 t0 => ?_⟩
  refine sto 0 t0 q0 fun b0 i0 j0 v0 => ?_
  refine wn d0 <| wp_ret <| x_then_r <| e_cell (i := 0) (vs := [.slice n0 p0.length o0, .int .i64 (120)]) (.inl rfl) j0 v0 rfl rfl rfl rfl Tryd.underlying57 rfl sz57 ?_
  refine ⟨n0, o0, p0, ?_, v0.fr, v0.rx 3, (by rw [bRu, if_pos (htA ▸ f0)]; exact u0)⟩
  exact cr (ret_u (by rfl) (by (rw [bRu, if_pos (htA ▸ f0)]; first | done | rfl)))
 have htn : ¬ tgK (nth t (t.length - 1)) < 0 := htA ▸ f0
 have htm := tg_many hct htn
 have hcz := tg_ok hct htn
 refine wcf c0 (decide_eq_false f0) fun v0 => ?_
 refine wp_skip <| xn k0 <| wsc fun k0 f0 => mv v0 fun k0 c0 => ?_
 have k0 := m0.nf
 refine kcl c0 ok28 (rroot_calls _ _ k0.il _ _ _ (k0.g 0) (hl := (by omega)) (h0 := (by exact hpt))) ?_
 rintro c0 m0 ⟨rfl, v0⟩
 have m0 := k0.below v0.below
 refine ⟨_, rfl, fun v0 k0 => ?_⟩
 refine alc k0 m0 fun v0 c0 u0 p0 o0 => ?_
 refine sto 1 p0 o0 fun u0 c0 v0 k0 => ?_
 refine wn f0 <| wsc fun f0 c0 => mv v0 fun f0 u0 => ?_
 have f0 := k0.nf
 refine kcl u0 ok46 (bparts_calls _ _ f0.il _ _ _ (f0.g 0) (hl := (by omega)) (hsm := (by exact hst)) (hb := (by exact meas_chk hct))) ?_
 rintro u0 k0 ⟨v0, o0, p0, rfl, m0, n0, j0, d0⟩
 have o0 := f0.below m0.below
 have m0 := f0.dN o0 n0
 have o0 := f0.dN m0 j0
 refine ⟨_, rfl, fun m0 j0 => ?_⟩
 have hpb : blts p0 = bP t := d0
 have hpl : p0.length = many (nth t (t.length - 1)) := by rw [← blts_len, hpb, bP_len hct]
 have hpall := bP_all hct hst
 have hpe : ∀ k, sml (nthU p0 k).1.2.2 ∧ (nthU p0 k).1.2.2.length ≤ 4000 := fun k => by have := nthD_any (p := blts p0) (Q := fun x => sml x ∧ x.length ≤ 4000) (hpb ▸ hpall) ⟨sml_nil, by simp⟩ k; rw [← blts_nth] at this; exact this
 refine aw j0 c0 fun d0 m0 => ?_
 refine wsc fun c0 d0 => mv m0 fun c0 j0 => ?_
 have c0 := o0.nf
 refine kcl j0 ok31 (rparts_calls _ _ c0.il _ _ _ (c0.g 0) (hl := (by omega)) (hsm := hst) (hb := (meas_chk hct))) ?_
 rintro j0 o0 ⟨m0, f0, n0, rfl, v0, k0, u0, i0⟩
 have f0 := c0.below v0.below
 have v0 := c0.dN f0 k0
 have f0 := c0.dN v0 u0
 refine ⟨_, rfl, fun v0 u0 => ?_⟩
 have hLg := i0.trans (agA_ok hct).symm
 have hgl := (ag_len hct hLg).1
 obtain ⟨i0, hsd, hcd⟩ := ag_nth (k := (tgA t).toNat) hct hLg hst (by omega)
 have hdz : (nthS n0 (tgA t).toNat).2.2 = tgL t := by rw [lsts_nth, hLg, htA]; rfl
 have hpd := chk_pos hcd
 refine mv u0 fun i0 v0 => ?_
 refine ix ((((tgA t))).toNat) (((((tgA t))).toNat) * 1) v0 (ss_elem (t := n0) (k := (((tgA t))).toNat) (f0.row (i := 5) rfl).2 (by omega)).some_ fun i0 u0 => ?_
 refine lde 0 (((((tgA t))).toNat) * 1) u0 (ss_elem (t := n0) (k := (((tgA t))).toNat) (f0.row (i := 5) rfl).2 (by omega)) fun i0 v0 => ?_
 have i0 := f0.el 6 ((((tgA t))).toNat)
 refine aw v0 d0 fun f0 u0 => ?_
 refine wsc fun d0 f0 => mv u0 fun d0 v0 => ?_
 have d0 := i0.nf
 refine kcl v0 ok28 (rroot_calls _ _ d0.il _ _ ((nthS n0 ((((tgA t))).toNat)).2.2) (d0.g 7) (hl := (by omega)) (h0 := (by exact hpd))) ?_
 rintro v0 i0 ⟨rfl, u0⟩
 have i0 := d0.below u0.below
 refine ⟨_, rfl, fun u0 d0 => ?_⟩
 refine m_fieldV (v := .int .i64 (((nth ((nthS n0 ((((tgA t))).toNat)).2.2) (((nthS n0 ((((tgA t))).toNat)).2.2).length - 1)).K))) sv d0 rfl rfl rfl (fun _ => by kernel_rfl) (by decide) fun u0 v0 => ?_
 refine aw v0 f0 fun u0 d0 => ?_
 refine wsc fun f0 u0 => mv d0 fun f0 v0 => ?_
 have f0 := i0.nf
 refine kcl v0 ok46 (bparts_calls _ _ f0.il _ _ ((nthS n0 ((((tgA t))).toNat)).2.2) (f0.g 7) (hl := (by omega)) (hsm := (by exact hsd)) (hb := (by exact meas_chk hcd))) ?_
 rintro v0 i0 ⟨d0, c0, k0, rfl, m0, o0, j0, b0⟩
 have c0 := f0.below m0.below
 have m0 := f0.dN c0 o0
 have c0 := f0.dN m0 j0
 refine ⟨_, rfl, fun m0 j0 => ?_⟩
 have hqb : blts k0 = bP (nthS n0 (tgA t).toNat).2.2 := b0
 have hql : k0.length = many (nth (nthS n0 (tgA t).toNat).2.2 ((nthS n0 (tgA t).toNat).2.2.length - 1)) := by rw [← blts_len, hqb, bP_len hcd]
 have hqall := bP_all hcd hsd
 have hqe : ∀ k, sml (nthU k0 k).1.2.2 ∧ (nthU k0 k).1.2.2.length ≤ 4000 := fun k => by have := nthD_any (p := blts k0) (Q := fun x => sml x ∧ x.length ≤ 4000) (hqb ▸ hqall) ⟨sml_nil, by simp⟩ k; rw [← blts_nth] at this; exact this
 refine aw j0 u0 fun b0 m0 => ?_
 refine wp_seq_k fun u0 b0 => wp_block ?_
 refine wsc fun u0 j0 => lR m0 fun u0 f0 => ?_
 rcases Decidable.em ((((nth t (t.length - 1)).K)) = 5) with u0 | u0
 ·
  have := many_5 u0
  have m0 := f0.setb (d := 35) (b := true) rfl (decide_eq_true u0)
  refine lR m0 fun o0 d0 => ?_
  refine wn j0 ?_
  rcases Decidable.em ((((nth ((nthS n0 ((((tgA t))).toNat)).2.2) (((nthS n0 ((((tgA t))).toNat)).2.2).length - 1)).K)) = 4) with o0 | o0
  ·
   have := many_4 o0
   refine wct d0 (decide_eq_true o0) fun m0 => ?_
   refine wp_seq_k fun i0 v0 => ?_
   obtain ⟨i0, t0, q0⟩ := c0.agree
   refine d_reg3 (n := 8) q0 10 pn (pan_then (pan_block (pan_then pan_body))) fun i0 x0 y0 z0 b1 c1 => ?_
   refine dR [0] m0 fun z0 i0 => ?_
   refine dix 1 1 (1 * 2) i0 (fun x hx => (us_elem (t := k0) (k := 1) (sdat (t0 8 _ rfl) hx.ag).2 (by omega)).some_) fun z0 m0 => ?_
   refine dt 2 rfl x0 m0 (want_n rfl) (fun x hx => m_loadEN (sy m0) m0 rfl rfl rfl (us_elem (t := k0) (k := 1) (sdat (t0 8 _ rfl) hx.ag).2 (by omega)) Tryd.underlying57 rfl sz57 (by decide) gt) c1 fun z0 i0 => ?_
   have z0 := b1.elU 9 1
   refine dR [3] i0 fun b1 m0 => ?_
   refine dix 4 1 (1 * 2) m0 (fun x hx => (us_elem (t := p0) (k := 1) (sdat (t0 3 _ rfl) hx.ag).2 (by omega)).some_) fun b1 i0 => ?_
   refine dt 5 rfl x0 i0 (want_n rfl) (fun x hx => m_loadEN (sy i0) i0 rfl rfl rfl (us_elem (t := p0) (k := 1) (sdat (t0 3 _ rfl) hx.ag).2 (by omega)) Tryd.underlying57 rfl sz57 (by decide) gt) c1 fun b1 m0 => ?_
   have b1 := z0.elU 4 1
   refine d1 6 ?_
   have z0 := b1.nf
   refine kcl m0 ok47 (bwith_calls _ _ z0.il _ _ ((nthU k0 1).1.2.2) (((nthU k0 1).2)) _ _ ((nthU p0 1).1.2.2) (((nthU p0 1).2)) (z0.g 11) (z0.g 12) (hsa := (by exact (hqe 1).1)) (hla := (by exact Nat.le_trans (hqe 1).2 (by decide))) (hsx := (by exact (hpe 1).1)) (hlx := (by exact Nat.le_trans (hpe 1).2 (by decide)))) ?_
   rintro m0 b1 ⟨i0, c1, x0, rfl, t0, q0, f1⟩
   have b1 := z0.below t0.below
   have t0 := z0.dN b1 q0
   refine ⟨_, rfl, fun b1 q0 => ?_⟩
   have b1 := sWI t0 10 pn
   refine ⟨b1, ?_⟩
   refine d1 7 ?_
   refine sto 0 q0 t0 fun b1 z0 m0 h1 => ?_
   have z0 := sWI h1 10 pn
   refine ⟨z0, ?_⟩
   refine wpAnyH_done (by kernel_rfl) (y0 _ _ ?_) _
   refine xn v0 <| wp_ret <| x_block_r <| x_then_r <| e_cell (i := 0) (vs := [.slice i0 x0.length c1, .int .i64 (((bAt (((nthU k0 1).1.2.2), (((nthU k0 1).2))) [(((nthU p0 1).1.2.2), (((nthU p0 1).2)))]).2))]) (.inl rfl) m0 h1 rfl rfl rfl rfl Tryd.underlying57 rfl sz57 ?_
   refine ⟨i0, c1, x0, ?_, h1.fr, h1.rx 13, (by rw [bRu, if_neg htn, if_neg (by omega), ← hdz, bRx_5 u0 o0, ← hpb, ← hqb, ← blts_nth k0 1, ← blts_nth p0 1]; exact f1)⟩
   exact cr (ret_u (by rfl) (by (rw [bRu, if_neg htn, if_neg (by omega), ← hdz, bRx_5 u0 o0, ← hpb, ← hqb, ← blts_nth k0 1, ← blts_nth p0 1]; first | done | rfl)))
  refine wcf d0 (decide_eq_false o0) fun h1 => ?_
  refine wsc fun d0 f1 => lR h1 fun d0 x0 => ?_
  have d0 : ¬ ((((nth t (t.length - 1)).K)) = 8) := (by omega)
  have h1 := x0.setb (d := 50) (b := false) rfl (decide_eq_false d0)
  refine lR h1 fun x0 c1 => ?_
  refine wn f1 <| wp_cond_false (c1.ev rfl) ?_
  refine wsc fun f1 x0 => lR c1 fun f1 h1 => ?_
  have f1 : ¬ ((((nth t (t.length - 1)).K)) = 9) := (by omega)
  have c1 := h1.setb (d := 61) (b := false) rfl (decide_eq_false f1)
  refine lR c1 fun h1 i0 => ?_
  refine wn x0 <| wp_cond_false (i0.ev rfl) ?_
  refine wsc fun x0 h1 => lR i0 fun x0 c1 => ?_
  have x0 : ¬ ((((nth t (t.length - 1)).K)) = 13) := (by omega)
  have i0 := c1.setb (d := 72) (b := false) rfl (decide_eq_false x0)
  refine lR i0 fun c1 m0 => ?_
  refine wn h1 <| wp_cond_false (m0.ev rfl) ?_
  refine wsc fun h1 c1 => lR m0 fun h1 i0 => ?_
  have h1 := i0.setb (d := 83) (b := false) rfl (decide_eq_false x0)
  refine lR h1 fun i0 m0 => ?_
  refine wn c1 <| wp_cond_false (m0.ev rfl) ?_
  refine wsc fun c1 i0 => lR m0 fun c1 h1 => ?_
  have c1 : ¬ ((((nth t (t.length - 1)).K)) = 24) := (by omega)
  have m0 := h1.setb (d := 115) (b := false) rfl (decide_eq_false c1)
  refine lR m0 fun h1 v0 => ?_
  refine wn i0 <| wp_cond_false (v0.ev rfl) ?_
  refine wsc fun i0 h1 => lR v0 fun i0 m0 => ?_
  refine wn h1 ?_
  have h1 : ¬ ((((nth t (t.length - 1)).K)) = 27) := (by omega)
  refine wcf m0 (decide_eq_false h1) fun i0 => ?_
  refine wp_skip <| x_block_n <| xn b0 <| wsc fun m0 v0 => ?_
  have m0 := c0.nf
  refine kcl i0 ok45 (bstuck_calls _ _ m0.il ) ?_
  rintro i0 y0 ⟨z0, b1, q0, rfl, t0, i1, j1⟩
  have y0 := m0.below t0.below
  have t0 := m0.dN y0 i1
  refine ⟨_, rfl, fun y0 i1 => ?_⟩
  refine sto 0 i1 t0 fun y0 m0 i0 k1 => ?_
  refine wn v0 <| wp_ret <| e_cell (i := 0) (vs := [.slice z0 q0.length b1, .int .i64 (120)]) (.inl rfl) i0 k1 rfl rfl rfl rfl Tryd.underlying57 rfl sz57 ?_
  refine ⟨z0, b1, q0, ?_, k1.fr, k1.rx 10, (by rw [bRu, if_neg htn, if_neg (by omega), ← hdz]; simp [bRx, u0, o0, d0, f1, x0, c1, h1]; exact j1)⟩
  exact cr (ret_u (by rfl) (by (rw [bRu, if_neg htn, if_neg (by omega), ← hdz]; simp [bRx, u0, o0, d0, f1, x0, c1, h1])))
 have h1 := f0.setb (d := 35) (b := false) rfl (decide_eq_false u0)
 refine lR h1 fun f0 c1 => ?_
 refine wn j0 <| wp_cond_false (c1.ev rfl) ?_
 refine wsc fun j0 f0 => lR c1 fun j0 h1 => ?_
 rcases Decidable.em ((((nth t (t.length - 1)).K)) = 8) with j0 | j0
 ·
  have := many_8 j0
  have c1 := h1.setb (d := 50) (b := true) rfl (decide_eq_true j0)
  refine lR c1 fun x0 f1 => ?_
  refine wn f0 ?_
  rcases Decidable.em ((((nth ((nthS n0 ((((tgA t))).toNat)).2.2) (((nthS n0 ((((tgA t))).toNat)).2.2).length - 1)).K)) = 7) with x0 | x0
  ·
   have := many_7 x0
   refine wct f1 (decide_eq_true x0) fun c1 => ?_
   refine wsc fun d0 o0 => mv c1 fun d0 k1 => ?_
   refine ix 1 (1 * 2) k1 (us_elem (t := k0) (k := 1) (c0.row (i := 8) rfl).2 (by omega)).some_ fun d0 c1 => ?_
   refine m_loadEN sv c1 rfl rfl rfl (us_elem (t := k0) (k := 1) (c0.row (i := 8) rfl).2 (by omega)) Tryd.underlying57 rfl sz57 (by decide) fun d0 k1 => ?_
   have d0 := c0.elU 9 1
   refine sto 0 k1 d0 fun c1 j1 q0 b1 => ?_
   refine wn o0 <| wp_ret <| x_block_r <| x_then_r <| e_cell (i := 0) (vs := [.slice ((nthU k0 1).1.1) ((nthU k0 1).1.2.2.length) ((nthU k0 1).1.2.1), .int .i64 (((nthU k0 1).2))]) (.inl rfl) q0 b1 rfl rfl rfl rfl Tryd.underlying57 rfl sz57 ?_
   refine ⟨((nthU k0 1).1.1), ((nthU k0 1).1.2.1), ((nthU k0 1).1.2.2), ?_, b1.fr, b1.rx 10, (by rw [bRu, if_neg htn, if_neg (by omega), ← hdz, bRx_8 j0 x0, ← hqb, ← blts_nth k0 1]; first | done | rfl)⟩
   exact cr (ret_u (by rfl) (by (rw [bRu, if_neg htn, if_neg (by omega), ← hdz, bRx_8 j0 x0, ← hqb, ← blts_nth k0 1]; first | done | rfl)))
  refine wcf f1 (decide_eq_false x0) fun b1 => ?_
  refine wsc fun f1 q0 => lR b1 fun f1 o0 => ?_
  have f1 : ¬ ((((nth t (t.length - 1)).K)) = 9) := (by omega)
  have b1 := o0.setb (d := 61) (b := false) rfl (decide_eq_false f1)
  refine lR b1 fun o0 j1 => ?_
  refine wn q0 <| wp_cond_false (j1.ev rfl) ?_
  refine wsc fun q0 o0 => lR j1 fun q0 b1 => ?_
  have q0 : ¬ ((((nth t (t.length - 1)).K)) = 13) := (by omega)
  have j1 := b1.setb (d := 72) (b := false) rfl (decide_eq_false q0)
  refine lR j1 fun b1 c1 => ?_
  refine wn o0 <| wp_cond_false (c1.ev rfl) ?_
  refine wsc fun o0 b1 => lR c1 fun o0 j1 => ?_
  have o0 := j1.setb (d := 83) (b := false) rfl (decide_eq_false q0)
  refine lR o0 fun j1 c1 => ?_
  refine wn b1 <| wp_cond_false (c1.ev rfl) ?_
  refine wsc fun b1 j1 => lR c1 fun b1 o0 => ?_
  have b1 : ¬ ((((nth t (t.length - 1)).K)) = 24) := (by omega)
  have c1 := o0.setb (d := 115) (b := false) rfl (decide_eq_false b1)
  refine lR c1 fun o0 d0 => ?_
  refine wn j1 <| wp_cond_false (d0.ev rfl) ?_
  refine wsc fun j1 o0 => lR d0 fun j1 c1 => ?_
  refine wn o0 ?_
  have o0 : ¬ ((((nth t (t.length - 1)).K)) = 27) := (by omega)
  refine wcf c1 (decide_eq_false o0) fun j1 => ?_
  refine wp_skip <| x_block_n <| xn b0 <| wsc fun c1 d0 => ?_
  have c1 := c0.nf
  refine kcl j1 ok45 (bstuck_calls _ _ c1.il ) ?_
  rintro j1 k1 ⟨z0, i0, v0, rfl, m0, y0, i1⟩
  have k1 := c1.below m0.below
  have m0 := c1.dN k1 y0
  refine ⟨_, rfl, fun k1 y0 => ?_⟩
  refine sto 0 y0 m0 fun k1 c1 j1 t0 => ?_
  refine wn d0 <| wp_ret <| e_cell (i := 0) (vs := [.slice z0 v0.length i0, .int .i64 (120)]) (.inl rfl) j1 t0 rfl rfl rfl rfl Tryd.underlying57 rfl sz57 ?_
  refine ⟨z0, i0, v0, ?_, t0.fr, t0.rx 10, (by rw [bRu, if_neg htn, if_neg (by omega), ← hdz]; simp [bRx, u0, j0, x0, f1, q0, b1, o0]; exact i1)⟩
  exact cr (ret_u (by rfl) (by (rw [bRu, if_neg htn, if_neg (by omega), ← hdz]; simp [bRx, u0, j0, x0, f1, q0, b1, o0])))
 have o0 := h1.setb (d := 50) (b := false) rfl (decide_eq_false j0)
 refine lR o0 fun h1 b1 => ?_
 refine wn f0 <| wp_cond_false (b1.ev rfl) ?_
 refine wsc fun f0 h1 => lR b1 fun f0 o0 => ?_
 rcases Decidable.em ((((nth t (t.length - 1)).K)) = 9) with f0 | f0
 ·
  have := many_9 f0
  have b1 := o0.setb (d := 61) (b := true) rfl (decide_eq_true f0)
  refine lR b1 fun q0 f1 => ?_
  refine wn h1 ?_
  rcases Decidable.em ((((nth ((nthS n0 ((((tgA t))).toNat)).2.2) (((nthS n0 ((((tgA t))).toNat)).2.2).length - 1)).K)) = 7) with q0 | q0
  ·
   have := many_7 q0
   refine wct f1 (decide_eq_true q0) fun b1 => ?_
   refine wsc fun x0 t0 => mv b1 fun x0 i1 => ?_
   refine ix 2 (2 * 2) i1 (us_elem (t := k0) (k := 2) (c0.row (i := 8) rfl).2 (by omega)).some_ fun x0 b1 => ?_
   refine m_loadEN sv b1 rfl rfl rfl (us_elem (t := k0) (k := 2) (c0.row (i := 8) rfl).2 (by omega)) Tryd.underlying57 rfl sz57 (by decide) fun x0 i1 => ?_
   have x0 := c0.elU 9 2
   refine sto 0 i1 x0 fun b1 v0 i0 z0 => ?_
   refine wn t0 <| wp_ret <| x_block_r <| x_then_r <| e_cell (i := 0) (vs := [.slice ((nthU k0 2).1.1) ((nthU k0 2).1.2.2.length) ((nthU k0 2).1.2.1), .int .i64 (((nthU k0 2).2))]) (.inl rfl) i0 z0 rfl rfl rfl rfl Tryd.underlying57 rfl sz57 ?_
   refine ⟨((nthU k0 2).1.1), ((nthU k0 2).1.2.1), ((nthU k0 2).1.2.2), ?_, z0.fr, z0.rx 10, (by rw [bRu, if_neg htn, if_neg (by omega), ← hdz, bRx_9 f0 q0, ← hqb, ← blts_nth k0 2]; first | done | rfl)⟩
   exact cr (ret_u (by rfl) (by (rw [bRu, if_neg htn, if_neg (by omega), ← hdz, bRx_9 f0 q0, ← hqb, ← blts_nth k0 2]; first | done | rfl)))
  refine wcf f1 (decide_eq_false q0) fun z0 => ?_
  refine wsc fun f1 i0 => lR z0 fun f1 t0 => ?_
  have f1 : ¬ ((((nth t (t.length - 1)).K)) = 13) := (by omega)
  have z0 := t0.setb (d := 72) (b := false) rfl (decide_eq_false f1)
  refine lR z0 fun t0 v0 => ?_
  refine wn i0 <| wp_cond_false (v0.ev rfl) ?_
  refine wsc fun i0 t0 => lR v0 fun i0 z0 => ?_
  have i0 := z0.setb (d := 83) (b := false) rfl (decide_eq_false f1)
  refine lR i0 fun z0 v0 => ?_
  refine wn t0 <| wp_cond_false (v0.ev rfl) ?_
  refine wsc fun t0 z0 => lR v0 fun t0 i0 => ?_
  have t0 : ¬ ((((nth t (t.length - 1)).K)) = 24) := (by omega)
  have v0 := i0.setb (d := 115) (b := false) rfl (decide_eq_false t0)
  refine lR v0 fun i0 b1 => ?_
  refine wn z0 <| wp_cond_false (b1.ev rfl) ?_
  refine wsc fun z0 i0 => lR b1 fun z0 v0 => ?_
  refine wn i0 ?_
  have i0 : ¬ ((((nth t (t.length - 1)).K)) = 27) := (by omega)
  refine wcf v0 (decide_eq_false i0) fun z0 => ?_
  refine wp_skip <| x_block_n <| xn b0 <| wsc fun v0 b1 => ?_
  have v0 := c0.nf
  refine kcl z0 ok45 (bstuck_calls _ _ v0.il ) ?_
  rintro z0 x0 ⟨i1, j1, d0, rfl, c1, k1, y0⟩
  have x0 := v0.below c1.below
  have c1 := v0.dN x0 k1
  refine ⟨_, rfl, fun x0 k1 => ?_⟩
  refine sto 0 k1 c1 fun x0 v0 z0 m0 => ?_
  refine wn b1 <| wp_ret <| e_cell (i := 0) (vs := [.slice i1 d0.length j1, .int .i64 (120)]) (.inl rfl) z0 m0 rfl rfl rfl rfl Tryd.underlying57 rfl sz57 ?_
  refine ⟨i1, j1, d0, ?_, m0.fr, m0.rx 10, (by rw [bRu, if_neg htn, if_neg (by omega), ← hdz]; simp [bRx, u0, j0, f0, q0, f1, t0, i0]; exact y0)⟩
  exact cr (ret_u (by rfl) (by (rw [bRu, if_neg htn, if_neg (by omega), ← hdz]; simp [bRx, u0, j0, f0, q0, f1, t0, i0])))
 have i0 := o0.setb (d := 61) (b := false) rfl (decide_eq_false f0)
 refine lR i0 fun o0 t0 => ?_
 refine wn h1 <| wp_cond_false (t0.ev rfl) ?_
 refine wsc fun h1 o0 => lR t0 fun h1 i0 => ?_
 rcases Decidable.em ((((nth t (t.length - 1)).K)) = 13) with h1 | h1
 ·
  have := many_13 h1
  have t0 := i0.setb (d := 72) (b := true) rfl (decide_eq_true h1)
  refine lR t0 fun f1 q0 => ?_
  refine wn o0 ?_
  rcases Decidable.em ((((nth ((nthS n0 ((((tgA t))).toNat)).2.2) (((nthS n0 ((((tgA t))).toNat)).2.2).length - 1)).K)) = 11) with f1 | f1
  ·
   refine wct q0 (decide_eq_true f1) fun t0 => ?_
   refine wsc fun m0 y0 => mv t0 fun m0 d0 => ?_
   refine ix 1 (1 * 2) d0 (us_elem (t := p0) (k := 1) (c0.row (i := 3) rfl).2 (by omega)).some_ fun m0 t0 => ?_
   refine m_loadEN sv t0 rfl rfl rfl (us_elem (t := p0) (k := 1) (c0.row (i := 3) rfl).2 (by omega)) Tryd.underlying57 rfl sz57 (by decide) fun m0 d0 => ?_
   have m0 := c0.elU 4 1
   refine sto 0 d0 m0 fun t0 j1 i1 z0 => ?_
   refine wn y0 <| wp_ret <| x_block_r <| x_then_r <| e_cell (i := 0) (vs := [.slice ((nthU p0 1).1.1) ((nthU p0 1).1.2.2.length) ((nthU p0 1).1.2.1), .int .i64 (((nthU p0 1).2))]) (.inl rfl) i1 z0 rfl rfl rfl rfl Tryd.underlying57 rfl sz57 ?_
   refine ⟨((nthU p0 1).1.1), ((nthU p0 1).1.2.1), ((nthU p0 1).1.2.2), ?_, z0.fr, z0.rx 10, (by rw [bRu, if_neg htn, if_neg (by omega), ← hdz, bRx_z h1 f1, ← hpb, ← blts_nth p0 1]; first | done | rfl)⟩
   exact cr (ret_u (by rfl) (by (rw [bRu, if_neg htn, if_neg (by omega), ← hdz, bRx_z h1 f1, ← hpb, ← blts_nth p0 1]; first | done | rfl)))
  refine wcf q0 (decide_eq_false f1) fun z0 => ?_
  refine wsc fun q0 i1 => lR z0 fun q0 y0 => ?_
  have q0 := y0.setb (d := 83) (b := true) rfl (decide_eq_true h1)
  refine lR q0 fun y0 z0 => ?_
  refine wn i1 ?_
  rcases Decidable.em ((((nth ((nthS n0 ((((tgA t))).toNat)).2.2) (((nthS n0 ((((tgA t))).toNat)).2.2).length - 1)).K)) = 12) with i1 | i1
  ·
   have := many_12 i1
   refine wct z0 (decide_eq_true i1) fun y0 => ?_
   refine wp_seq_k fun q0 j1 => ?_
   obtain ⟨q0, t0, m0⟩ := c0.agree
   refine d_reg3 (n := 17) m0 10 (pB 1 0 pn) (pan_then (pan_block (pan_then pan_body))) fun q0 d0 b1 v0 x0 k1 => ?_
   refine dt 0 rfl d0 y0 (want_n rfl) (fun x hx => m_loadCN (sy y0) y0 rfl rfl rfl (CellsAt.cons_ (hx.c 0) (CellsAt.cons_ (hx.c 1) (CellsAt.cons_ (hx.c 2) (CellsAt.cons_ (hx.c 3) (CellsAt.nil _ _))))) Tryd.underlying39 rfl sz39 (by decide) gt) k1 fun v0 q0 => ?_
   refine dR [1] q0 fun v0 y0 => ?_
   refine dix 2 0 (0 * 2) y0 (fun x hx => (us_elem (t := p0) (k := 0) (sdat (t0 3 _ rfl) hx.ag).2 (by omega)).some_) fun v0 q0 => ?_
   refine dt 3 rfl d0 q0 (want_n rfl) (fun x hx => m_loadEN (sy q0) q0 rfl rfl rfl (us_elem (t := p0) (k := 0) (sdat (t0 3 _ rfl) hx.ag).2 (by omega)) Tryd.underlying57 rfl sz57 (by decide) gt) k1 fun v0 y0 => ?_
   have v0 := x0.elU 4 0
   refine dR [4] y0 fun x0 q0 => ?_
   refine dix 5 1 (1 * 2) q0 (fun x hx => (us_elem (t := p0) (k := 1) (sdat (t0 3 _ rfl) hx.ag).2 (by omega)).some_) fun x0 y0 => ?_
   refine dt 6 rfl d0 y0 (want_n rfl) (fun x hx => m_loadEN (sy y0) y0 rfl rfl rfl (us_elem (t := p0) (k := 1) (sdat (t0 3 _ rfl) hx.ag).2 (by omega)) Tryd.underlying57 rfl sz57 (by decide) gt) k1 fun x0 q0 => ?_
   have x0 := v0.elU 4 1
   refine dR [7] q0 fun v0 y0 => ?_
   refine dix 8 2 (2 * 2) y0 (fun x hx => (us_elem (t := p0) (k := 2) (sdat (t0 3 _ rfl) hx.ag).2 (by omega)).some_) fun v0 q0 => ?_
   refine dt 9 rfl d0 q0 (want_n rfl) (fun x hx => m_loadEN (sy q0) q0 rfl rfl rfl (us_elem (t := p0) (k := 2) (sdat (t0 3 _ rfl) hx.ag).2 (by omega)) Tryd.underlying57 rfl sz57 (by decide) gt) k1 fun v0 y0 => ?_
   have v0 := x0.elU 4 2
   refine dR [10] y0 fun x0 q0 => ?_
   refine dix 11 0 (0 * 2) q0 (fun x hx => (us_elem (t := k0) (k := 0) (sdat (t0 8 _ rfl) hx.ag).2 (by omega)).some_) fun x0 y0 => ?_
   refine dt 12 rfl d0 y0 (want_n rfl) (fun x hx => m_loadEN (sy y0) y0 rfl rfl rfl (us_elem (t := k0) (k := 0) (sdat (t0 8 _ rfl) hx.ag).2 (by omega)) Tryd.underlying57 rfl sz57 (by decide) gt) k1 fun x0 q0 => ?_
   have x0 := v0.elU 9 0
   refine wpAnyH_all (rs := [13, 15]) (by kernel_rfl) (by simp) ?_
   rintro i v0
   simp only [List.mem_cons, List.not_mem_nil, or_false] at v0
   rcases v0 with rfl | rfl
   ·
    have v0 := x0.data (dAllU [(((((nthU p0 0).1.1, (nthU p0 0).1.2.1, (nthU p0 0).1.2.2) : Sl), ((((nthU p0 0).2)) : Int)) : Bu), (((((nthU p0 1).1.1, (nthU p0 1).1.2.1, (nthU p0 1).1.2.2) : Sl), ((((nthU p0 1).2)) : Int)) : Bu), (((((nthU p0 2).1.1, (nthU p0 2).1.2.1, (nthU p0 2).1.2.2) : Sl), ((((nthU p0 2).2)) : Int)) : Bu), (((((nthU k0 0).1.1, (nthU k0 0).1.2.1, (nthU k0 0).1.2.2) : Sl), ((((nthU k0 0).2)) : Int)) : Bu)]) (allU_cons (x0.get (i := 11) rfl) (allU_cons (x0.get (i := 12) rfl) (allU_cons (x0.get (i := 13) rfl) (allU_cons (x0.get (i := 14) rfl) allU_nil))))
    refine bsl q0 v0 fun y0 k1 d0 t0 m0 => ?_
    have k1 := sWI m0 10 (pB 1 0 pn)
    refine ⟨k1, ?_⟩
    refine wpAnyH_all (rs := [14, 15]) (by kernel_rfl) (by simp) ?_
    rintro i k1
    simp only [List.mem_cons, List.not_mem_nil, or_false] at k1
    rcases k1 with rfl | rfl
    ·
     have k1 := m0.nf
     have y0 := k1.pub 2 (dRow 2 (some ⟨d0, 0, none⟩) 4 4 (encUs ([(((((nthU p0 0).1.1, (nthU p0 0).1.2.1, (nthU p0 0).1.2.2) : Sl), ((((nthU p0 0).2)) : Int)) : Bu), (((((nthU p0 1).1.1, (nthU p0 1).1.2.1, (nthU p0 1).1.2.2) : Sl), ((((nthU p0 1).2)) : Int)) : Bu), (((((nthU p0 2).1.1, (nthU p0 2).1.2.1, (nthU p0 2).1.2.2) : Sl), ((((nthU p0 2).2)) : Int)) : Bu), (((((nthU k0 0).1.1, (nthU k0 0).1.2.1, (nthU k0 0).1.2.2) : Sl), ((((nthU k0 0).2)) : Int)) : Bu)])))
     refine kcl t0 ok48 (bof_calls _ _ y0.il (nth t (t.length - 1)) _ _ ([(((((nthU p0 0).1.1, (nthU p0 0).1.2.1, (nthU p0 0).1.2.2) : Sl), ((((nthU p0 0).2)) : Int)) : Bu), (((((nthU p0 1).1.1, (nthU p0 1).1.2.1, (nthU p0 1).1.2.2) : Sl), ((((nthU p0 1).2)) : Int)) : Bu), (((((nthU p0 2).1.1, (nthU p0 2).1.2.1, (nthU p0 2).1.2.2) : Sl), ((((nthU p0 2).2)) : Int)) : Bu), (((((nthU k0 0).1.1, (nthU k0 0).1.2.1, (nthU k0 0).1.2.2) : Sl), ((((nthU k0 0).2)) : Int)) : Bu)]) (y0.g 16) (y0.g 15) (hln := (by simp)) (hbn := (by intro y hy; simp only [blts_cons, blts_nil, List.mem_cons, List.not_mem_nil, or_false] at hy; rcases hy with rfl | rfl | rfl | rfl <;> first | exact Nat.le_trans (hpe 0).2 (by decide) | exact Nat.le_trans (hpe 1).2 (by decide) | exact Nat.le_trans (hpe 2).2 (by decide) | exact Nat.le_trans (hqe 0).2 (by decide)))) ?_
     rintro k1 v0 ⟨c1, m1, n1, rfl, o1, p1, q1⟩
     have v0 := y0.below o1.below
     have o1 := y0.dN v0 p1
     refine ⟨_, rfl, fun v0 p1 => ?_⟩
     obtain ⟨hos, hol⟩ : sml n1 ∧ n1.length ≤ 100000 := by rw [q1]; exact br_of hsn (hpe 0) (hpe 1) (hpe 2) (hqe 0)
     have v0 := sWI o1 10 (pB 1 0 pn)
     refine ⟨v0, ?_⟩
     refine d1 15 ?_
     refine alc p1 o1 fun v0 y0 k1 s1 t1 => ?_
     have k1 := sWI t1 10 (pB 1 0 pn)
     refine ⟨k1, ?_⟩
     refine d1 16 ?_
     refine sto 2 s1 t1 fun k1 y0 v0 p1 => ?_
     have y0 := sWI p1 10 (pB 1 0 pn)
     refine ⟨y0, ?_⟩
     refine wpAnyH_done (by kernel_rfl) (b1 _ _ ?_) _
     refine xn j1 <| wp_seq_k fun y0 k1 => ?_
     obtain ⟨y0, t1, s1⟩ := p1.agree
     refine d_reg3 (n := 10) s1 18 (pB 2 0 pn) (pan_then (pan_block (pan_then pan_body))) fun y0 p1 o1 u1 v1 x1 => ?_
     refine dR [0] v0 fun u1 y0 => ?_
     refine dix 1 2 (2 * 2) y0 (fun x hx => (us_elem (t := p0) (k := 2) (sdat (t1 3 _ rfl) hx.ag).2 (by omega)).some_) fun u1 v0 => ?_
     refine dt 2 rfl p1 v0 (want_n rfl) (fun x hx => m_loadEN (sy v0) v0 rfl rfl rfl (us_elem (t := p0) (k := 2) (sdat (t1 3 _ rfl) hx.ag).2 (by omega)) Tryd.underlying57 rfl sz57 (by decide) gt) x1 fun u1 y0 => ?_
     have u1 := v1.elU 4 2
     refine dt 3 rfl p1 y0 (want_n rfl) (fun x hx => m_loadCN (sy y0) y0 rfl rfl rfl (CellsAt.cons_ (hx.c 0) (CellsAt.cons_ (hx.c 1) (CellsAt.nil _ _))) Tryd.underlying57 rfl sz57 (by decide) gt) x1 fun v1 v0 => ?_
     refine dR [4] v0 fun v1 y0 => ?_
     refine dix 5 0 (0 * 2) y0 (fun x hx => (us_elem (t := k0) (k := 0) (sdat (t1 8 _ rfl) hx.ag).2 (by omega)).some_) fun v1 v0 => ?_
     refine dt 6 rfl p1 v0 (want_n rfl) (fun x hx => m_loadEN (sy v0) v0 rfl rfl rfl (us_elem (t := k0) (k := 0) (sdat (t1 8 _ rfl) hx.ag).2 (by omega)) Tryd.underlying57 rfl sz57 (by decide) gt) x1 fun v1 y0 => ?_
     have v1 := u1.elU 9 0
     refine d1 7 ?_
     have u1 := v1.data (dAllU [((((c1, m1, n1) : Sl), ((((bOf (nth t (t.length - 1)) (blts ([(((((nthU p0 0).1.1, (nthU p0 0).1.2.1, (nthU p0 0).1.2.2) : Sl), ((((nthU p0 0).2)) : Int)) : Bu), (((((nthU p0 1).1.1, (nthU p0 1).1.2.1, (nthU p0 1).1.2.2) : Sl), ((((nthU p0 1).2)) : Int)) : Bu), (((((nthU p0 2).1.1, (nthU p0 2).1.2.1, (nthU p0 2).1.2.2) : Sl), ((((nthU p0 2).2)) : Int)) : Bu), (((((nthU k0 0).1.1, (nthU k0 0).1.2.1, (nthU k0 0).1.2.2) : Sl), ((((nthU k0 0).2)) : Int)) : Bu)]))).2)) : Int)) : Bu), (((((nthU k0 0).1.1, (nthU k0 0).1.2.1, (nthU k0 0).1.2.2) : Sl), ((((nthU k0 0).2)) : Int)) : Bu)]) (allU_cons (v1.get (i := 17) rfl) (allU_cons (v1.get (i := 20) rfl) allU_nil))
     refine bsl y0 u1 fun v1 v0 x1 p1 t1 => ?_
     have v0 := sWI t1 18 (pB 2 0 pn)
     refine ⟨v0, ?_⟩
     refine d1 8 ?_
     have v0 := t1.nf
     have t1 := v0.pub 3 (dRow 2 (some ⟨x1, 0, none⟩) 2 2 (encUs ([((((c1, m1, n1) : Sl), ((((bOf (nth t (t.length - 1)) (blts ([(((((nthU p0 0).1.1, (nthU p0 0).1.2.1, (nthU p0 0).1.2.2) : Sl), ((((nthU p0 0).2)) : Int)) : Bu), (((((nthU p0 1).1.1, (nthU p0 1).1.2.1, (nthU p0 1).1.2.2) : Sl), ((((nthU p0 1).2)) : Int)) : Bu), (((((nthU p0 2).1.1, (nthU p0 2).1.2.1, (nthU p0 2).1.2.2) : Sl), ((((nthU p0 2).2)) : Int)) : Bu), (((((nthU k0 0).1.1, (nthU k0 0).1.2.1, (nthU k0 0).1.2.2) : Sl), ((((nthU k0 0).2)) : Int)) : Bu)]))).2)) : Int)) : Bu), (((((nthU k0 0).1.1, (nthU k0 0).1.2.1, (nthU k0 0).1.2.2) : Sl), ((((nthU k0 0).2)) : Int)) : Bu)])))
     refine kcl p1 ok49 (bat_calls _ _ t1.il _ _ ((nthU p0 2).1.2.2) (((nthU p0 2).2)) _ _ ([((((c1, m1, n1) : Sl), ((((bOf (nth t (t.length - 1)) (blts ([(((((nthU p0 0).1.1, (nthU p0 0).1.2.1, (nthU p0 0).1.2.2) : Sl), ((((nthU p0 0).2)) : Int)) : Bu), (((((nthU p0 1).1.1, (nthU p0 1).1.2.1, (nthU p0 1).1.2.2) : Sl), ((((nthU p0 1).2)) : Int)) : Bu), (((((nthU p0 2).1.1, (nthU p0 2).1.2.1, (nthU p0 2).1.2.2) : Sl), ((((nthU p0 2).2)) : Int)) : Bu), (((((nthU k0 0).1.1, (nthU k0 0).1.2.1, (nthU k0 0).1.2.2) : Sl), ((((nthU k0 0).2)) : Int)) : Bu)]))).2)) : Int)) : Bu), (((((nthU k0 0).1.1, (nthU k0 0).1.2.1, (nthU k0 0).1.2.2) : Sl), ((((nthU k0 0).2)) : Int)) : Bu)]) (t1.g 19) (t1.g 22) (t1.g 21) (hsa := (hpe 2).1) (hla := (Nat.le_trans (hpe 2).2 (by decide))) (hln := (by simp)) (hbn := (by intro y hy; simp only [blts_cons, blts_nil, List.mem_cons, List.not_mem_nil, or_false] at hy; rcases hy with rfl | rfl; exact ⟨hos, Nat.le_trans hol (by decide)⟩; exact ⟨(hqe 0).1, Nat.le_trans (hqe 0).2 (by decide)⟩))) ?_
     rintro p1 v0 ⟨x1, v1, u1, rfl, y0, s1, y1⟩
     have v0 := t1.below y0.below
     have y0 := t1.dN v0 s1
     refine ⟨_, rfl, fun v0 s1 => ?_⟩
     have v0 := sWI y0 18 (pB 2 0 pn)
     refine ⟨v0, ?_⟩
     refine d1 9 ?_
     refine sto 0 s1 y0 fun v0 t1 p1 z1 => ?_
     have t1 := sWI z1 18 (pB 2 0 pn)
     refine ⟨t1, ?_⟩
     refine wpAnyH_done (by kernel_rfl) (o1 _ _ ?_) _
     refine xn k1 <| wp_ret <| x_block_r <| x_then_r <| e_cell (i := 0) (vs := [.slice x1 u1.length v1, .int .i64 (((bAt (((nthU p0 2).1.2.2), (((nthU p0 2).2))) (blts ([((((c1, m1, n1) : Sl), ((((bOf (nth t (t.length - 1)) (blts ([(((((nthU p0 0).1.1, (nthU p0 0).1.2.1, (nthU p0 0).1.2.2) : Sl), ((((nthU p0 0).2)) : Int)) : Bu), (((((nthU p0 1).1.1, (nthU p0 1).1.2.1, (nthU p0 1).1.2.2) : Sl), ((((nthU p0 1).2)) : Int)) : Bu), (((((nthU p0 2).1.1, (nthU p0 2).1.2.1, (nthU p0 2).1.2.2) : Sl), ((((nthU p0 2).2)) : Int)) : Bu), (((((nthU k0 0).1.1, (nthU k0 0).1.2.1, (nthU k0 0).1.2.2) : Sl), ((((nthU k0 0).2)) : Int)) : Bu)]))).2)) : Int)) : Bu), (((((nthU k0 0).1.1, (nthU k0 0).1.2.1, (nthU k0 0).1.2.2) : Sl), ((((nthU k0 0).2)) : Int)) : Bu)]))).2))]) (.inl rfl) p1 z1 rfl rfl rfl rfl Tryd.underlying57 rfl sz57 ?_
     refine ⟨x1, v1, u1, ?_, z1.fr, z1.rx 23, (by rw [bRu, if_neg htn, if_neg (by omega), ← hdz, bRx_s h1 i1, ← hpb, ← hqb, ← blts_nth p0 0, ← blts_nth p0 1, ← blts_nth p0 2, ← blts_nth k0 0]; rw [y1]; simp only [blts_cons, blts_nil, q1])⟩
     exact cr (ret_u (by rfl) (by (rw [bRu, if_neg htn, if_neg (by omega), ← hdz, bRx_s h1 i1, ← hpb, ← hqb, ← blts_nth p0 0, ← blts_nth p0 1, ← blts_nth p0 2, ← blts_nth k0 0]; simp only [blts_cons, blts_nil, q1])))
    refine alc t0 m0 fun q1 z1 y1 u1 v1 => ?_
    have y1 := sWI v1 10 (pB 1 0 pn)
    refine ⟨y1, ?_⟩
    refine d1 14 ?_
    have y1 := v1.nf
    have v1 := y1.pub 2 (dRow 2 (some ⟨d0, 0, none⟩) 4 4 (encUs ([(((((nthU p0 0).1.1, (nthU p0 0).1.2.1, (nthU p0 0).1.2.2) : Sl), ((((nthU p0 0).2)) : Int)) : Bu), (((((nthU p0 1).1.1, (nthU p0 1).1.2.1, (nthU p0 1).1.2.2) : Sl), ((((nthU p0 1).2)) : Int)) : Bu), (((((nthU p0 2).1.1, (nthU p0 2).1.2.1, (nthU p0 2).1.2.2) : Sl), ((((nthU p0 2).2)) : Int)) : Bu), (((((nthU k0 0).1.1, (nthU k0 0).1.2.1, (nthU k0 0).1.2.2) : Sl), ((((nthU k0 0).2)) : Int)) : Bu)])))
    refine kcl u1 ok48 (bof_calls _ _ v1.il (nth t (t.length - 1)) _ _ ([(((((nthU p0 0).1.1, (nthU p0 0).1.2.1, (nthU p0 0).1.2.2) : Sl), ((((nthU p0 0).2)) : Int)) : Bu), (((((nthU p0 1).1.1, (nthU p0 1).1.2.1, (nthU p0 1).1.2.2) : Sl), ((((nthU p0 1).2)) : Int)) : Bu), (((((nthU p0 2).1.1, (nthU p0 2).1.2.1, (nthU p0 2).1.2.2) : Sl), ((((nthU p0 2).2)) : Int)) : Bu), (((((nthU k0 0).1.1, (nthU k0 0).1.2.1, (nthU k0 0).1.2.2) : Sl), ((((nthU k0 0).2)) : Int)) : Bu)]) (v1.g 16) (v1.g 15) (hln := (by simp)) (hbn := (by intro y hy; simp only [blts_cons, blts_nil, List.mem_cons, List.not_mem_nil, or_false] at hy; rcases hy with rfl | rfl | rfl | rfl <;> first | exact Nat.le_trans (hpe 0).2 (by decide) | exact Nat.le_trans (hpe 1).2 (by decide) | exact Nat.le_trans (hpe 2).2 (by decide) | exact Nat.le_trans (hqe 0).2 (by decide)))) ?_
    rintro u1 y1 ⟨d0, z1, q1, rfl, m0, t0, x1⟩
    have y1 := v1.below m0.below
    have m0 := v1.dN y1 t0
    refine ⟨_, rfl, fun y1 t0 => ?_⟩
    obtain ⟨hos, hol⟩ : sml q1 ∧ q1.length ≤ 100000 := by rw [x1]; exact br_of hsn (hpe 0) (hpe 1) (hpe 2) (hqe 0)
    have y1 := sWI m0 10 (pB 1 0 pn)
    refine ⟨y1, ?_⟩
    refine d1 16 ?_
    refine sto 2 t0 m0 fun y1 v1 u1 p1 => ?_
    have v1 := sWI p1 10 (pB 1 0 pn)
    refine ⟨v1, ?_⟩
    refine wpAnyH_done (by kernel_rfl) (b1 _ _ ?_) _
    refine xn j1 <| wp_seq_k fun v1 y1 => ?_
    obtain ⟨v1, t0, m0⟩ := p1.agree
    refine d_reg3 (n := 10) m0 18 (pB 2 0 pn) (pan_then (pan_block (pan_then pan_body))) fun v1 p1 n1 m1 c1 k1 => ?_
    refine dR [0] u1 fun m1 v1 => ?_
    refine dix 1 2 (2 * 2) v1 (fun x hx => (us_elem (t := p0) (k := 2) (sdat (t0 3 _ rfl) hx.ag).2 (by omega)).some_) fun m1 u1 => ?_
    refine dt 2 rfl p1 u1 (want_n rfl) (fun x hx => m_loadEN (sy u1) u1 rfl rfl rfl (us_elem (t := p0) (k := 2) (sdat (t0 3 _ rfl) hx.ag).2 (by omega)) Tryd.underlying57 rfl sz57 (by decide) gt) k1 fun m1 v1 => ?_
    have m1 := c1.elU 4 2
    refine dt 3 rfl p1 v1 (want_n rfl) (fun x hx => m_loadCN (sy v1) v1 rfl rfl rfl (CellsAt.cons_ (hx.c 0) (CellsAt.cons_ (hx.c 1) (CellsAt.nil _ _))) Tryd.underlying57 rfl sz57 (by decide) gt) k1 fun c1 u1 => ?_
    refine dR [4] u1 fun c1 v1 => ?_
    refine dix 5 0 (0 * 2) v1 (fun x hx => (us_elem (t := k0) (k := 0) (sdat (t0 8 _ rfl) hx.ag).2 (by omega)).some_) fun c1 u1 => ?_
    refine dt 6 rfl p1 u1 (want_n rfl) (fun x hx => m_loadEN (sy u1) u1 rfl rfl rfl (us_elem (t := k0) (k := 0) (sdat (t0 8 _ rfl) hx.ag).2 (by omega)) Tryd.underlying57 rfl sz57 (by decide) gt) k1 fun c1 v1 => ?_
    have c1 := m1.elU 9 0
    refine d1 7 ?_
    have m1 := c1.data (dAllU [((((d0, z1, q1) : Sl), ((((bOf (nth t (t.length - 1)) (blts ([(((((nthU p0 0).1.1, (nthU p0 0).1.2.1, (nthU p0 0).1.2.2) : Sl), ((((nthU p0 0).2)) : Int)) : Bu), (((((nthU p0 1).1.1, (nthU p0 1).1.2.1, (nthU p0 1).1.2.2) : Sl), ((((nthU p0 1).2)) : Int)) : Bu), (((((nthU p0 2).1.1, (nthU p0 2).1.2.1, (nthU p0 2).1.2.2) : Sl), ((((nthU p0 2).2)) : Int)) : Bu), (((((nthU k0 0).1.1, (nthU k0 0).1.2.1, (nthU k0 0).1.2.2) : Sl), ((((nthU k0 0).2)) : Int)) : Bu)]))).2)) : Int)) : Bu), (((((nthU k0 0).1.1, (nthU k0 0).1.2.1, (nthU k0 0).1.2.2) : Sl), ((((nthU k0 0).2)) : Int)) : Bu)]) (allU_cons (c1.get (i := 17) rfl) (allU_cons (c1.get (i := 20) rfl) allU_nil))
    refine bsl v1 m1 fun c1 u1 k1 p1 t0 => ?_
    have u1 := sWI t0 18 (pB 2 0 pn)
    refine ⟨u1, ?_⟩
    refine d1 8 ?_
    have u1 := t0.nf
    have t0 := u1.pub 3 (dRow 2 (some ⟨k1, 0, none⟩) 2 2 (encUs ([((((d0, z1, q1) : Sl), ((((bOf (nth t (t.length - 1)) (blts ([(((((nthU p0 0).1.1, (nthU p0 0).1.2.1, (nthU p0 0).1.2.2) : Sl), ((((nthU p0 0).2)) : Int)) : Bu), (((((nthU p0 1).1.1, (nthU p0 1).1.2.1, (nthU p0 1).1.2.2) : Sl), ((((nthU p0 1).2)) : Int)) : Bu), (((((nthU p0 2).1.1, (nthU p0 2).1.2.1, (nthU p0 2).1.2.2) : Sl), ((((nthU p0 2).2)) : Int)) : Bu), (((((nthU k0 0).1.1, (nthU k0 0).1.2.1, (nthU k0 0).1.2.2) : Sl), ((((nthU k0 0).2)) : Int)) : Bu)]))).2)) : Int)) : Bu), (((((nthU k0 0).1.1, (nthU k0 0).1.2.1, (nthU k0 0).1.2.2) : Sl), ((((nthU k0 0).2)) : Int)) : Bu)])))
    refine kcl p1 ok49 (bat_calls _ _ t0.il _ _ ((nthU p0 2).1.2.2) (((nthU p0 2).2)) _ _ ([((((d0, z1, q1) : Sl), ((((bOf (nth t (t.length - 1)) (blts ([(((((nthU p0 0).1.1, (nthU p0 0).1.2.1, (nthU p0 0).1.2.2) : Sl), ((((nthU p0 0).2)) : Int)) : Bu), (((((nthU p0 1).1.1, (nthU p0 1).1.2.1, (nthU p0 1).1.2.2) : Sl), ((((nthU p0 1).2)) : Int)) : Bu), (((((nthU p0 2).1.1, (nthU p0 2).1.2.1, (nthU p0 2).1.2.2) : Sl), ((((nthU p0 2).2)) : Int)) : Bu), (((((nthU k0 0).1.1, (nthU k0 0).1.2.1, (nthU k0 0).1.2.2) : Sl), ((((nthU k0 0).2)) : Int)) : Bu)]))).2)) : Int)) : Bu), (((((nthU k0 0).1.1, (nthU k0 0).1.2.1, (nthU k0 0).1.2.2) : Sl), ((((nthU k0 0).2)) : Int)) : Bu)]) (t0.g 19) (t0.g 22) (t0.g 21) (hsa := (hpe 2).1) (hla := (Nat.le_trans (hpe 2).2 (by decide))) (hln := (by simp)) (hbn := (by intro y hy; simp only [blts_cons, blts_nil, List.mem_cons, List.not_mem_nil, or_false] at hy; rcases hy with rfl | rfl; exact ⟨hos, Nat.le_trans hol (by decide)⟩; exact ⟨(hqe 0).1, Nat.le_trans (hqe 0).2 (by decide)⟩))) ?_
    rintro p1 u1 ⟨k1, c1, m1, rfl, v1, m0, o1⟩
    have u1 := t0.below v1.below
    have v1 := t0.dN u1 m0
    refine ⟨_, rfl, fun u1 m0 => ?_⟩
    have u1 := sWI v1 18 (pB 2 0 pn)
    refine ⟨u1, ?_⟩
    refine d1 9 ?_
    refine sto 0 m0 v1 fun u1 t0 p1 t1 => ?_
    have t0 := sWI t1 18 (pB 2 0 pn)
    refine ⟨t0, ?_⟩
    refine wpAnyH_done (by kernel_rfl) (n1 _ _ ?_) _
    refine xn y1 <| wp_ret <| x_block_r <| x_then_r <| e_cell (i := 0) (vs := [.slice k1 m1.length c1, .int .i64 (((bAt (((nthU p0 2).1.2.2), (((nthU p0 2).2))) (blts ([((((d0, z1, q1) : Sl), ((((bOf (nth t (t.length - 1)) (blts ([(((((nthU p0 0).1.1, (nthU p0 0).1.2.1, (nthU p0 0).1.2.2) : Sl), ((((nthU p0 0).2)) : Int)) : Bu), (((((nthU p0 1).1.1, (nthU p0 1).1.2.1, (nthU p0 1).1.2.2) : Sl), ((((nthU p0 1).2)) : Int)) : Bu), (((((nthU p0 2).1.1, (nthU p0 2).1.2.1, (nthU p0 2).1.2.2) : Sl), ((((nthU p0 2).2)) : Int)) : Bu), (((((nthU k0 0).1.1, (nthU k0 0).1.2.1, (nthU k0 0).1.2.2) : Sl), ((((nthU k0 0).2)) : Int)) : Bu)]))).2)) : Int)) : Bu), (((((nthU k0 0).1.1, (nthU k0 0).1.2.1, (nthU k0 0).1.2.2) : Sl), ((((nthU k0 0).2)) : Int)) : Bu)]))).2))]) (.inl rfl) p1 t1 rfl rfl rfl rfl Tryd.underlying57 rfl sz57 ?_
    refine ⟨k1, c1, m1, ?_, t1.fr, t1.rx 23, (by rw [bRu, if_neg htn, if_neg (by omega), ← hdz, bRx_s h1 i1, ← hpb, ← hqb, ← blts_nth p0 0, ← blts_nth p0 1, ← blts_nth p0 2, ← blts_nth k0 0]; rw [o1]; simp only [blts_cons, blts_nil, x1])⟩
    exact cr (ret_u (by rfl) (by (rw [bRu, if_neg htn, if_neg (by omega), ← hdz, bRx_s h1 i1, ← hpb, ← hqb, ← blts_nth p0 0, ← blts_nth p0 1, ← blts_nth p0 2, ← blts_nth k0 0]; simp only [blts_cons, blts_nil, x1])))
   refine alc q0 x0 fun x1 t1 o1 m1 c1 => ?_
   have o1 := sWI c1 10 (pB 1 0 pn)
   refine ⟨o1, ?_⟩
   refine d1 13 ?_
   have o1 := c1.data (dAllU [(((((nthU p0 0).1.1, (nthU p0 0).1.2.1, (nthU p0 0).1.2.2) : Sl), ((((nthU p0 0).2)) : Int)) : Bu), (((((nthU p0 1).1.1, (nthU p0 1).1.2.1, (nthU p0 1).1.2.2) : Sl), ((((nthU p0 1).2)) : Int)) : Bu), (((((nthU p0 2).1.1, (nthU p0 2).1.2.1, (nthU p0 2).1.2.2) : Sl), ((((nthU p0 2).2)) : Int)) : Bu), (((((nthU k0 0).1.1, (nthU k0 0).1.2.1, (nthU k0 0).1.2.2) : Sl), ((((nthU k0 0).2)) : Int)) : Bu)]) (allU_cons (c1.get (i := 11) rfl) (allU_cons (c1.get (i := 12) rfl) (allU_cons (c1.get (i := 13) rfl) (allU_cons (c1.get (i := 14) rfl) allU_nil))))
   refine bsl m1 o1 fun c1 t1 x1 x0 q0 => ?_
   have t1 := sWI q0 10 (pB 1 0 pn)
   refine ⟨t1, ?_⟩
   refine d1 14 ?_
   have t1 := q0.nf
   have q0 := t1.pub 3 (dRow 2 (some ⟨x1, 0, none⟩) 4 4 (encUs ([(((((nthU p0 0).1.1, (nthU p0 0).1.2.1, (nthU p0 0).1.2.2) : Sl), ((((nthU p0 0).2)) : Int)) : Bu), (((((nthU p0 1).1.1, (nthU p0 1).1.2.1, (nthU p0 1).1.2.2) : Sl), ((((nthU p0 1).2)) : Int)) : Bu), (((((nthU p0 2).1.1, (nthU p0 2).1.2.1, (nthU p0 2).1.2.2) : Sl), ((((nthU p0 2).2)) : Int)) : Bu), (((((nthU k0 0).1.1, (nthU k0 0).1.2.1, (nthU k0 0).1.2.2) : Sl), ((((nthU k0 0).2)) : Int)) : Bu)])))
   refine kcl x0 ok48 (bof_calls _ _ q0.il (nth t (t.length - 1)) _ _ ([(((((nthU p0 0).1.1, (nthU p0 0).1.2.1, (nthU p0 0).1.2.2) : Sl), ((((nthU p0 0).2)) : Int)) : Bu), (((((nthU p0 1).1.1, (nthU p0 1).1.2.1, (nthU p0 1).1.2.2) : Sl), ((((nthU p0 1).2)) : Int)) : Bu), (((((nthU p0 2).1.1, (nthU p0 2).1.2.1, (nthU p0 2).1.2.2) : Sl), ((((nthU p0 2).2)) : Int)) : Bu), (((((nthU k0 0).1.1, (nthU k0 0).1.2.1, (nthU k0 0).1.2.2) : Sl), ((((nthU k0 0).2)) : Int)) : Bu)]) (q0.g 16) (q0.g 15) (hln := (by simp)) (hbn := (by intro y hy; simp only [blts_cons, blts_nil, List.mem_cons, List.not_mem_nil, or_false] at hy; rcases hy with rfl | rfl | rfl | rfl <;> first | exact Nat.le_trans (hpe 0).2 (by decide) | exact Nat.le_trans (hpe 1).2 (by decide) | exact Nat.le_trans (hpe 2).2 (by decide) | exact Nat.le_trans (hqe 0).2 (by decide)))) ?_
   rintro x0 t1 ⟨x1, c1, o1, rfl, m1, k1, p1⟩
   have t1 := q0.below m1.below
   have m1 := q0.dN t1 k1
   refine ⟨_, rfl, fun t1 k1 => ?_⟩
   obtain ⟨hos, hol⟩ : sml o1 ∧ o1.length ≤ 100000 := by rw [p1]; exact br_of hsn (hpe 0) (hpe 1) (hpe 2) (hqe 0)
   have t1 := sWI m1 10 (pB 1 0 pn)
   refine ⟨t1, ?_⟩
   refine d1 16 ?_
   refine sto 2 k1 m1 fun t1 q0 x0 q1 => ?_
   have q0 := sWI q1 10 (pB 1 0 pn)
   refine ⟨q0, ?_⟩
   refine wpAnyH_done (by kernel_rfl) (b1 _ _ ?_) _
   refine xn j1 <| wp_seq_k fun j1 b1 => ?_
   obtain ⟨j1, q0, t1⟩ := q1.agree
   refine d_reg3 (n := 10) t1 18 (pB 2 0 pn) (pan_then (pan_block (pan_then pan_body))) fun j1 q1 k1 m1 z1 d0 => ?_
   refine dR [0] x0 fun m1 j1 => ?_
   refine dix 1 2 (2 * 2) j1 (fun x hx => (us_elem (t := p0) (k := 2) (sdat (q0 3 _ rfl) hx.ag).2 (by omega)).some_) fun m1 x0 => ?_
   refine dt 2 rfl q1 x0 (want_n rfl) (fun x hx => m_loadEN (sy x0) x0 rfl rfl rfl (us_elem (t := p0) (k := 2) (sdat (q0 3 _ rfl) hx.ag).2 (by omega)) Tryd.underlying57 rfl sz57 (by decide) gt) d0 fun m1 j1 => ?_
   have m1 := z1.elU 4 2
   refine dt 3 rfl q1 j1 (want_n rfl) (fun x hx => m_loadCN (sy j1) j1 rfl rfl rfl (CellsAt.cons_ (hx.c 0) (CellsAt.cons_ (hx.c 1) (CellsAt.nil _ _))) Tryd.underlying57 rfl sz57 (by decide) gt) d0 fun z1 x0 => ?_
   refine dR [4] x0 fun z1 j1 => ?_
   refine dix 5 0 (0 * 2) j1 (fun x hx => (us_elem (t := k0) (k := 0) (sdat (q0 8 _ rfl) hx.ag).2 (by omega)).some_) fun z1 x0 => ?_
   refine dt 6 rfl q1 x0 (want_n rfl) (fun x hx => m_loadEN (sy x0) x0 rfl rfl rfl (us_elem (t := k0) (k := 0) (sdat (q0 8 _ rfl) hx.ag).2 (by omega)) Tryd.underlying57 rfl sz57 (by decide) gt) d0 fun z1 j1 => ?_
   have z1 := m1.elU 9 0
   refine d1 7 ?_
   have m1 := z1.data (dAllU [((((x1, c1, o1) : Sl), ((((bOf (nth t (t.length - 1)) (blts ([(((((nthU p0 0).1.1, (nthU p0 0).1.2.1, (nthU p0 0).1.2.2) : Sl), ((((nthU p0 0).2)) : Int)) : Bu), (((((nthU p0 1).1.1, (nthU p0 1).1.2.1, (nthU p0 1).1.2.2) : Sl), ((((nthU p0 1).2)) : Int)) : Bu), (((((nthU p0 2).1.1, (nthU p0 2).1.2.1, (nthU p0 2).1.2.2) : Sl), ((((nthU p0 2).2)) : Int)) : Bu), (((((nthU k0 0).1.1, (nthU k0 0).1.2.1, (nthU k0 0).1.2.2) : Sl), ((((nthU k0 0).2)) : Int)) : Bu)]))).2)) : Int)) : Bu), (((((nthU k0 0).1.1, (nthU k0 0).1.2.1, (nthU k0 0).1.2.2) : Sl), ((((nthU k0 0).2)) : Int)) : Bu)]) (allU_cons (z1.get (i := 17) rfl) (allU_cons (z1.get (i := 20) rfl) allU_nil))
   refine bsl j1 m1 fun z1 x0 d0 q1 q0 => ?_
   have x0 := sWI q0 18 (pB 2 0 pn)
   refine ⟨x0, ?_⟩
   refine d1 8 ?_
   have x0 := q0.nf
   have q0 := x0.pub 3 (dRow 2 (some ⟨d0, 0, none⟩) 2 2 (encUs ([((((x1, c1, o1) : Sl), ((((bOf (nth t (t.length - 1)) (blts ([(((((nthU p0 0).1.1, (nthU p0 0).1.2.1, (nthU p0 0).1.2.2) : Sl), ((((nthU p0 0).2)) : Int)) : Bu), (((((nthU p0 1).1.1, (nthU p0 1).1.2.1, (nthU p0 1).1.2.2) : Sl), ((((nthU p0 1).2)) : Int)) : Bu), (((((nthU p0 2).1.1, (nthU p0 2).1.2.1, (nthU p0 2).1.2.2) : Sl), ((((nthU p0 2).2)) : Int)) : Bu), (((((nthU k0 0).1.1, (nthU k0 0).1.2.1, (nthU k0 0).1.2.2) : Sl), ((((nthU k0 0).2)) : Int)) : Bu)]))).2)) : Int)) : Bu), (((((nthU k0 0).1.1, (nthU k0 0).1.2.1, (nthU k0 0).1.2.2) : Sl), ((((nthU k0 0).2)) : Int)) : Bu)])))
   refine kcl q1 ok49 (bat_calls _ _ q0.il _ _ ((nthU p0 2).1.2.2) (((nthU p0 2).2)) _ _ ([((((x1, c1, o1) : Sl), ((((bOf (nth t (t.length - 1)) (blts ([(((((nthU p0 0).1.1, (nthU p0 0).1.2.1, (nthU p0 0).1.2.2) : Sl), ((((nthU p0 0).2)) : Int)) : Bu), (((((nthU p0 1).1.1, (nthU p0 1).1.2.1, (nthU p0 1).1.2.2) : Sl), ((((nthU p0 1).2)) : Int)) : Bu), (((((nthU p0 2).1.1, (nthU p0 2).1.2.1, (nthU p0 2).1.2.2) : Sl), ((((nthU p0 2).2)) : Int)) : Bu), (((((nthU k0 0).1.1, (nthU k0 0).1.2.1, (nthU k0 0).1.2.2) : Sl), ((((nthU k0 0).2)) : Int)) : Bu)]))).2)) : Int)) : Bu), (((((nthU k0 0).1.1, (nthU k0 0).1.2.1, (nthU k0 0).1.2.2) : Sl), ((((nthU k0 0).2)) : Int)) : Bu)]) (q0.g 19) (q0.g 22) (q0.g 21) (hsa := (hpe 2).1) (hla := (Nat.le_trans (hpe 2).2 (by decide))) (hln := (by simp)) (hbn := (by intro y hy; simp only [blts_cons, blts_nil, List.mem_cons, List.not_mem_nil, or_false] at hy; rcases hy with rfl | rfl; exact ⟨hos, Nat.le_trans hol (by decide)⟩; exact ⟨(hqe 0).1, Nat.le_trans (hqe 0).2 (by decide)⟩))) ?_
   rintro q1 x0 ⟨d0, z1, m1, rfl, j1, t1, y1⟩
   have x0 := q0.below j1.below
   have j1 := q0.dN x0 t1
   refine ⟨_, rfl, fun x0 t1 => ?_⟩
   have x0 := sWI j1 18 (pB 2 0 pn)
   refine ⟨x0, ?_⟩
   refine d1 9 ?_
   refine sto 0 t1 j1 fun x0 q0 q1 n1 => ?_
   have q0 := sWI n1 18 (pB 2 0 pn)
   refine ⟨q0, ?_⟩
   refine wpAnyH_done (by kernel_rfl) (k1 _ _ ?_) _
   refine xn b1 <| wp_ret <| x_block_r <| x_then_r <| e_cell (i := 0) (vs := [.slice d0 m1.length z1, .int .i64 (((bAt (((nthU p0 2).1.2.2), (((nthU p0 2).2))) (blts ([((((x1, c1, o1) : Sl), ((((bOf (nth t (t.length - 1)) (blts ([(((((nthU p0 0).1.1, (nthU p0 0).1.2.1, (nthU p0 0).1.2.2) : Sl), ((((nthU p0 0).2)) : Int)) : Bu), (((((nthU p0 1).1.1, (nthU p0 1).1.2.1, (nthU p0 1).1.2.2) : Sl), ((((nthU p0 1).2)) : Int)) : Bu), (((((nthU p0 2).1.1, (nthU p0 2).1.2.1, (nthU p0 2).1.2.2) : Sl), ((((nthU p0 2).2)) : Int)) : Bu), (((((nthU k0 0).1.1, (nthU k0 0).1.2.1, (nthU k0 0).1.2.2) : Sl), ((((nthU k0 0).2)) : Int)) : Bu)]))).2)) : Int)) : Bu), (((((nthU k0 0).1.1, (nthU k0 0).1.2.1, (nthU k0 0).1.2.2) : Sl), ((((nthU k0 0).2)) : Int)) : Bu)]))).2))]) (.inl rfl) q1 n1 rfl rfl rfl rfl Tryd.underlying57 rfl sz57 ?_
   refine ⟨d0, z1, m1, ?_, n1.fr, n1.rx 23, (by rw [bRu, if_neg htn, if_neg (by omega), ← hdz, bRx_s h1 i1, ← hpb, ← hqb, ← blts_nth p0 0, ← blts_nth p0 1, ← blts_nth p0 2, ← blts_nth k0 0]; rw [y1]; simp only [blts_cons, blts_nil, p1])⟩
   exact cr (ret_u (by rfl) (by (rw [bRu, if_neg htn, if_neg (by omega), ← hdz, bRx_s h1 i1, ← hpb, ← hqb, ← blts_nth p0 0, ← blts_nth p0 1, ← blts_nth p0 2, ← blts_nth k0 0]; simp only [blts_cons, blts_nil, p1])))
  refine wcf z0 (decide_eq_false i1) fun p1 => ?_
  refine wsc fun z0 n1 => lR p1 fun z0 y1 => ?_
  have z0 : ¬ ((((nth t (t.length - 1)).K)) = 24) := (by omega)
  have p1 := y1.setb (d := 115) (b := false) rfl (decide_eq_false z0)
  refine lR p1 fun y1 m1 => ?_
  refine wn n1 <| wp_cond_false (m1.ev rfl) ?_
  refine wsc fun n1 y1 => lR m1 fun n1 p1 => ?_
  refine wn y1 ?_
  have y1 : ¬ ((((nth t (t.length - 1)).K)) = 27) := (by omega)
  refine wcf p1 (decide_eq_false y1) fun n1 => ?_
  refine wp_skip <| x_block_n <| xn b0 <| wsc fun p1 m1 => ?_
  have p1 := c0.nf
  refine kcl n1 ok45 (bstuck_calls _ _ p1.il ) ?_
  rintro n1 z1 ⟨d0, q1, o1, rfl, c1, x1, b1⟩
  have z1 := p1.below c1.below
  have c1 := p1.dN z1 x1
  refine ⟨_, rfl, fun z1 x1 => ?_⟩
  refine sto 0 x1 c1 fun z1 p1 n1 k1 => ?_
  refine wn m1 <| wp_ret <| e_cell (i := 0) (vs := [.slice d0 o1.length q1, .int .i64 (120)]) (.inl rfl) n1 k1 rfl rfl rfl rfl Tryd.underlying57 rfl sz57 ?_
  refine ⟨d0, q1, o1, ?_, k1.fr, k1.rx 10, (by rw [bRu, if_neg htn, if_neg (by omega), ← hdz]; simp [bRx, u0, j0, f0, h1, f1, i1, z0, y1]; exact b1)⟩
  exact cr (ret_u (by rfl) (by (rw [bRu, if_neg htn, if_neg (by omega), ← hdz]; simp [bRx, u0, j0, f0, h1, f1, i1, z0, y1])))
 have y1 := i0.setb (d := 72) (b := false) rfl (decide_eq_false h1)
 refine lR y1 fun i0 z0 => ?_
 refine wn o0 <| wp_cond_false (z0.ev rfl) ?_
 refine wsc fun o0 i0 => lR z0 fun o0 y1 => ?_
 have o0 := y1.setb (d := 83) (b := false) rfl (decide_eq_false h1)
 refine lR o0 fun y1 z0 => ?_
 refine wn i0 <| wp_cond_false (z0.ev rfl) ?_
 refine wsc fun i0 y1 => lR z0 fun i0 o0 => ?_
 rcases Decidable.em ((((nth t (t.length - 1)).K)) = 24) with i0 | i0
 ·
  have := many_24 i0
  have z0 := o0.setb (d := 115) (b := true) rfl (decide_eq_true i0)
  refine lR z0 fun i1 f1 => ?_
  refine wn y1 ?_
  rcases Decidable.em ((((nth ((nthS n0 ((((tgA t))).toNat)).2.2) (((nthS n0 ((((tgA t))).toNat)).2.2).length - 1)).K)) = 23) with i1 | i1
  ·
   have := many_23 i1
   refine wct f1 (decide_eq_true i1) fun n0 => ?_
   refine wp_seq_k fun z0 k1 => ?_
   obtain ⟨z0, b1, o1⟩ := c0.agree
   refine d_reg3 (n := 8) o1 10 pn (pan_then (pan_block (pan_then pan_body))) fun z0 q1 d0 n1 m1 p1 => ?_
   refine dR [0] n0 fun n1 z0 => ?_
   refine dix 1 1 (1 * 2) z0 (fun x hx => (us_elem (t := p0) (k := 1) (sdat (b1 3 _ rfl) hx.ag).2 (by omega)).some_) fun n1 n0 => ?_
   refine dt 2 rfl q1 n0 (want_n rfl) (fun x hx => m_loadEN (sy n0) n0 rfl rfl rfl (us_elem (t := p0) (k := 1) (sdat (b1 3 _ rfl) hx.ag).2 (by omega)) Tryd.underlying57 rfl sz57 (by decide) gt) p1 fun n1 z0 => ?_
   have n1 := m1.elU 4 1
   refine dR [3] z0 fun m1 n0 => ?_
   refine dix 4 1 (1 * 2) n0 (fun x hx => (us_elem (t := k0) (k := 1) (sdat (b1 8 _ rfl) hx.ag).2 (by omega)).some_) fun m1 z0 => ?_
   refine dt 5 rfl q1 z0 (want_n rfl) (fun x hx => m_loadEN (sy z0) z0 rfl rfl rfl (us_elem (t := k0) (k := 1) (sdat (b1 8 _ rfl) hx.ag).2 (by omega)) Tryd.underlying57 rfl sz57 (by decide) gt) p1 fun m1 n0 => ?_
   have m1 := n1.elU 9 1
   refine d1 6 ?_
   have n1 := m1.nf
   refine kcl n0 ok47 (bwith_calls _ _ n1.il _ _ ((nthU p0 1).1.2.2) (((nthU p0 1).2)) _ _ ((nthU k0 1).1.2.2) (((nthU k0 1).2)) (n1.g 11) (n1.g 12) (hsa := (by exact (hpe 1).1)) (hla := (by exact Nat.le_trans (hpe 1).2 (by decide))) (hsx := (by exact (hqe 1).1)) (hlx := (by exact Nat.le_trans (hqe 1).2 (by decide)))) ?_
   rintro n0 m1 ⟨z0, p1, q1, rfl, b1, o1, z1⟩
   have m1 := n1.below b1.below
   have b1 := n1.dN m1 o1
   refine ⟨_, rfl, fun m1 o1 => ?_⟩
   have m1 := sWI b1 10 pn
   refine ⟨m1, ?_⟩
   refine d1 7 ?_
   refine sto 0 o1 b1 fun m1 n1 n0 x1 => ?_
   have n1 := sWI x1 10 pn
   refine ⟨n1, ?_⟩
   refine wpAnyH_done (by kernel_rfl) (d0 _ _ ?_) _
   refine xn k1 <| wp_ret <| x_block_r <| x_then_r <| e_cell (i := 0) (vs := [.slice z0 q1.length p1, .int .i64 (((bAt (((nthU p0 1).1.2.2), (((nthU p0 1).2))) [(((nthU k0 1).1.2.2), (((nthU k0 1).2)))]).2))]) (.inl rfl) n0 x1 rfl rfl rfl rfl Tryd.underlying57 rfl sz57 ?_
   refine ⟨z0, p1, q1, ?_, x1.fr, x1.rx 13, (by rw [bRu, if_neg htn, if_neg (by omega), ← hdz, bRx_q i0 i1, ← hpb, ← hqb, ← blts_nth p0 1, ← blts_nth k0 1]; exact z1)⟩
   exact cr (ret_u (by rfl) (by (rw [bRu, if_neg htn, if_neg (by omega), ← hdz, bRx_q i0 i1, ← hpb, ← hqb, ← blts_nth p0 1, ← blts_nth k0 1]; first | done | rfl)))
  refine wcf f1 (decide_eq_false i1) fun k0 => ?_
  refine wsc fun f1 p0 => lR k0 fun f1 x1 => ?_
  refine wn p0 ?_
  have p0 : ¬ ((((nth t (t.length - 1)).K)) = 27) := (by omega)
  refine wcf x1 (decide_eq_false p0) fun f1 => ?_
  refine wp_skip <| x_block_n <| xn b0 <| wsc fun x1 k0 => ?_
  have x1 := c0.nf
  refine kcl f1 ok45 (bstuck_calls _ _ x1.il ) ?_
  rintro f1 z1 ⟨q1, p1, z0, rfl, n0, k1, d0⟩
  have z1 := x1.below n0.below
  have n0 := x1.dN z1 k1
  refine ⟨_, rfl, fun z1 k1 => ?_⟩
  refine sto 0 k1 n0 fun z1 x1 f1 n1 => ?_
  refine wn k0 <| wp_ret <| e_cell (i := 0) (vs := [.slice q1 z0.length p1, .int .i64 (120)]) (.inl rfl) f1 n1 rfl rfl rfl rfl Tryd.underlying57 rfl sz57 ?_
  refine ⟨q1, p1, z0, ?_, n1.fr, n1.rx 10, (by rw [bRu, if_neg htn, if_neg (by omega), ← hdz]; simp [bRx, u0, j0, f0, h1, i0, i1, p0]; exact d0)⟩
  exact cr (ret_u (by rfl) (by (rw [bRu, if_neg htn, if_neg (by omega), ← hdz]; simp [bRx, u0, j0, f0, h1, i0, i1, p0])))
 have p0 := o0.setb (d := 115) (b := false) rfl (decide_eq_false i0)
 refine lR p0 fun o0 i1 => ?_
 refine wn y1 <| wp_cond_false (i1.ev rfl) ?_
 refine wsc fun y1 o0 => lR i1 fun y1 p0 => ?_
 refine wn o0 ?_
 rcases Decidable.em ((((nth t (t.length - 1)).K)) = 27) with o0 | o0
 ·
  refine wct p0 (decide_eq_true o0) fun y1 => ?_
  refine wsc fun i1 n1 => lR y1 fun i1 d0 => ?_
  have i1 := c0.nf
  refine kcl d0 ok50 (bonelim_calls _ _ i1.il (nth t (t.length - 1)) _ _ _ _ _ _ (i1.g 0) (i1.g 1) (i1.g 2) (hst := hst) (hlt := hlt) (hct := hct) (hnt := rfl) (h27 := (by assumption)) (hcs := hcs) (hc4 := hc4)) ?_
  rintro d0 y1 ⟨z0, p1, q1, rfl, f1, k0, x1⟩
  have y1 := i1.below f1.below
  have f1 := i1.dN y1 k0
  refine ⟨_, rfl, fun y1 k0 => ?_⟩
  refine sto 0 k0 f1 fun y1 i1 d0 z1 => ?_
  refine wn n1 <| wp_ret <| x_block_r <| x_then_r <| e_cell (i := 0) (vs := [.slice z0 q1.length p1, .int .i64 (((bEl (nth t (t.length - 1)) t (lstsT cons)).2))]) (.inl rfl) d0 z1 rfl rfl rfl rfl Tryd.underlying57 rfl sz57 ?_
  refine ⟨z0, p1, q1, ?_, z1.fr, z1.rx 10, (by rw [bRu, if_neg htn, if_pos o0]; exact x1)⟩
  exact cr (ret_u (by rfl) (by (rw [bRu, if_neg htn, if_pos o0]; first | done | rfl)))
 refine wcf p0 (decide_eq_false o0) fun z1 => ?_
 refine wp_skip <| x_block_n <| xn b0 <| wsc fun b0 p0 => ?_
 have b0 := c0.nf
 refine kcl z1 ok45 (bstuck_calls _ _ b0.il ) ?_
 rintro z1 c0 ⟨x1, q1, p1, rfl, z0, d0, n1⟩
 have c0 := b0.below z0.below
 have z0 := b0.dN c0 d0
 refine ⟨_, rfl, fun c0 d0 => ?_⟩
 refine sto 0 d0 z0 fun c0 b0 z1 i1 => ?_
 refine wn p0 <| wp_ret <| e_cell (i := 0) (vs := [.slice x1 p1.length q1, .int .i64 (120)]) (.inl rfl) z1 i1 rfl rfl rfl rfl Tryd.underlying57 rfl sz57 ?_
 refine ⟨x1, q1, p1, ?_, i1.fr, i1.rx 10, (by rw [bRu, if_neg htn, if_neg (by omega), ← hdz]; simp [bRx, u0, j0, f0, h1, i0, o0]; exact n1)⟩
 exact cr (ret_u (by rfl) (by (rw [bRu, if_neg htn, if_neg (by omega), ← hdz]; simp [bRx, u0, j0, f0, h1, i0, o0])))
theorem bRule_calls (w0 : World) (Z : Nat → Prop) (hZ : ∀ k, Z k → k < w0.heap.size) (tA : Option Addr) (tc : Nat) (t : List Nd) (consA : Option Addr) (consc : Nat) (cons : List Tl) (ht : (dRow 4 tA t.length tc (encNs t)).φ w0 Z) (hcons : (dRow 1 consA cons.length consc (encTs cons)).φ w0 Z) (hconss : (dAllT cons).φ w0 Z) (hst : sml t := by first | assumption | omega | (simp <;> omega)) (hlt : t.length ≤ 5000 := by first | assumption | omega | (simp <;> omega)) (hcs : ∀ l ∈ lstsT cons, ∀ y ∈ l, sml y ∧ y.length ≤ 4000 := by first | assumption | omega | (simp <;> omega)) (hc4 : cons.length ≤ 1000 := by first | assumption | omega | (simp <;> omega)) :
    Calls Tryd.prog 9 [.slice tA t.length tc, .slice consA cons.length consc].toArray w0 (fun e w' => ∃ (rA0 : Option Addr) (rc0 : Nat), e = .returned (.tuple #[.slice rA0 ((bRq t (lstsT cons)).1).length rc0, .int .i64 ((bRq t (lstsT cons)).2)]) ∧ Fr none_ w0 w' ∧ (dRow 4 rA0 (((bRq t (lstsT cons)).1).length) rc0 (encNs ((bRq t (lstsT cons)).1))).φ w' (nxt Z w0 w')) := by
 have b0 := s0 (M := none_) hZ (zc ht (zc hcons (zc hconss zn)))
 refine c_enter Tryd.func9 rfl Tryd.ntmps9 rfl fun c0 d0 => ?_
 refine wsc fun c0 f0 => lR d0 fun c0 h0 => ?_
 refine wn f0 <| wsc fun f0 c0 => mv h0 fun f0 d0 => ?_
 have f0 := b0.nf
 refine kcl d0 ok24 (rcheck_calls _ _ f0.il _ _ _ (f0.g 0) (hl := (by omega)) (hsm := hst)) ?_
 rintro d0 b0 ⟨rfl, h0⟩
 have b0 := f0.below h0.below
 refine ⟨_, rfl, fun h0 f0 => ?_⟩
 refine aw f0 c0 fun h0 d0 => ?_
 refine wp_seq_k fun c0 h0 => wsc fun c0 f0 => lR d0 fun c0 i0 => ?_
 refine wn f0 ?_
 rcases Decidable.em (((chk t)) = 0) with f0 | f0
 ·
  have hct := f0
  obtain ⟨hus, hul⟩ := bRu_sz hct hst hcs
  refine wcfb i0 rfl (by rw [(decide_eq_true f0)]; rfl) fun c0 => ?_
  refine wp_skip <| xn h0 <| wsc fun h0 d0 => lR c0 fun h0 j0 => ?_
  have h0 := b0.nf
  refine kcl j0 ok26 (brule_calls _ _ h0.il _ _ _ _ _ _ (h0.g 0) (h0.g 1) (h0.g 2) (hst := hst) (hlt := hlt) (hct := hct) (hcs := hcs) (hc4 := hc4)) ?_
  rintro j0 c0 ⟨k0, m0, n0, rfl, o0, p0, q0⟩
  have m0 := h0.below o0.below
  have o0 := h0.dN m0 p0
  refine ⟨_, rfl, fun m0 p0 => ?_⟩
  have hus' : sml n0 := (by rw [q0]; exact hus)
  have hul' : n0.length ≤ 1000000 := (by rw [q0]; exact hul)
  have m0 := o0.nf
  refine kcl p0 ok25 (bdone_calls _ _ m0.il _ _ _ (((bRu t (lstsT cons)).2)) (m0.g 3) (hsa := hus') (hla := hul')) ?_
  rintro p0 o0 ⟨h0, k0, rfl, c0, j0⟩
  have o0 := m0.below c0.below
  have c0 := m0.dN o0 j0
  refine ⟨_, rfl, fun o0 j0 => ?_⟩
  refine lR j0 fun o0 m0 => ?_
  refine wn d0 <| wp_ret <| er2 m0 ?_
  have m0 : (bRq t (lstsT cons)).1 = (bDone (n0, (((bRu t (lstsT cons)).2)))).1 := (by unfold bRq; rw [if_pos (by assumption)]; rw [q0])
  rw [m0]
  refine ⟨h0, k0, ?_, c0.fr, c0.rx 4⟩
  exact ret_t2 rfl (ret_i (by (unfold bRq; rw [if_pos (by assumption), q0])))
 refine wctb i0 rfl (by rw [(decide_eq_false f0)]; rfl) fun q0 => ?_
 refine wsc fun f0 i0 => lR q0 fun f0 c0 => ?_
 refine wn i0 <| wp_ret <| x_then_r <| er2 c0 ?_
 have c0 : (bRq t (lstsT cons)).1 = [] := (by unfold bRq; rw [if_neg (by assumption)])
 rw [c0]
 refine ⟨none, 0, ?_, b0.fr, ⟨Nat.le_refl _, RowI.nil _ _ _ _⟩⟩
 exact ret_t2 rfl (ret_i (by (unfold bRq; rw [if_neg (by assumption)])))
theorem bad14_calls (w0 : World) (Z : Nat → Prop) (hZ : ∀ k, Z k → k < w0.heap.size) (consA : Option Addr) (consc : Nat) (cons : List Tl) (hcons : (dRow 1 consA cons.length consc (encTs cons)).φ w0 Z) (hconss : (dAllT cons).φ w0 Z) :
    Calls Tryd.prog 6 [.slice consA cons.length consc].toArray w0 (fun e w' => e = .returned (.bool (badB (lstsT cons))) ∧ Fr none_ w0 w') := by
 have b0 := s0 (M := none_) hZ (zc hcons (zc hconss zn))
 refine c_enter Tryd.func6 rfl Tryd.ntmps6 rfl fun c0 d0 => ?_
 refine wsc fun c0 f0 => aw d0 f0 fun c0 h0 => ?_
 refine wp_seq_k fun f0 c0 => wsc fun f0 d0 => lR h0 fun f0 i0 => ?_
 refine wn d0 ?_
 rcases Decidable.em (6 < ((cons.length : Nat) : Int)) with d0 | d0
 ·
  refine wct i0 (decide_eq_true d0) fun f0 => ?_
  refine wsc fun h0 j0 => aw f0 j0 fun h0 k0 => ?_
  refine wp_ret <| x_then_r <| er1 k0 ?_
  refine ⟨?_, b0.fr⟩
  exact cr (ret_b (by exact (badB_len (by rw [lstsT_len]; omega)).symm))
 refine wcf i0 (decide_eq_false d0) fun k0 => ?_
 refine wp_skip <| xn c0 <| wp_seq_k fun c0 d0 => wsc fun c0 i0 => aw k0 i0 fun c0 j0 => ?_
 refine wp_block ?_
 refine wp_loop_ghost (fun gn ga gw => ∃ i : Nat, (Reg ga 56 [(1000000, .bool false), (0, .slice consA cons.length consc), (3, .int .i64 ((i : Nat) : Int))]) ∧ (St w0 Z none_ gw [] [dRow 1 consA cons.length consc (encTs cons), dAllT cons]) ∧ (i ≤ cons.length) ∧ (∀ j, j < i → badL (nthLL (lstsT cons) j) = false) ∧ (cons.length - i) = gn) _ ⟨0, (j0.sub (rc2 (rc rfl rnl))), b0, by omega, (fun _ h => by omega), rfl⟩ ?_
 rintro j0 b0 i0 ⟨i, c0, k0, hki, hi, h0⟩
 refine wp_seq_k fun h0 i0 => wsc fun h0 b0 => lR c0 fun h0 j0 => ?_
 refine wn b0 ?_
 rcases Decidable.em (((i : Nat) : Int) < ((cons.length : Nat) : Int)) with b0 | b0
 ·
  refine wct j0 (decide_eq_true b0) fun h0 => ?_
  refine wp_skip <| xn i0 <| wp_seq_k fun i0 c0 => wp_block ?_
  refine wp_seq_k fun i0 f0 => wsc fun i0 m0 => lR h0 fun i0 n0 => ?_
  refine ix i (i * 1) n0 (ts_elem (t := cons) (k := i) (k0.row (i := 0) rfl).2 (by omega)).some_ fun i0 h0 => ?_
  refine lde 0 (i * 1) h0 (ts_elem (t := cons) (k := i) (k0.row (i := 0) rfl).2 (by omega)) fun i0 n0 => ?_
  have i0 := k0.elT 1 i
  have h0 := i0.elA 1 i
  refine lR n0 fun i0 o0 => ?_
  refine wn m0 ?_
  rcases Decidable.em (6 < (((nthT cons i).2.2.length : Nat) : Int)) with m0 | m0
  ·
   refine wct o0 (decide_eq_true m0) fun i0 => ?_
   refine wsc fun n0 p0 => aw i0 p0 fun n0 q0 => ?_
   refine wp_ret <| x_then_r <| x_block_r <| x_then_r <| x_then_r <| x_block_r <| x_then_r <| er1 q0 ?_
   refine ⟨?_, h0.fr⟩
   exact cr (ret_b (by exact (bad_1 (i := i) (by omega) (by omega)).symm))
  refine wcf o0 (decide_eq_false m0) fun q0 => ?_
  refine wp_skip <| xn f0 <| wsc fun f0 m0 => aw q0 m0 fun f0 o0 => ?_
  refine wp_block ?_
  refine wp_loop_ghost (fun gn ga gw => ∃ k : Nat, (Reg ga 56 [(1000000, .bool false), (0, .slice consA cons.length consc), (3, .int .i64 ((i : Nat) : Int)), (4, .int .i64 ((k : Nat) : Int))]) ∧ (St w0 Z none_ gw [] [dRow 1 consA cons.length consc (encTs cons), dAllT cons, dRow 1 ((nthT cons i).1) ((nthT cons i).2.2.length) ((nthT cons i).2.1) (encSs ((nthT cons i).2.2)), dAll ((nthT cons i).2.2)]) ∧ (k ≤ (nthT cons i).2.2.length) ∧ (∀ j, j < k → badY (nthL (nthLL (lstsT cons) i) j) = false) ∧ ((nthT cons i).2.2.length - k) = gn) _ ⟨0, (o0.sub (rc2 (rc rfl (rc rfl rnl)))), h0, by omega, (fun _ h => by omega), rfl⟩ ?_
  rintro o0 h0 m0 ⟨k, f0, q0, hkk, p0, n0⟩
  refine wp_seq_k fun n0 m0 => wsc fun n0 h0 => lR f0 fun n0 o0 => ?_
  refine ix i (i * 1) o0 (ts_elem (t := cons) (k := i) (q0.row (i := 0) rfl).2 (by omega)).some_ fun n0 f0 => ?_
  refine lde 0 (i * 1) f0 (ts_elem (t := cons) (k := i) (q0.row (i := 0) rfl).2 (by omega)) fun n0 o0 => ?_
  have n0 := q0.elT 1 i
  have q0 := n0.elA 1 i
  refine lR o0 fun n0 f0 => ?_
  refine wn h0 ?_
  rcases Decidable.em (((k : Nat) : Int) < (((nthT cons i).2.2.length : Nat) : Int)) with h0 | h0
  ·
   refine wct f0 (decide_eq_true h0) fun n0 => ?_
   refine wp_skip <| xn m0 <| wp_seq_k fun m0 o0 => wp_block ?_
   refine wp_seq_k fun m0 i0 => wsc fun m0 t0 => lR n0 fun m0 u0 => ?_
   refine ix i (i * 1) u0 (ts_elem (t := cons) (k := i) (q0.row (i := 0) rfl).2 (by omega)).some_ fun m0 n0 => ?_
   refine lde 0 (i * 1) n0 (ts_elem (t := cons) (k := i) (q0.row (i := 0) rfl).2 (by omega)) fun m0 u0 => ?_
   have m0 := q0.elT 1 i
   have n0 := m0.elA 1 i
   refine mv u0 fun m0 v0 => ?_
   refine ix k (k * 1) v0 (ss_elem (t := (nthT cons i).2.2) (k := k) (n0.row (i := 6) rfl).2 (by omega)).some_ fun m0 u0 => ?_
   refine lde 0 (k * 1) u0 (ss_elem (t := (nthT cons i).2.2) (k := k) (n0.row (i := 6) rfl).2 (by omega)) fun m0 v0 => ?_
   have m0 := n0.el 7 k
   have n0 := m0.nf
   refine kcl v0 ok5 (heavy14_calls _ _ n0.il _ _ ((nthS ((nthT cons i).2.2) k).2.2) (n0.g 8)) ?_
   rintro v0 m0 ⟨rfl, u0⟩
   have m0 := n0.below u0.below
   refine ⟨_, rfl, fun u0 n0 => ?_⟩
   refine wn t0 ?_
   rcases Bool.eq_false_or_eq_true (heavyB 120 ((nthS ((nthT cons i).2.2) k).2.2)) with t0 | t0
   ·
    refine wct n0 t0 fun u0 => ?_
    refine wsc fun v0 x0 => aw u0 x0 fun v0 y0 => ?_
    refine wp_ret <| x_then_r <| x_block_r <| x_then_r <| x_then_r <| x_block_r <| x_block_r <| x_then_r <| x_then_r <| x_block_r <| x_then_r <| er1 y0 ?_
    refine ⟨?_, m0.fr⟩
    exact cr (ret_b (by exact (bad_2 (i := i) (k := k) (by omega) (by omega) (.inl (by assumption))).symm))
   obtain ⟨hlx, hsx⟩ := heavy_false t0
   refine wcf n0 t0 fun y0 => ?_
   refine wp_skip <| xn i0 <| wsc fun i0 t0 => lR y0 fun i0 n0 => ?_
   refine ix i (i * 1) n0 (ts_elem (t := cons) (k := i) (m0.row (i := 0) rfl).2 (by omega)).some_ fun i0 y0 => ?_
   refine lde 0 (i * 1) y0 (ts_elem (t := cons) (k := i) (m0.row (i := 0) rfl).2 (by omega)) fun i0 n0 => ?_
   have i0 := m0.elT 1 i
   have m0 := i0.elA 1 i
   refine mv n0 fun i0 y0 => ?_
   refine ix k (k * 1) y0 (ss_elem (t := (nthT cons i).2.2) (k := k) (m0.row (i := 9) rfl).2 (by omega)).some_ fun i0 n0 => ?_
   refine lde 0 (k * 1) n0 (ss_elem (t := (nthT cons i).2.2) (k := k) (m0.row (i := 9) rfl).2 (by omega)) fun i0 y0 => ?_
   have i0 := m0.el 10 k
   have m0 := i0.nf
   refine kcl y0 ok18 (rfree_calls _ _ m0.il _ _ ((nthS ((nthT cons i).2.2) k).2.2) (m0.g 11) (hl := (by omega)) (hsm := hsx)) ?_
   rintro y0 i0 ⟨rfl, n0⟩
   have i0 := m0.below n0.below
   refine ⟨_, rfl, fun n0 m0 => ?_⟩
   refine lR m0 fun n0 y0 => ?_
   refine wn t0 <| wsc fun t0 n0 => lR y0 fun t0 m0 => ?_
   refine lOr 2 (decide (0 < ((frF ((nthS ((nthT cons i).2.2) k).2.2))))) m0 fun t0 y0 => ?_
   refine wn n0 ?_
   rcases Bool.eq_false_or_eq_true (((!(decide (((chk ((nthS ((nthT cons i).2.2) k).2.2))) = 0))) || (decide (0 < ((frF ((nthS ((nthT cons i).2.2) k).2.2))))))) with n0 | n0
   ·
    have t0 := n0
    try simp only [bz] at t0
    refine wct y0 n0 fun t0 => ?_
    refine wsc fun m0 x0 => aw t0 x0 fun m0 v0 => ?_
    refine wp_ret <| x_block_r <| x_then_r <| x_then_r <| x_block_r <| x_block_r <| x_then_r <| x_then_r <| x_block_r <| x_then_r <| er1 v0 ?_
    refine ⟨?_, i0.fr⟩
    exact cr (ret_b (by exact (bad_2 (i := i) (k := k) (by omega) (by omega) (.inr (Decidable.or_iff_not_imp_left.2 (fun q => by simp_all)))).symm))
   have v0 := or_fl n0
   have x0 := not_f v0
   have v0 := of_decide_eq_true x0
   have v0 := or_fr n0
   have x0 := of_decide_eq_false v0
   refine wcf y0 n0 fun x0 => ?_
   refine wp_skip <| x_block_n <| xn o0 <| c_region ?_
   refine mv x0 fun o0 n0 => ?_
   refine adi ((k + 1 : Nat) : Int) n0 fun o0 x0 => ?_
   refine asg x0 fun o0 n0 => ?_
   refine wpList_nil ?_
   have o0 := i0.forget 11
   have i0 := o0.forget 10
   have o0 := i0.forget 9
   have i0 := o0.forget 8
   have o0 := i0.forget 7
   have i0 := o0.forget 6
   have o0 := i0.forget 5
   have i0 := o0.forget 4
   exact ⟨_, by omega, k + 1, (n0.sub (rc2 (rc rfl (rc rfl rnl)))), i0, by omega, upto p0 (bad_y (by assumption) (by assumption) (by assumption)), rfl⟩
  refine wcf f0 (decide_eq_false h0) fun i0 => ?_
  refine wp_exit ?_
  refine x_then_e ?_
  refine x_then_e ?_
  refine x_block_eq ?_
  refine x_block_n <| xn c0 <| c_region ?_
  refine mv i0 fun c0 h0 => ?_
  refine adi ((i + 1 : Nat) : Int) h0 fun c0 i0 => ?_
  refine asg i0 fun c0 h0 => ?_
  refine wpList_nil ?_
  have c0 := q0.forget 5
  have q0 := c0.forget 4
  have c0 := q0.forget 3
  have q0 := c0.forget 2
  exact ⟨_, by omega, i + 1, (h0.sub (rc2 (rc rfl rnl))), q0, by omega, upto hi (bad_4 (k := k) (by omega) p0 (by omega)), rfl⟩
 refine wcf j0 (decide_eq_false b0) fun q0 => ?_
 refine wp_exit ?_
 refine x_then_e ?_
 refine x_then_e ?_
 refine x_block_eq ?_
 refine xn d0 <| wsc fun d0 b0 => aw q0 b0 fun d0 j0 => ?_
 refine wp_ret <| er1 j0 ?_
 refine ⟨?_, k0.fr⟩
 exact cr (ret_b (by exact (bad_3 (by omega) hi (by omega)).symm))
theorem nodeO_calls (w0 : World) (Z : Nat → Prop) (hZ : ∀ k, Z k → k < w0.heap.size) (mg : Nat) (mt : TypeId) (me : Int) (mr : List Value) (n : Nd) (pA : Option Addr) (pc : Nat) (p : List Sl) (hm : (Res.box mg mt (.int .i64 me :: mr)).holds w0) (hmz : ¬ Z mg) (hp : (dRow 1 pA p.length pc (encSs p)).φ w0 Z) (hps : (dAll p).φ w0 Z) (hl : p.length ≤ 9 := by first | assumption | omega | (simp <;> omega)) (hb : ∀ s ∈ p, s.2.2.length ≤ 1000000 := by first | assumption | omega | (simp <;> omega)) :
    Calls Tryd.prog 59 [.pointer (some ⟨mg, 0, none⟩), .agg #[.int .i64 (n.K), .int .i64 (n.N), .int .i64 (n.M), .string n.S], .slice pA p.length pc].toArray w0 (fun e w' => ∃ (rA0 : Option Addr) (rc0 : Nat), e = .returned (.slice rA0 (noL me n (lsts p)).length rc0) ∧ Fr (· = mg) w0 w' ∧ (Res.box mg mt (.int .i64 (me) :: mr)).holds w' ∧ (Res.row rA0 (noL me n (lsts p)).length rc0 39 4 (encNs (noL me n (lsts p)))).holds w' ∧ (∀ k, (Res.row rA0 (noL me n (lsts p)).length rc0 39 4 (encNs (noL me n (lsts p)))).blk = some k → w0.heap.size ≤ k)) := by
 have b0 := sM hm hmz hZ (zc hp (zc hps zn))
 refine c_enter Tryd.func59 rfl Tryd.ntmps59 rfl fun c0 d0 => ?_
 refine wsc fun c0 f0 => bxx d0 b0 fun c0 h0 i0 j0 k0 => ?_
 refine aw j0 f0 fun h0 c0 => ?_
 refine wp_seq_k fun f0 h0 => wsc fun f0 j0 => lR c0 fun f0 d0 => ?_
 refine wn j0 ?_
 rcases Decidable.em ((me) = 0) with j0 | j0
 ·
  refine wcfb d0 rfl (by rw [(decide_eq_true j0)]; rfl) fun f0 => ?_
  refine wp_skip <| xn h0 <| wsc fun h0 c0 => aw f0 c0 fun h0 b0 => ?_
  refine wp_seq_k fun c0 h0 => wsc fun c0 f0 => lR b0 fun c0 m0 => ?_
  refine wn f0 <| wp_block ?_
  have f0 := k0.nilrow 39 4
  refine wp_loop_ghost (fun gn ga gw => ∃ k : Nat, ∃ Ao : Option Addr, ∃ co : Nat, (Reg ga 29 [(1000000, .bool false), (4, .pointer (some ⟨i0, 0, none⟩)), (6, .slice none 0 0), (15, .slice pA p.length pc), (16, .int .i64 ((p.length : Nat) : Int)), (17, .int .i64 ((k : Nat) : Int)), (7, .slice Ao (((lsts (p.take k)).flatten).length) co)]) ∧ (St w0 Z (· = mg) gw [.box mg mt (.int .i64 (me) :: mr), .box i0 39 [.int .i64 (n.K), .int .i64 (n.N), .int .i64 (n.M), .string n.S], .row Ao (((lsts (p.take k)).flatten).length) co 39 4 (encNs ((lsts (p.take k)).flatten))] [dRow 1 pA p.length pc (encSs p), dAll p]) ∧ (k ≤ p.length) ∧ (p.length - k) = gn) _ ⟨0, none, 0, (m0.sub (rc4 (rc2 (rc rfl rnl)))), f0, by omega, rfl⟩ ?_
  rintro f0 m0 i0 ⟨k, Ao, co, c0, b0, hk, n0⟩
  have hfl := flat_le hb hk
  refine wsc fun n0 i0 => lR c0 fun n0 m0 => ?_
  refine wn i0 <| wp_seq_k fun i0 n0 => ?_
  rcases Decidable.em (((k : Nat) : Int) < ((p.length : Nat) : Int)) with i0 | i0
  ·
   refine wct m0 (decide_eq_true i0) fun c0 => ?_
   refine wp_skip <| xn n0 <| wp_seq_k fun n0 f0 => wp_block ?_
   refine wsc fun n0 o0 => ix k (k * 1) c0 (ss_elem (t := p) (k := k) (b0.row (i := 0) rfl).2 (by omega)).some_ fun n0 p0 => ?_
   refine lde 0 (k * 1) p0 (ss_elem (t := p) (k := k) (b0.row (i := 0) rfl).2 (by omega)) fun n0 c0 => ?_
   have n0 := b0.el 1 k
   refine asg c0 fun p0 q0 => ?_
   refine wpList_nil (x_then_n (o0 _ _ (c_region ?_)))
   refine lR q0 fun o0 p0 => ?_
   refine m_appendF (f := encN) (i := 2) ((lsts (p.take k)).flatten) ((nthS p k).2.2) sv p0 n0 rfl rfl rfl rfl rfl encN_len (encN_one _) Tryd.underlying22 zi39 rfl rfl (n0.row (i := 2) rfl).2.news rfl (by omega) (by decide) fun o0 q0 c0 s0 t0 u0 v0 => ?_
   have t0 : (((lsts (p.take k)).flatten) ++ ((nthS p k).2.2)).length = ((lsts (p.take k)).flatten).length + (nthS p k).2.2.length := by (simp only [List.length_append, List.length_take, List.length_cons, List.length_nil]; done)
   refine asg u0 fun t0 q0 => ?_
   refine wpList_nil ?_
   refine x_block_n <| xn f0 <| c_region ?_
   refine adi ((k + 1 : Nat) : Int) q0 fun f0 t0 => ?_
   refine mv t0 fun f0 q0 => ?_
   refine wpList_nil ?_
   have f0 : ((lsts (p.take k)).flatten) ++ ((nthS p k).2.2) = (lsts (p.take (k + 1))).flatten := (flat_step (by omega)).symm
   have t0 := q0
   have q0 := v0
   rw [f0] at t0 q0
   have f0 := q0.forget 2
   exact ⟨_, by omega, k + 1, c0, s0, (t0.sub (rc4 (rc2 (rc rfl rnl)))), f0, by omega, rfl⟩
  refine wcf m0 (decide_eq_false i0) fun f0 => ?_
  refine wp_exit ?_
  refine x_then_e ?_
  refine x_then_e ?_
  refine x_block_eq ?_
  refine xn h0 <| wsc fun h0 i0 => lR f0 fun h0 m0 => ?_
  refine bsl m0 b0 fun h0 f0 t0 s0 c0 => ?_
  refine m_appendF (f := encN) (i := 2) ((lsts (p.take k)).flatten) ([n]) sv s0 c0 rfl rfl rfl rfl rfl encN_len (encN_one _) Tryd.underlying22 zi39 rfl rfl (own_lnews (f := encN) (c0.res (i := 3) rfl)) rfl (by (simp only [List.length_cons, List.length_nil]; omega)) (by decide) fun t0 f0 h0 m0 b0 q0 v0 => ?_
  have b0 : (((lsts (p.take k)).flatten) ++ ([n]) : List Nd).length = ((lsts (p.take k)).flatten).length + 1 := by (simp only [List.length_append, List.length_take, List.length_cons, List.length_nil]; done)
  have b0 := v0.erase 3
  refine aw q0 i0 fun v0 f0 => ?_
  refine wp_ret <| er1 f0 ?_
  have f0 : noL me n (lsts p) = ((lsts (p.take k)).flatten) ++ ([n]) := (by unfold noL; rw [if_pos (by assumption), List.take_of_length_le (by omega)])
  rw [f0]
  refine ⟨h0, m0, ?_, b0.fr, b0.res (i := 0) rfl, (b0.res (i := 2) rfl), (b0.freshM (i := 2) (j := 0) rfl rfl (by decide))⟩
  exact cr rfl
 refine wctb d0 rfl (by rw [(decide_eq_false j0)]; rfl) fun b0 => ?_
 refine wsc fun j0 d0 => aw b0 d0 fun j0 m0 => ?_
 refine wp_ret <| x_then_r <| er1 m0 ?_
 have m0 : noL me n (lsts p) = [] := (by unfold noL; rw [if_neg (by assumption)])
 rw [m0]
 refine ⟨none, 0, ?_, k0.fr, k0.res (i := 0) rfl, nil_row1, nil_row2⟩
 exact cr rfl
set_option maxHeartbeats 6000000 in
theorem uagainO_calls (w0 : World) (Z : Nat → Prop) (hZ : ∀ k, Z k → k < w0.heap.size) (rg : Nat) (re : Int) (rn : Nd) (rx : Nd) (rpA : Option Addr) (rpc : Nat) (rp : List Sl) (rqA : Option Addr) (rqc : Nat) (rq : List Sl) (rkA : Option Addr) (rkc : Nat) (rk : List Tl) (tA : Option Addr) (tc : Nat) (t : List Nd) (hr : (Res.box rg 50 [.int .i64 (re), .int .i64 (rn.K), .int .i64 (rn.N), .int .i64 (rn.M), .string rn.S, .int .i64 (rx.K), .int .i64 (rx.N), .int .i64 (rx.M), .string rx.S, .slice rpA rp.length rpc, .slice rqA rq.length rqc, .slice rkA rk.length rkc]).holds w0) (hrz : ¬ Z rg) (hrp : (dRow 1 rpA rp.length rpc (encSs rp)).φ w0 Z) (hrps : (dAll rp).φ w0 Z) (hrq : (dRow 1 rqA rq.length rqc (encSs rq)).φ w0 Z) (hrqs : (dAll rq).φ w0 Z) (hrk : (dRow 1 rkA rk.length rkc (encTs rk)).φ w0 Z) (hrks : (dAllT rk).φ w0 Z) (ht : (dRow 4 tA t.length tc (encNs t)).φ w0 Z) (hp4 : rp.length ≤ 9 := by first | assumption | omega | (simp <;> omega)) (hq4 : rq.length ≤ 9 := by first | assumption | omega | (simp <;> omega)) (hps : ∀ x ∈ lsts rp, sml x ∧ x.length ≤ 4000 := by first | assumption | omega | (simp <;> omega)) (hqs : ∀ x ∈ lsts rq, sml x ∧ x.length ≤ 4000 := by first | assumption | omega | (simp <;> omega)) (h0p : 0 < rp.length := by first | assumption | omega | (simp <;> omega)) (hsn : rn.S.size < 1000000 := by first | assumption | omega | (simp <;> omega)) (hst : sml t := by first | assumption | omega | (simp <;> omega)) (hlt : t.length ≤ 4000 := by first | assumption | omega | (simp <;> omega)) :
    Calls Tryd.prog 40 [.pointer (some ⟨rg, 0, none⟩), .slice tA t.length tc].toArray w0 (fun e w' => ∃ (rA0 : Option Addr) (rc0 : Nat), e = .returned (.slice rA0 (noL re rn ((lsts rp).set ((lsts rp).length - 1) t)).length rc0) ∧ Fr (· = rg) w0 w' ∧ (Res.box rg 50 [.int .i64 (re), .int .i64 (rn.K), .int .i64 (rn.N), .int .i64 (rn.M), .string rn.S, .int .i64 (rx.K), .int .i64 (rx.N), .int .i64 (rx.M), .string rx.S, .slice rpA rp.length rpc, .slice rqA rq.length rqc, .slice rkA rk.length rkc]).holds w' ∧ (Res.row rA0 (noL re rn ((lsts rp).set ((lsts rp).length - 1) t)).length rc0 39 4 (encNs (noL re rn ((lsts rp).set ((lsts rp).length - 1) t)))).holds w' ∧ (∀ k, (Res.row rA0 (noL re rn ((lsts rp).set ((lsts rp).length - 1) t)).length rc0 39 4 (encNs (noL re rn ((lsts rp).set ((lsts rp).length - 1) t)))).blk = some k → w0.heap.size ≤ k)) := by
 have b0 := sM hr hrz hZ (zc hrp (zc hrps (zc hrq (zc hrqs (zc hrk (zc hrks (zc ht zn)))))))
 refine c_enter Tryd.func40 rfl Tryd.ntmps40 rfl fun c0 d0 => ?_
 refine wsc fun c0 f0 => aw d0 f0 fun c0 h0 => ?_
 refine wsc fun f0 c0 => lR h0 fun f0 d0 => ?_
 have f0 := b0.nf
 refine kcl d0 ok58 (cloneS_calls _ _ f0.il _ _ _ (f0.g 0) (f0.g 1)) ?_
 rintro d0 b0 ⟨h0, i0, rfl, j0, k0, m0⟩
 have b0 := f0.callO j0 k0 m0
 refine ⟨_, rfl, fun m0 k0 => ?_⟩
 refine aw k0 c0 fun m0 j0 => ?_
 refine wsc fun c0 m0 => lR j0 fun c0 k0 => ?_
 refine sbi (((rp.length : Nat) : Int) - 1) k0 fun c0 j0 => ?_
 refine mv j0 fun c0 k0 => ?_
 refine ix ((rp.length) - (1)) (((rp.length) - (1)) * 1) k0 (own_ss (t := rp) (k := (rp.length) - (1)) (b0.res (i := 1) rfl) (by omega)).some_ fun c0 j0 => ?_
 refine m_storeE (f := encS) (i := 1) (k := (rp.length) - (1)) (L := rp) (z := ((tA, tc, t) : Sl)) se j0 b0 rfl rfl rfl rfl rfl rfl (by omega) encS_len (one1 (f := encS) encS_one) rfl sz22 fun c0 k0 f0 d0 => ?_
 have k0 : (rp.set ((rp.length) - (1)) ((tA, tc, t) : Sl)).length = rp.length := by simp
 have c0 := d0.data (dAll (rp.set ((rp.length) - (1)) ((tA, tc, t) : Sl))) (all_set (k := (rp.length) - (1)) (z := ((tA, tc, t) : Sl)) (d0.get (i := 1) rfl) (d0.get (i := 6) rfl))
 refine wn m0 <| wp_seq_k fun m0 d0 => ?_
 obtain ⟨m0, j0, b0⟩ := c0.agree
 refine d_reg3 (n := 10) b0 8 (pB 0 0 pn) (pan_then pan_body) fun j0 m0 c0 n0 o0 p0 => ?_
 refine dR [0, 1, 2, 3, 4, 5] f0 fun n0 j0 => ?_
 refine dt 6 rfl m0 j0 (want_n rfl) (fun x hx => m_loadCN (sy j0) j0 rfl rfl rfl (CellsAt.cons_ (hx.c 1) (CellsAt.cons_ (hx.c 2) (CellsAt.cons_ (hx.c 3) (CellsAt.cons_ (hx.c 4) (CellsAt.nil _ _))))) Tryd.underlying39 rfl sz39 (by decide) gt) p0 fun n0 f0 => ?_
 refine dR [7] f0 fun n0 j0 => ?_
 refine d1 8 ?_
 have n0 := o0.nf
 have o0 := own_cap (n0.res (i := 1) rfl)
 obtain ⟨f0, p0⟩ := n0.row_dataM (i := 1) rfl (j := 0) rfl (by decide)
 have n0 := j0.conss j0 (i := 10) rfl k0
 have j0 := n0.conss n0 (i := 5) rfl k0
 have n0 := j0.conss j0 (i := 11) rfl k0
 have j0 := n0.conss n0 (i := 12) rfl k0
 have n0 := j0.conss j0 (i := 24) rfl k0
 have j0 := f0.data (dRow 1 h0 ((rp.set ((rp.length) - (1)) ((tA, tc, t) : Sl)).length) i0 (encSs (rp.set ((rp.length) - (1)) ((tA, tc, t) : Sl)))) ⟨o0, p0⟩
 refine kcl n0 ok59 (nodeO_calls _ _ j0.il _ _ _ _ rn _ _ (rp.set ((rp.length) - (1)) ((tA, tc, t) : Sl)) (j0.z 0) (imm_box (i := 0) rfl) (j0.g 9) (j0.g 7) (hl := (by rw [List.length_set]; omega)) (hb := (fun s hs => Nat.le_trans (set_bd hps hlt s hs) (by decide)))) ?_
 rintro n0 p0 ⟨f0, o0, rfl, i0, h0, k0, m0⟩
 have p0 := j0.callMO (i := 0) rfl i0 h0 k0 m0
 refine ⟨_, rfl, fun m0 k0 => ?_⟩
 have m0 := sWI p0 8 (pB 0 0 pn)
 refine ⟨m0, ?_⟩
 refine dR [9] k0 fun m0 h0 => ?_
 refine wpAnyH_done (by kernel_rfl) (c0 _ _ ?_) _
 refine xn d0 <| wp_ret <| er1 h0 ?_
 have h0 : noL re rn ((lsts rp).set ((lsts rp).length - 1) t) = noL (re) rn (lsts (rp.set ((rp.length) - (1)) ((tA, tc, t) : Sl))) := (by rw [lsts_set, lsts_len])
 rw [h0]
 refine ⟨f0, o0, ?_, p0.fr, p0.res (i := 0) rfl, (p0.res (i := 1) rfl), (p0.freshM (i := 1) (j := 0) rfl rfl (by decide))⟩
 exact cr rfl
set_option maxHeartbeats 6000000 in
theorem uunder_calls (w0 : World) (Z : Nat → Prop) (hZ : ∀ k, Z k → k < w0.heap.size) (rg : Nat) (re : Int) (rn : Nd) (rx : Nd) (rpA : Option Addr) (rpc : Nat) (rp : List Sl) (rqA : Option Addr) (rqc : Nat) (rq : List Sl) (rkA : Option Addr) (rkc : Nat) (rk : List Tl) (tA : Option Addr) (tc : Nat) (t : List Nd) (aA : Option Addr) (ac : Nat) (a : List Nd) (hShp : Shapes w0 Z) (hr : (Res.box rg 50 [.int .i64 (re), .int .i64 (rn.K), .int .i64 (rn.N), .int .i64 (rn.M), .string rn.S, .int .i64 (rx.K), .int .i64 (rx.N), .int .i64 (rx.M), .string rx.S, .slice rpA rp.length rpc, .slice rqA rq.length rqc, .slice rkA rk.length rkc]).holds w0) (hrz : ¬ Z rg) (hrp : (dRow 1 rpA rp.length rpc (encSs rp)).φ w0 Z) (hrps : (dAll rp).φ w0 Z) (hrq : (dRow 1 rqA rq.length rqc (encSs rq)).φ w0 Z) (hrqs : (dAll rq).φ w0 Z) (hrk : (dRow 1 rkA rk.length rkc (encTs rk)).φ w0 Z) (hrks : (dAllT rk).φ w0 Z) (ht : (dRow 4 tA t.length tc (encNs t)).φ w0 Z) (ha : (dRow 4 aA a.length ac (encNs a)).φ w0 Z) (hp4 : rp.length ≤ 9 := by first | assumption | omega | (simp <;> omega)) (hq4 : rq.length ≤ 9 := by first | assumption | omega | (simp <;> omega)) (hps : ∀ x ∈ lsts rp, sml x ∧ x.length ≤ 4000 := by first | assumption | omega | (simp <;> omega)) (hqs : ∀ x ∈ lsts rq, sml x ∧ x.length ≤ 4000 := by first | assumption | omega | (simp <;> omega)) (h0p : 0 < rp.length := by first | assumption | omega | (simp <;> omega)) (hsn : rn.S.size < 1000000 := by first | assumption | omega | (simp <;> omega)) (hst : sml t := by first | assumption | omega | (simp <;> omega)) (hlt : t.length ≤ 4000 := by first | assumption | omega | (simp <;> omega)) (hct : chk t = 0 := by first | assumption | omega | (simp <;> omega)) (hk3 : (nth t (t.length - 1)).K = 3 := by first | assumption | omega | (simp <;> omega)) (hsa : sml a := by first | assumption | omega | (simp <;> omega)) (hla : a.length ≤ 4000 := by first | assumption | omega | (simp <;> omega)) :
    Calls Tryd.prog 72 [.pointer (some ⟨rg, 0, none⟩), .slice tA t.length tc, .slice aA a.length ac].toArray w0 (fun e w' => ∃ (rA0 : Option Addr) (rc0 : Nat), e = .returned (.slice rA0 (unL re rn (lsts rp) t a).length rc0) ∧ Fr (· = rg) w0 w' ∧ (Res.box rg 50 [.int .i64 ((unA re (lsts rp) a)), .int .i64 (rn.K), .int .i64 (rn.N), .int .i64 (rn.M), .string rn.S, .int .i64 (rx.K), .int .i64 (rx.N), .int .i64 (rx.M), .string rx.S, .slice rpA rp.length rpc, .slice rqA rq.length rqc, .slice rkA rk.length rkc]).holds w' ∧ (Res.row rA0 (unL re rn (lsts rp) t a).length rc0 39 4 (encNs (unL re rn (lsts rp) t a))).holds w' ∧ (∀ k, (Res.row rA0 (unL re rn (lsts rp) t a).length rc0 39 4 (encNs (unL re rn (lsts rp) t a))).blk = some k → w0.heap.size ≤ k)) := by
 have b0 := sM hr hrz hZ (zc (d := dShapes) hShp (zc hrp (zc hrps (zc hrq (zc hrqs (zc hrk (zc hrks (zc ht (zc ha zn)))))))))
 have hpm : ∀ k, k < rp.length → sml (nthS rp k).2.2 ∧ (nthS rp k).2.2.length ≤ 4000 := fun k hk => hps _ (nthS_in hk)
 have hpt := chk_pos hct
 have hrpc := hrp.1
 have hm2 := many_3 hk3
 obtain ⟨c0, d0⟩ := cr_mark hct (.inl hk3)
 refine c_enter Tryd.func72 rfl Tryd.ntmps72 rfl fun d0 f0 => ?_
 refine wsc fun d0 i0 => aw f0 i0 fun d0 j0 => ?_
 refine wsc fun i0 d0 => aw j0 d0 fun i0 f0 => ?_
 refine wp_seq_k fun d0 i0 => wp_seq_k fun d0 j0 => ?_
 obtain ⟨d0, k0, m0⟩ := b0.agree
 refine d_reg3 (n := 13) m0 9 (pB 0 1 pn) (pan_then (pan_then pan_body)) fun k0 b0 n0 o0 p0 q0 => ?_
 refine dR [0, 1, 2, 3, 4, 5, 6, 7, 8] f0 fun o0 k0 => ?_
 refine dt 9 rfl b0 k0 (want_n rfl) (fun x hx => r_sub (z := (((rp.length : Nat) : Int) - 1)) (sy k0) k0 rfl rfl rfl rfl (by decide) (by omega) (by omega) (by omega) gt) q0 fun o0 f0 => ?_
 refine dt 10 rfl b0 f0 (want_n rfl) (fun x hx => m_sliceP (q := (rp.length) - (1)) (sy f0) f0 rfl rfl rfl rfl (by omega) Tryd.underlying40 sz22 (by omega) (by decide) gt) q0 fun o0 k0 => ?_
 refine dR [11, 12] k0 fun o0 f0 => ?_
 refine wpAnyH_done (by kernel_rfl) (n0 _ _ ?_) _
 refine xn j0 <| wp_block ?_
 have j0 := p0.nilrow 22 1
 have p0 := j0.data (dAll []) all_nil
 refine wp_loop_ghost (fun gn ga gw => ∃ k : Nat, ∃ Ys : List Sl, ∃ yA : Option Addr, ∃ yc : Nat, (Reg ga 88 [(1000000, .bool false), (0, .pointer (some ⟨rg, 0, none⟩)), (1, .slice tA t.length tc), (2, .slice aA a.length ac), (6, .slice none 0 0), (22, .slice rpA ((rp.length) - (1)) rpc), (23, .int .i64 ((rp.length - 1 : Nat) : Int)), (24, .int .i64 ((k : Nat) : Int)), (7, .slice yA ((Ys).length) yc)]) ∧ (St w0 Z (· = rg) gw [.box rg 50 [.int .i64 ((unE re (lsts rp) k)), .int .i64 (rn.K), .int .i64 (rn.N), .int .i64 (rn.M), .string rn.S, .int .i64 (rx.K), .int .i64 (rx.N), .int .i64 (rx.M), .string rx.S, .slice rpA rp.length rpc, .slice rqA rq.length rqc, .slice rkA rk.length rkc], .row yA ((Ys).length) yc 22 1 (encSs Ys)] [dShapes, dRow 1 rpA rp.length rpc (encSs rp), dAll rp, dRow 1 rqA rq.length rqc (encSs rq), dAll rq, dRow 1 rkA rk.length rkc (encTs rk), dAllT rk, dRow 4 tA t.length tc (encNs t), dRow 4 aA a.length ac (encNs a), dAg w0 d0, dAll Ys]) ∧ (k ≤ rp.length - 1) ∧ (lsts Ys = unP re (lsts rp) k) ∧ (rp.length - 1 - k) = gn) _ ⟨0, [], none, 0, (f0.sub (rc4 (rc4 (rc rfl rnl)))), p0, by omega, rfl, rfl⟩ ?_
 rintro p0 f0 j0 ⟨k, Ys, yA, yc, n0, o0, hk, hYs, k0⟩
 have hyl : Ys.length = k := by rw [← lsts_len, hYs, unP_len]
 refine wsc fun k0 j0 => lR n0 fun k0 f0 => ?_
 refine wn j0 <| wp_seq_k fun j0 k0 => ?_
 rcases Decidable.em (((k : Nat) : Int) < ((rp.length - 1 : Nat) : Int)) with j0 | j0
 ·
  refine wct f0 (decide_eq_true j0) fun n0 => ?_
  refine wp_skip <| xn k0 <| wp_seq_k fun k0 p0 => wp_block ?_
  refine wsc fun k0 q0 => mv n0 fun k0 b0 => ?_
  refine ix k (k * 1) b0 (ss_elem (t := rp) (k := k) (o0.row (i := 1) rfl).2 (by omega)).some_ fun k0 n0 => ?_
  refine lde 0 (k * 1) n0 (ss_elem (t := rp) (k := k) (o0.row (i := 1) rfl).2 (by omega)) fun k0 b0 => ?_
  have k0 := o0.el 2 k
  refine lR b0 fun n0 m0 => ?_
  refine wn q0 <| wsc fun q0 n0 => aw m0 n0 fun q0 b0 => ?_
  refine c_join (fun ga gw => Reg ga 88 [(0, .pointer (some ⟨rg, 0, none⟩)), (1, .slice tA t.length tc), (2, .slice aA a.length ac), (6, .slice none 0 0), (7, .slice yA ((Ys).length) yc), (9, .slice ((nthS rp k).1) ((nthS rp k).2.2.length) ((nthS rp k).2.1)), (10, .int .i64 ((if (((k : Nat) : Int) = 0) then 1 else 0))), (22, .slice rpA ((rp.length) - (1)) rpc), (23, .int .i64 ((rp.length - 1 : Nat) : Int)), (24, .int .i64 ((k : Nat) : Int)), (1000000, .bool false)] ∧ St w0 Z (· = rg) gw [.box rg 50 [.int .i64 ((unE re (lsts rp) k)), .int .i64 (rn.K), .int .i64 (rn.N), .int .i64 (rn.M), .string rn.S, .int .i64 (rx.K), .int .i64 (rx.N), .int .i64 (rx.M), .string rx.S, .slice rpA rp.length rpc, .slice rqA rq.length rqc, .slice rkA rk.length rkc], .row yA ((Ys).length) yc 22 1 (encSs Ys)] [dShapes, dRow 1 rpA rp.length rpc (encSs rp), dAll rp, dRow 1 rqA rq.length rqc (encSs rq), dAll rq, dRow 1 rkA rk.length rkc (encTs rk), dAllT rk, dRow 4 tA t.length tc (encNs t), dRow 4 aA a.length ac (encNs a), dAg w0 d0, dAll Ys, dRow 4 ((nthS rp k).1) ((nthS rp k).2.2.length) ((nthS rp k).2.1) (encNs ((nthS rp k).2.2))]) ?_ ?_
  ·
   refine wsc fun d0 n0 => lR b0 fun d0 q0 => ?_
   refine wn n0 ?_
   rcases Decidable.em (((k : Nat) : Int) = 0) with n0 | n0
   ·
    refine wct q0 (decide_eq_true n0) fun d0 => ?_
    refine c_region ?_
    refine asg d0 fun b0 m0 => ?_
    refine wpList_nil ?_
    exact x_then_n ⟨(m0.sub (rc4 (rc2 (rc (ri rfl (by (simp only [decide_eq_true n0, if_pos n0, bl]; done))) (rc2 (rc rfl (rc rfl rnl))))))), k0⟩
   refine wcf q0 (decide_eq_false n0) fun m0 => ?_
   refine wp_skip ?_
   exact x_then_n ⟨(m0.sub (rc4 (rc2 (rc (ri rfl (by (simp only [decide_eq_false n0, if_neg n0, bl]; done))) (rc2 (rc rfl (rc rfl rnl))))))), k0⟩
  rintro m0 n0 ⟨k0, q0⟩
  refine c_region ?_
  refine lR k0 fun n0 m0 => ?_
  have n0 := q0.nf
  refine kcl m0 ok85 (up_calls _ _ n0.il _ _ _ _ _ _ ((nthS rp k).2.2) 1 ((if (((k : Nat) : Int) = 0) then 1 else 0)) (n0.g 0) (n0.z 0) (imm_box (i := 0) rfl) (n0.g 11) (hsm := (by exact (hpm k (by omega)).1)) (hl := (by exact Nat.le_trans (hpm k (by omega)).2 (by decide)))) ?_
  rintro m0 q0 ⟨k0, b0, d0, rfl, s0, t0, u0, v0⟩
  have q0 := n0.callM (i := 0) rfl s0 t0
  have t0 := n0.dM 0 q0 u0
  refine ⟨_, rfl, fun q0 u0 => ?_⟩
  have q0 := t0.data (dAll [((k0, b0, d0) : Sl)]) (all_cons (t0.get (i := 12) rfl) all_nil)
  refine bsl u0 q0 fun t0 n0 s0 m0 x0 => ?_
  refine m_appendF (f := encS) (i := 1) (Ys) ([((k0, b0, d0) : Sl)]) sv m0 x0 rfl rfl rfl rfl rfl encS_len (encS_one _) Tryd.underlying40 zi22 rfl rfl (own_lnews (f := encS) (x0.res (i := 2) rfl)) rfl (by (simp only [List.length_cons, List.length_nil]; omega)) (by decide) fun s0 n0 t0 q0 u0 y0 z0 => ?_
  have u0 : (Ys ++ ([((k0, b0, d0) : Sl)]) : List Sl).length = (Ys).length + 1 := by (simp only [List.length_append, List.length_take, List.length_cons, List.length_nil]; done)
  have u0 := z0.erase 2
  have z0 := u0.data (dAll (Ys ++ ([((k0, b0, d0) : Sl)]))) (all_append (u0.get (i := 10) rfl) (u0.get (i := 13) rfl))
  refine asg y0 fun u0 n0 => ?_
  refine wpList_nil ?_
  refine x_block_n <| xn p0 <| c_region ?_
  refine adi ((k + 1 : Nat) : Int) n0 fun p0 u0 => ?_
  refine mv u0 fun p0 n0 => ?_
  refine wpList_nil ?_
  have p0 : ((upE ((unE re (lsts rp) k)) ((nthS rp k).2.2) 1 ((if (((k : Nat) : Int) = 0) then 1 else 0)))) = unE re (lsts rp) (k + 1) := by simp [unE, lsts_nth]
  have u0 := z0
  rw [p0] at u0
  have p0 := u0.forget 13
  have u0 := p0.forget 12
  have p0 := u0.forget 11
  have u0 := p0.forget 10
  exact ⟨_, by omega, k + 1, Ys ++ ([((k0, b0, d0) : Sl)]), t0, q0, (n0.sub (rc4 (rc4 (rc rfl rnl)))), u0, by omega, by rw [lsts_app, hYs]; simp [unP, lsts_cons1, lsts_nil1, lsts_nth, v0], rfl⟩
 refine wcf f0 (decide_eq_false j0) fun u0 => ?_
 refine wp_exit ?_
 refine x_then_e ?_
 refine x_then_e ?_
 refine x_block_eq ?_
 refine xn i0 <| wp_seq_k fun i0 j0 => ?_
 obtain ⟨i0, f0, n0⟩ := o0.agree
 refine d_reg3 (n := 23) n0 11 (pB 0 1 pn) (pan_then pan_body) fun f0 i0 o0 q0 t0 v0 => ?_
 refine dR [0, 1, 2] u0 fun q0 f0 => ?_
 refine dt 3 rfl i0 f0 (want_n rfl) (fun x hx => bldY f0) v0 fun q0 u0 => ?_
 refine dR [4, 5, 6, 7, 9, 10, 11, 12, 15, 16, 17] u0 fun q0 f0 => ?_
 refine d1 8 ?_
 have q0 := t0.nf
 refine kcl f0 ok85 (up_calls _ _ q0.il _ _ _ _ _ _ _ 1 0 (q0.g 0) (q0.z 0) (imm_box (i := 0) rfl) (q0.g 8) (hsm := (by exact hsa)) (hl := (by omega))) ?_
 rintro f0 t0 ⟨u0, v0, n0, rfl, d0, b0, k0, p0⟩
 have t0 := q0.callM (i := 0) rfl d0 b0
 have b0 := q0.dM 0 t0 k0
 refine ⟨_, rfl, fun t0 k0 => ?_⟩
 obtain ⟨hua, hub⟩ := upZ p0 hsa
 have t0 := sWI b0 11 (pB 0 1 pn)
 refine ⟨t0, ?_⟩
 refine d1 13 ?_
 have t0 := b0.nf
 refine kcl k0 ok20 (uroot_calls _ _ t0.il _ _ _ (t0.g 7)) ?_
 rintro k0 b0 ⟨rfl, q0⟩
 have b0 := t0.below q0.below
 refine ⟨_, rfl, fun q0 t0 => ?_⟩
 have q0 := sWI b0 11 (pB 0 1 pn)
 refine ⟨q0, ?_⟩
 refine dt 14 rfl i0 t0 (want_n rfl) (fun x hx => m_fieldV (v := .int .i64 (((nth t (t.length - 1)).N))) (sy t0) t0 rfl rfl rfl (fun _ => by kernel_rfl) (by decide) gt) q0 fun k0 d0 => ?_
 refine d1 18 ?_
 have k0 := b0.nf
 refine kcl d0 ok87 (var_calls _ _ k0.il _ _ _ _ 0 (k0.z 0) (imm_box (i := 0) rfl)) ?_
 rintro d0 b0 ⟨q0, t0, i0, rfl, f0, z0, y0, s0⟩
 have i0 := k0.callM (i := 0) rfl f0 z0
 have z0 := k0.dM 0 i0 y0
 refine ⟨_, rfl, fun i0 y0 => ?_⟩
 obtain ⟨hva, hvb⟩ := noZ0 s0 (by decide)
 have i0 := sWI z0 11 (pB 0 1 pn)
 refine ⟨i0, ?_⟩
 refine d1 19 ?_
 have i0 := z0.nf
 refine kcl y0 ok86 (place_calls _ _ i0.il _ _ _ _ (((nth t (t.length - 1)).N)) _ _ _ (i0.z 0) (imm_box (i := 0) rfl) (i0.g 13) (h0 := c0) (hn := (by omega))) ?_
 rintro y0 c0 ⟨z0, k0, f0, rfl, t0, q0, b0, d0⟩
 have c0 := i0.callM (i := 0) rfl t0 q0
 have q0 := i0.dM 0 c0 b0
 refine ⟨_, rfl, fun c0 b0 => ?_⟩
 obtain ⟨hpa, hpb⟩ := plZ d0 hvb
 have hkn : k = rp.length - 1 := by omega
 have hY4 := un_Ys hps hYs
 have c0 := sWI q0 11 (pB 0 1 pn)
 refine ⟨c0, ?_⟩
 refine d1 20 ?_
 have c0 := q0.data (dAll [((u0, v0, n0) : Sl), ((z0, k0, f0) : Sl)]) (all_cons (q0.get (i := 12) rfl) (all_cons (q0.get (i := 14) rfl) all_nil))
 refine bsl b0 c0 fun q0 i0 t0 y0 x0 => ?_
 have i0 := sWI x0 11 (pB 0 1 pn)
 refine ⟨i0, ?_⟩
 refine d1 21 ?_
 have i0 := x0.nf
 have x0 := own_cap (i0.res (i := 2) rfl)
 obtain ⟨q0, c0⟩ := i0.row_dataM (i := 2) rfl (j := 0) rfl (by decide)
 have i0 := q0.data (dRow 1 (some ⟨t0, 0, none⟩) 2 2 (encSs ([((u0, v0, n0) : Sl), ((z0, k0, f0) : Sl)]))) ⟨x0, c0⟩
 refine kcl y0 ok59 (nodeO_calls _ _ i0.il _ _ _ _ (⟨5, 0, 0, (⟨#[]⟩ : ByteArray)⟩ : Nd) _ _ ([((u0, v0, n0) : Sl), ((z0, k0, f0) : Sl)]) (i0.z 0) (imm_box (i := 0) rfl) (i0.g 16) (i0.g 15) (hl := (by (simp; done))) (hb := (up10 (by exact un_b2 (by omega) (by omega))))) ?_
 rintro y0 c0 ⟨q0, x0, rfl, t0, b0, m0, b1⟩
 have c0 := i0.callMO (i := 0) rfl t0 b0 m0 b1
 refine ⟨_, rfl, fun b1 m0 => ?_⟩
 have htl : (noL ((((upE ((unE re (lsts rp) k)) a 1 0)))) (⟨5, 0, 0, (⟨#[]⟩ : ByteArray)⟩ : Nd) (lsts ([((u0, v0, n0) : Sl), ((z0, k0, f0) : Sl)]))).length ≤ 5000 := Nat.le_trans un_told (by omega)
 have b1 := sWI c0 11 (pB 0 1 pn)
 refine ⟨b1, ?_⟩
 refine dR [22] m0 fun b1 b0 => ?_
 refine wpAnyH_done (by kernel_rfl) (o0 _ _ ?_) _
 refine xn j0 <| wp_seq_k fun j0 o0 => ?_
 obtain ⟨j0, b1, m0⟩ := c0.agree
 refine d_reg3 (n := 26) m0 17 (pB 0 1 pn) (pan_then pan_body) fun b1 j0 c0 t0 i0 y0 => ?_
 refine dR [0, 1, 2] b0 fun t0 b1 => ?_
 refine dt 3 rfl j0 b1 (want_n rfl) (fun x hx => bldY b1) y0 fun t0 b0 => ?_
 refine dR [4, 5, 6, 7, 11, 12, 13, 14, 15, 16] b0 fun t0 b1 => ?_
 refine dt 17 rfl j0 b1 (want_n rfl) (fun x hx => m_loadCN (sy b1) b1 rfl rfl rfl (CellsAt.cons_ (hx.c 0) (CellsAt.cons_ (hx.c 1) (CellsAt.cons_ (hx.c 2) (CellsAt.cons_ (hx.c 3) (CellsAt.nil _ _))))) Tryd.underlying39 rfl sz39 (by decide) gt) y0 fun t0 b0 => ?_
 refine dR [18, 19] b0 fun t0 b1 => ?_
 refine wpAnyH_all (rs := [8, 20]) (by kernel_rfl) (by simp) ?_
 rintro i t0
 simp only [List.mem_cons, List.not_mem_nil, or_false] at t0
 rcases t0 with rfl | rfl
 ·
  have t0 := i0.nf
  refine kcl b1 ok88 (parts_calls _ _ t0.il _ _ _ _ _ _ _ (t0.g 0) (t0.z 0) (imm_box (i := 0) rfl) (t0.g 7)) ?_
  rintro b0 y0 ⟨j0, m0, c1, rfl, f1, h1, i1, j1, k1⟩
  have m0 := t0.callM (i := 0) rfl f1 h1
  have h1 := t0.dM 0 m0 i1
  have m0 := t0.dM 0 h1 j1
  refine ⟨_, rfl, fun h1 j1 => ?_⟩
  obtain ⟨hgl, hg8⟩ := ag_len hct k1
  obtain ⟨hg1, hg2, hg3⟩ := ag_nth (k := 0) hct k1 hst (by omega)
  have h1 := sWI m0 17 (pB 0 1 pn)
  refine ⟨h1, ?_⟩
  obtain ⟨h1, t0, i1⟩ := m0.agree
  refine d_more (t0 17 _ rfl) ?_
  have h1 := sWI i1 20 (pB 0 1 pn)
  refine dix 9 0 (0 * 1) j1 (fun x hx => (ss_elem (t := c1) (k := 0) (sdat (t0 18 _ rfl) hx.ag).2 (by omega)).some_) fun h1 m0 => ?_
  refine dle 10 0 (0 * 1) m0 (fun x hx => ss_elem (t := c1) (k := 0) (sdat (t0 18 _ rfl) hx.ag).2 (by omega)) fun h1 j1 => ?_
  have h1 := i1.el 19 0
  refine d1 20 ?_
  have i1 := own_cap (h1.res (i := 2) rfl)
  obtain ⟨m0, t0⟩ := h1.row_dataM (i := 2) rfl (j := 0) rfl (by decide)
  have h1 := m0.data (dRow 4 q0 ((noL ((((upE ((unE re (lsts rp) k)) a 1 0)))) (⟨5, 0, 0, (⟨#[]⟩ : ByteArray)⟩ : Nd) (lsts ([((u0, v0, n0) : Sl), ((z0, k0, f0) : Sl)]))).length) x0 (encNs (noL ((((upE ((unE re (lsts rp) k)) a 1 0)))) (⟨5, 0, 0, (⟨#[]⟩ : ByteArray)⟩ : Nd) (lsts ([((u0, v0, n0) : Sl), ((z0, k0, f0) : Sl)]))))) ⟨i1, t0⟩
  have t0 := h1.data (dAll [((q0, x0, noL ((((upE ((unE re (lsts rp) k)) a 1 0)))) (⟨5, 0, 0, (⟨#[]⟩ : ByteArray)⟩ : Nd) (lsts ([((u0, v0, n0) : Sl), ((z0, k0, f0) : Sl)]))) : Sl)]) (all_cons (h1.get (i := 22) rfl) all_nil)
  refine bsl j1 t0 fun h1 m0 i1 f1 j0 => ?_
  have i1 := sWI j0 20 (pB 0 1 pn)
  refine ⟨i1, ?_⟩
  refine d1 21 ?_
  refine m_appendF (f := encS) (i := 1) (Ys) ([((q0, x0, noL ((((upE ((unE re (lsts rp) k)) a 1 0)))) (⟨5, 0, 0, (⟨#[]⟩ : ByteArray)⟩ : Nd) (lsts ([((u0, v0, n0) : Sl), ((z0, k0, f0) : Sl)]))) : Sl)]) (st_opV rfl (want_n rfl)) f1 j0 rfl rfl rfl rfl rfl encS_len (encS_one _) Tryd.underlying40 zi22 rfl rfl (own_lnews (f := encS) (j0.res (i := 2) rfl)) rfl (by (simp only [List.length_cons, List.length_nil]; omega)) (by decide) fun i1 m0 h1 t0 j1 y0 b0 => ?_
  have j1 : (Ys ++ ([((q0, x0, noL ((((upE ((unE re (lsts rp) k)) a 1 0)))) (⟨5, 0, 0, (⟨#[]⟩ : ByteArray)⟩ : Nd) (lsts ([((u0, v0, n0) : Sl), ((z0, k0, f0) : Sl)]))) : Sl)]) : List Sl).length = (Ys).length + 1 := by (simp only [List.length_append, List.length_take, List.length_cons, List.length_nil]; done)
  have j1 := b0.erase 2
  have b0 := j1.data (dAll (Ys ++ ([((q0, x0, noL ((((upE ((unE re (lsts rp) k)) a 1 0)))) (⟨5, 0, 0, (⟨#[]⟩ : ByteArray)⟩ : Nd) (lsts ([((u0, v0, n0) : Sl), ((z0, k0, f0) : Sl)]))) : Sl)]))) (all_append (j1.get (i := 10) rfl) (j1.get (i := 23) rfl))
  have j1 := sWI b0 20 (pB 0 1 pn)
  refine ⟨j1, ?_⟩
  refine d1 22 ?_
  have j1 := b0.nf
  have b0 := own_cap (j1.res (i := 1) rfl)
  obtain ⟨m0, i1⟩ := j1.row_dataM (i := 1) rfl (j := 0) rfl (by decide)
  have j1 := m0.data (dRow 1 h1 ((Ys ++ ([((q0, x0, noL ((((upE ((unE re (lsts rp) k)) a 1 0)))) (⟨5, 0, 0, (⟨#[]⟩ : ByteArray)⟩ : Nd) (lsts ([((u0, v0, n0) : Sl), ((z0, k0, f0) : Sl)]))) : Sl)]) : List Sl).length) t0 (encSs (Ys ++ ([((q0, x0, noL ((((upE ((unE re (lsts rp) k)) a 1 0)))) (⟨5, 0, 0, (⟨#[]⟩ : ByteArray)⟩ : Nd) (lsts ([((u0, v0, n0) : Sl), ((z0, k0, f0) : Sl)]))) : Sl)])))) ⟨b0, i1⟩
  refine kcl y0 ok59 (nodeO_calls _ _ j1.il _ _ _ _ rn _ _ (Ys ++ ([((q0, x0, noL ((((upE ((unE re (lsts rp) k)) a 1 0)))) (⟨5, 0, 0, (⟨#[]⟩ : ByteArray)⟩ : Nd) (lsts ([((u0, v0, n0) : Sl), ((z0, k0, f0) : Sl)]))) : Sl)])) (j1.z 0) (imm_box (i := 0) rfl) (j1.g 25) (j1.g 24) (hl := (by (rw [List.length_append]; simp; omega))) (hb := (up10 (by exact un_b1 hY4 htl)))) ?_
  rintro y0 i1 ⟨m0, b0, rfl, t0, h1, j0, f1⟩
  have i1 := j1.callMO (i := 0) rfl t0 h1 j0 f1
  refine ⟨_, rfl, fun f1 j0 => ?_⟩
  have hil : (noL ((((((upE ((unE re (lsts rp) k)) a 1 0)))))) rn (lsts (Ys ++ ([((q0, x0, noL ((((upE ((unE re (lsts rp) k)) a 1 0)))) (⟨5, 0, 0, (⟨#[]⟩ : ByteArray)⟩ : Nd) (lsts ([((u0, v0, n0) : Sl), ((z0, k0, f0) : Sl)]))) : Sl)])))).length ≤ 60000 := Nat.le_trans noL_len (by have := un_flat hY4 (z := ((q0, x0, noL ((((upE ((unE re (lsts rp) k)) a 1 0)))) (⟨5, 0, 0, (⟨#[]⟩ : ByteArray)⟩ : Nd) (lsts ([((u0, v0, n0) : Sl), ((z0, k0, f0) : Sl)]))) : Sl)) htl (by omega); omega)
  have f1 := sWI i1 20 (pB 0 1 pn)
  refine ⟨f1, ?_⟩
  refine d1 23 ?_
  have f1 := own_cap (i1.res (i := 1) rfl)
  obtain ⟨h1, t0⟩ := i1.row_dataM (i := 1) rfl (j := 0) rfl (by decide)
  have i1 := h1.data (dRow 4 m0 ((noL ((((((upE ((unE re (lsts rp) k)) a 1 0)))))) rn (lsts (Ys ++ ([((q0, x0, noL ((((upE ((unE re (lsts rp) k)) a 1 0)))) (⟨5, 0, 0, (⟨#[]⟩ : ByteArray)⟩ : Nd) (lsts ([((u0, v0, n0) : Sl), ((z0, k0, f0) : Sl)]))) : Sl)])))).length) b0 (encNs (noL ((((((upE ((unE re (lsts rp) k)) a 1 0)))))) rn (lsts (Ys ++ ([((q0, x0, noL ((((upE ((unE re (lsts rp) k)) a 1 0)))) (⟨5, 0, 0, (⟨#[]⟩ : ByteArray)⟩ : Nd) (lsts ([((u0, v0, n0) : Sl), ((z0, k0, f0) : Sl)]))) : Sl)])))))) ⟨f1, t0⟩
  have t0 := i1.data (dAll [(((nthS c1 0).1, (nthS c1 0).2.1, (nthS c1 0).2.2) : Sl), ((m0, b0, noL ((((((upE ((unE re (lsts rp) k)) a 1 0)))))) rn (lsts (Ys ++ ([((q0, x0, noL ((((upE ((unE re (lsts rp) k)) a 1 0)))) (⟨5, 0, 0, (⟨#[]⟩ : ByteArray)⟩ : Nd) (lsts ([((u0, v0, n0) : Sl), ((z0, k0, f0) : Sl)]))) : Sl)])))) : Sl)]) (all_cons (i1.get (i := 21) rfl) (all_cons (i1.get (i := 26) rfl) all_nil))
  refine bsl j0 t0 fun i1 h1 f1 j1 y0 => ?_
  have h1 := sWI y0 20 (pB 0 1 pn)
  refine ⟨h1, ?_⟩
  refine d1 24 ?_
  have h1 := y0.nf
  have y0 := own_cap (h1.res (i := 1) rfl)
  obtain ⟨i1, t0⟩ := h1.row_dataM (i := 1) rfl (j := 0) rfl (by decide)
  have h1 := i1.data (dRow 1 (some ⟨f1, 0, none⟩) 2 2 (encSs ([(((nthS c1 0).1, (nthS c1 0).2.1, (nthS c1 0).2.2) : Sl), ((m0, b0, noL ((((((upE ((unE re (lsts rp) k)) a 1 0)))))) rn (lsts (Ys ++ ([((q0, x0, noL ((((upE ((unE re (lsts rp) k)) a 1 0)))) (⟨5, 0, 0, (⟨#[]⟩ : ByteArray)⟩ : Nd) (lsts ([((u0, v0, n0) : Sl), ((z0, k0, f0) : Sl)]))) : Sl)])))) : Sl)]))) ⟨y0, t0⟩
  refine kcl j1 ok59 (nodeO_calls _ _ h1.il _ _ _ _ (⟨4, 0, 0, (⟨#[]⟩ : ByteArray)⟩ : Nd) _ _ ([(((nthS c1 0).1, (nthS c1 0).2.1, (nthS c1 0).2.2) : Sl), ((m0, b0, noL ((((((upE ((unE re (lsts rp) k)) a 1 0)))))) rn (lsts (Ys ++ ([((q0, x0, noL ((((upE ((unE re (lsts rp) k)) a 1 0)))) (⟨5, 0, 0, (⟨#[]⟩ : ByteArray)⟩ : Nd) (lsts ([((u0, v0, n0) : Sl), ((z0, k0, f0) : Sl)]))) : Sl)])))) : Sl)]) (h1.z 0) (imm_box (i := 0) rfl) (h1.g 28) (h1.g 27) (hl := (by (simp; done))) (hb := (up10 (by exact un_b2 (by omega) (Nat.le_trans hil (by decide)))))) ?_
  rintro j1 t0 ⟨i1, y0, rfl, f1, j0, m1, n1⟩
  have t0 := h1.callMO (i := 0) rfl f1 j0 m1 n1
  refine ⟨_, rfl, fun n1 m1 => ?_⟩
  have n1 := sWI t0 20 (pB 0 1 pn)
  refine ⟨n1, ?_⟩
  refine dR [25] m1 fun n1 j0 => ?_
  refine wpAnyH_done (by kernel_rfl) (c0 _ _ ?_) _
  refine xn o0 <| wp_ret <| er1 j0 ?_
  have j0 : unL re rn (lsts rp) t a = noL (((((((upE ((unE re (lsts rp) k)) a 1 0))))))) (⟨4, 0, 0, (⟨#[]⟩ : ByteArray)⟩ : Nd) (lsts ([(((nthS c1 0).1, (nthS c1 0).2.1, (nthS c1 0).2.2) : Sl), ((m0, b0, noL ((((((upE ((unE re (lsts rp) k)) a 1 0)))))) rn (lsts (Ys ++ ([((q0, x0, noL ((((upE ((unE re (lsts rp) k)) a 1 0)))) (⟨5, 0, 0, (⟨#[]⟩ : ByteArray)⟩ : Nd) (lsts ([((u0, v0, n0) : Sl), ((z0, k0, f0) : Sl)]))) : Sl)])))) : Sl)])) := (by unfold unL unT unA; rw [lsts_len, ← hkn]; simp only [lsts_cons1, lsts_nil1, lsts_app, hYs, lsts_nth, p0, s0, d0, k1]; try rfl)
  rw [j0]
  refine ⟨i1, y0, ?_, t0.fr, (by rw [show (unA re (lsts rp) a : Int) = ((((((((upE ((unE re (lsts rp) k)) a 1 0)))))))) by (unfold unA; rw [lsts_len, ← hkn])]; exact t0.res (i := 0) rfl), (t0.res (i := 1) rfl), (t0.freshM (i := 1) (j := 0) rfl rfl (by decide))⟩
  exact cr rfl
 have t0 := own_cap (i0.res (i := 2) rfl)
 obtain ⟨y0, i1⟩ := i0.row_dataM (i := 2) rfl (j := 0) rfl (by decide)
 have i0 := y0.data (dRow 4 q0 ((noL ((((upE ((unE re (lsts rp) k)) a 1 0)))) (⟨5, 0, 0, (⟨#[]⟩ : ByteArray)⟩ : Nd) (lsts ([((u0, v0, n0) : Sl), ((z0, k0, f0) : Sl)]))).length) x0 (encNs (noL ((((upE ((unE re (lsts rp) k)) a 1 0)))) (⟨5, 0, 0, (⟨#[]⟩ : ByteArray)⟩ : Nd) (lsts ([((u0, v0, n0) : Sl), ((z0, k0, f0) : Sl)]))))) ⟨t0, i1⟩
 have i1 := i0.data (dAll [((q0, x0, noL ((((upE ((unE re (lsts rp) k)) a 1 0)))) (⟨5, 0, 0, (⟨#[]⟩ : ByteArray)⟩ : Nd) (lsts ([((u0, v0, n0) : Sl), ((z0, k0, f0) : Sl)]))) : Sl)]) (all_cons (i0.get (i := 18) rfl) all_nil)
 refine bsl b1 i1 fun i0 y0 t0 j0 b0 => ?_
 have t0 := sWI b0 17 (pB 0 1 pn)
 refine ⟨t0, ?_⟩
 refine d1 8 ?_
 have t0 := b0.nf
 refine kcl j0 ok88 (parts_calls _ _ t0.il _ _ _ _ _ _ _ (t0.g 0) (t0.z 0) (imm_box (i := 0) rfl) (t0.g 7)) ?_
 rintro j0 b0 ⟨y0, i0, i1, rfl, b1, m0, k1, c1, n1⟩
 have i0 := t0.callM (i := 0) rfl b1 m0
 have m0 := t0.dM 0 i0 k1
 have i0 := t0.dM 0 m0 c1
 refine ⟨_, rfl, fun m0 c1 => ?_⟩
 obtain ⟨hgl, hg8⟩ := ag_len hct n1
 obtain ⟨hg1, hg2, hg3⟩ := ag_nth (k := 0) hct n1 hst (by omega)
 have m0 := sWI i0 17 (pB 0 1 pn)
 refine ⟨m0, ?_⟩
 obtain ⟨m0, t0, k1⟩ := i0.agree
 refine d_more (t0 17 _ rfl) ?_
 have m0 := sWI k1 22 (pB 0 1 pn)
 refine dix 9 0 (0 * 1) c1 (fun x hx => (ss_elem (t := i1) (k := 0) (sdat (t0 20 _ rfl) hx.ag).2 (by omega)).some_) fun m0 i0 => ?_
 refine dle 10 0 (0 * 1) i0 (fun x hx => ss_elem (t := i1) (k := 0) (sdat (t0 20 _ rfl) hx.ag).2 (by omega)) fun m0 c1 => ?_
 have m0 := k1.el 21 0
 refine d1 21 ?_
 refine m_appendF (f := encS) (i := 1) (Ys) ([((q0, x0, noL ((((upE ((unE re (lsts rp) k)) a 1 0)))) (⟨5, 0, 0, (⟨#[]⟩ : ByteArray)⟩ : Nd) (lsts ([((u0, v0, n0) : Sl), ((z0, k0, f0) : Sl)]))) : Sl)]) (st_opV rfl (want_n rfl)) c1 m0 rfl rfl rfl rfl rfl encS_len (encS_one _) Tryd.underlying40 zi22 rfl rfl (own_lnews (f := encS) (m0.res (i := 2) rfl)) rfl (by (simp only [List.length_cons, List.length_nil]; omega)) (by decide) fun k1 i0 t0 b1 y0 b0 j0 => ?_
 have y0 : (Ys ++ ([((q0, x0, noL ((((upE ((unE re (lsts rp) k)) a 1 0)))) (⟨5, 0, 0, (⟨#[]⟩ : ByteArray)⟩ : Nd) (lsts ([((u0, v0, n0) : Sl), ((z0, k0, f0) : Sl)]))) : Sl)]) : List Sl).length = (Ys).length + 1 := by (simp only [List.length_append, List.length_take, List.length_cons, List.length_nil]; done)
 have y0 := j0.erase 2
 have j0 := y0.data (dAll (Ys ++ ([((q0, x0, noL ((((upE ((unE re (lsts rp) k)) a 1 0)))) (⟨5, 0, 0, (⟨#[]⟩ : ByteArray)⟩ : Nd) (lsts ([((u0, v0, n0) : Sl), ((z0, k0, f0) : Sl)]))) : Sl)]))) (all_append (y0.get (i := 10) rfl) (y0.get (i := 19) rfl))
 have y0 := sWI j0 22 (pB 0 1 pn)
 refine ⟨y0, ?_⟩
 refine d1 22 ?_
 have y0 := j0.nf
 have j0 := own_cap (y0.res (i := 1) rfl)
 obtain ⟨i0, k1⟩ := y0.row_dataM (i := 1) rfl (j := 0) rfl (by decide)
 have y0 := i0.data (dRow 1 t0 ((Ys ++ ([((q0, x0, noL ((((upE ((unE re (lsts rp) k)) a 1 0)))) (⟨5, 0, 0, (⟨#[]⟩ : ByteArray)⟩ : Nd) (lsts ([((u0, v0, n0) : Sl), ((z0, k0, f0) : Sl)]))) : Sl)]) : List Sl).length) b1 (encSs (Ys ++ ([((q0, x0, noL ((((upE ((unE re (lsts rp) k)) a 1 0)))) (⟨5, 0, 0, (⟨#[]⟩ : ByteArray)⟩ : Nd) (lsts ([((u0, v0, n0) : Sl), ((z0, k0, f0) : Sl)]))) : Sl)])))) ⟨j0, k1⟩
 refine kcl b0 ok59 (nodeO_calls _ _ y0.il _ _ _ _ rn _ _ (Ys ++ ([((q0, x0, noL ((((upE ((unE re (lsts rp) k)) a 1 0)))) (⟨5, 0, 0, (⟨#[]⟩ : ByteArray)⟩ : Nd) (lsts ([((u0, v0, n0) : Sl), ((z0, k0, f0) : Sl)]))) : Sl)])) (y0.z 0) (imm_box (i := 0) rfl) (y0.g 25) (y0.g 24) (hl := (by (rw [List.length_append]; simp; omega))) (hb := (up10 (by exact un_b1 hY4 htl)))) ?_
 rintro b0 k1 ⟨i0, j0, rfl, b1, t0, m0, c1⟩
 have k1 := y0.callMO (i := 0) rfl b1 t0 m0 c1
 refine ⟨_, rfl, fun c1 m0 => ?_⟩
 have hil : (noL ((((((upE ((unE re (lsts rp) k)) a 1 0)))))) rn (lsts (Ys ++ ([((q0, x0, noL ((((upE ((unE re (lsts rp) k)) a 1 0)))) (⟨5, 0, 0, (⟨#[]⟩ : ByteArray)⟩ : Nd) (lsts ([((u0, v0, n0) : Sl), ((z0, k0, f0) : Sl)]))) : Sl)])))).length ≤ 60000 := Nat.le_trans noL_len (by have := un_flat hY4 (z := ((q0, x0, noL ((((upE ((unE re (lsts rp) k)) a 1 0)))) (⟨5, 0, 0, (⟨#[]⟩ : ByteArray)⟩ : Nd) (lsts ([((u0, v0, n0) : Sl), ((z0, k0, f0) : Sl)]))) : Sl)) htl (by omega); omega)
 have c1 := sWI k1 22 (pB 0 1 pn)
 refine ⟨c1, ?_⟩
 refine d1 23 ?_
 have c1 := own_cap (k1.res (i := 1) rfl)
 obtain ⟨t0, b1⟩ := k1.row_dataM (i := 1) rfl (j := 0) rfl (by decide)
 have k1 := t0.data (dRow 4 i0 ((noL ((((((upE ((unE re (lsts rp) k)) a 1 0)))))) rn (lsts (Ys ++ ([((q0, x0, noL ((((upE ((unE re (lsts rp) k)) a 1 0)))) (⟨5, 0, 0, (⟨#[]⟩ : ByteArray)⟩ : Nd) (lsts ([((u0, v0, n0) : Sl), ((z0, k0, f0) : Sl)]))) : Sl)])))).length) j0 (encNs (noL ((((((upE ((unE re (lsts rp) k)) a 1 0)))))) rn (lsts (Ys ++ ([((q0, x0, noL ((((upE ((unE re (lsts rp) k)) a 1 0)))) (⟨5, 0, 0, (⟨#[]⟩ : ByteArray)⟩ : Nd) (lsts ([((u0, v0, n0) : Sl), ((z0, k0, f0) : Sl)]))) : Sl)])))))) ⟨c1, b1⟩
 have b1 := k1.data (dAll [(((nthS i1 0).1, (nthS i1 0).2.1, (nthS i1 0).2.2) : Sl), ((i0, j0, noL ((((((upE ((unE re (lsts rp) k)) a 1 0)))))) rn (lsts (Ys ++ ([((q0, x0, noL ((((upE ((unE re (lsts rp) k)) a 1 0)))) (⟨5, 0, 0, (⟨#[]⟩ : ByteArray)⟩ : Nd) (lsts ([((u0, v0, n0) : Sl), ((z0, k0, f0) : Sl)]))) : Sl)])))) : Sl)]) (all_cons (k1.get (i := 23) rfl) (all_cons (k1.get (i := 26) rfl) all_nil))
 refine bsl m0 b1 fun k1 t0 c1 y0 b0 => ?_
 have t0 := sWI b0 22 (pB 0 1 pn)
 refine ⟨t0, ?_⟩
 refine d1 24 ?_
 have t0 := b0.nf
 have b0 := own_cap (t0.res (i := 1) rfl)
 obtain ⟨k1, b1⟩ := t0.row_dataM (i := 1) rfl (j := 0) rfl (by decide)
 have t0 := k1.data (dRow 1 (some ⟨c1, 0, none⟩) 2 2 (encSs ([(((nthS i1 0).1, (nthS i1 0).2.1, (nthS i1 0).2.2) : Sl), ((i0, j0, noL ((((((upE ((unE re (lsts rp) k)) a 1 0)))))) rn (lsts (Ys ++ ([((q0, x0, noL ((((upE ((unE re (lsts rp) k)) a 1 0)))) (⟨5, 0, 0, (⟨#[]⟩ : ByteArray)⟩ : Nd) (lsts ([((u0, v0, n0) : Sl), ((z0, k0, f0) : Sl)]))) : Sl)])))) : Sl)]))) ⟨b0, b1⟩
 refine kcl y0 ok59 (nodeO_calls _ _ t0.il _ _ _ _ (⟨4, 0, 0, (⟨#[]⟩ : ByteArray)⟩ : Nd) _ _ ([(((nthS i1 0).1, (nthS i1 0).2.1, (nthS i1 0).2.2) : Sl), ((i0, j0, noL ((((((upE ((unE re (lsts rp) k)) a 1 0)))))) rn (lsts (Ys ++ ([((q0, x0, noL ((((upE ((unE re (lsts rp) k)) a 1 0)))) (⟨5, 0, 0, (⟨#[]⟩ : ByteArray)⟩ : Nd) (lsts ([((u0, v0, n0) : Sl), ((z0, k0, f0) : Sl)]))) : Sl)])))) : Sl)]) (t0.z 0) (imm_box (i := 0) rfl) (t0.g 28) (t0.g 27) (hl := (by (simp; done))) (hb := (up10 (by exact un_b2 (by omega) (Nat.le_trans hil (by decide)))))) ?_
 rintro y0 b1 ⟨k1, b0, rfl, c1, m0, m1, f1⟩
 have b1 := t0.callMO (i := 0) rfl c1 m0 m1 f1
 refine ⟨_, rfl, fun f1 m1 => ?_⟩
 have f1 := sWI b1 22 (pB 0 1 pn)
 refine ⟨f1, ?_⟩
 refine dR [25] m1 fun f1 m0 => ?_
 refine wpAnyH_done (by kernel_rfl) (c0 _ _ ?_) _
 refine xn o0 <| wp_ret <| er1 m0 ?_
 have m0 : unL re rn (lsts rp) t a = noL (((((((upE ((unE re (lsts rp) k)) a 1 0))))))) (⟨4, 0, 0, (⟨#[]⟩ : ByteArray)⟩ : Nd) (lsts ([(((nthS i1 0).1, (nthS i1 0).2.1, (nthS i1 0).2.2) : Sl), ((i0, j0, noL ((((((upE ((unE re (lsts rp) k)) a 1 0)))))) rn (lsts (Ys ++ ([((q0, x0, noL ((((upE ((unE re (lsts rp) k)) a 1 0)))) (⟨5, 0, 0, (⟨#[]⟩ : ByteArray)⟩ : Nd) (lsts ([((u0, v0, n0) : Sl), ((z0, k0, f0) : Sl)]))) : Sl)])))) : Sl)])) := (by unfold unL unT unA; rw [lsts_len, ← hkn]; simp only [lsts_cons1, lsts_nil1, lsts_app, hYs, lsts_nth, p0, s0, d0, n1]; try rfl)
 rw [m0]
 refine ⟨k1, b0, ?_, b1.fr, (by rw [show (unA re (lsts rp) a : Int) = ((((((((upE ((unE re (lsts rp) k)) a 1 0)))))))) by (unfold unA; rw [lsts_len, ← hkn])]; exact b1.res (i := 0) rfl), (b1.res (i := 1) rfl), (b1.freshM (i := 1) (j := 0) rfl rfl (by decide))⟩
 exact cr rfl
end Go.Proofs.YtpfmnpaifchleaaDoor
