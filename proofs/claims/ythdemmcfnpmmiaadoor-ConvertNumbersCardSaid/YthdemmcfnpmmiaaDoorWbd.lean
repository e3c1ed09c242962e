import Derived.Test.YthdemmcfnpmmiaaDoorWbc
/- Contracts of functions, one theorem each: what the call returns, and that nothing old is changed. Printed by gen.py. -/
namespace Go.Proofs.YthdemmcfnpmmiaaDoor
open Go Go.RowKit
set_option linter.unusedSimpArgs false
set_option linter.unusedVariables false
set_option maxRecDepth 100000 in
set_option maxHeartbeats 40000000 in
theorem vone_step (bn : Nat) (ihO : OneC bn) (w0 : World) (Z : Nat → Prop) (hZ : ∀ k, Z k → k < w0.heap.size) (cg cb : Nat) (cq : IQ) (ce : Int) (aA : Option Addr) (ac : Nat) (a : List Nd) (bA : Option Addr) (bc : Nat) (b : List Nd) (hShp : Shapes w0 Z) (hc : (Res.box cg 55 [.map (some cb), .int .i64 (ce)]).holds w0) (hcz : ¬ Z cg) (hci : (dIdle cb cq).φ w0 Z) (ha : (dRow 4 aA a.length ac (encNs a)).φ w0 Z) (hb : (dRow 4 bA b.length bc (encNs b)).φ w0 Z) (hba : measB a = true := by first | assumption | omega | (simp; done) | (simp; omega)) (hbb : measB b = true := by first | assumption | omega | (simp; done) | (simp; omega)) (hce : ce = 0 := by first | assumption | omega | (simp; done) | (simp; omega)) (hN : muT (treeOf a) + muT (treeOf b) ≤ bn + 1 := by first | assumption | omega | (simp; done) | (simp; omega)) (hB : bn + 1 ≤ 1000000 := by first | assumption | omega | (simp; done) | (simp; omega)) :
    Calls Tryd.prog 27 [.pointer (some ⟨cg, 0, none⟩), .slice aA a.length ac, .slice bA b.length bc].toArray w0 (fun e w' => e = .returned (.bool ((cv (treeOf a) (treeOf b)).2)) ∧ Fr (· = cg) w0 w' ∧ (Res.box cg 55 [.map (some cb), .int .i64 (((cv (treeOf a) (treeOf b)).1))]).holds w') := by
 have b0 := sM hc hcz hZ (zc (d := dShapes) hShp (zc hci (zc ha (zc hb zn))))
 refine c_enter Tryd.func27 rfl Tryd.ntmps27 rfl (fun c0 d0 => ?_)
 refine wsc (fun c0 f0 => ?_)
 refine asg d0 (fun c0 h0 => ?_)
 refine wpList_nil (x_then_n (f0 _ _ ?_))
 refine wp_scope_straight ?_
 refine wsc (fun f0 c0 => ?_)
 refine mv h0 (fun f0 d0 => ?_)
 refine mv d0 (fun f0 h0 => ?_)
 refine m_build (ps := [(0, .tmp 15), (1, .tmp 16)]) (v := .agg #[.slice aA a.length ac, .slice bA b.length bc]) sv h0 rfl rfl rfl (fun _ => by kernel_rfl) (by decide) (fun f0 d0 => ?_)
 have f0 := b0.data (dAllC [(((aA, ac, a) : Sl), ((bA, bc, b) : Sl))]) (allC_cons (b0.get (i := 2) rfl) (b0.get (i := 3) rfl) allC_nil)
 refine mbs [(0, .tmp 17)] [.slice aA a.length ac, .slice bA b.length bc] sv d0 f0 Tryd.underlying67 zi66 (fun b0 h0 i0 j0 k0 => ?_)
 refine asg j0 (fun h0 b0 => ?_)
 refine wpList_nil (x_then_n (c0 _ _ ?_))
 refine wp_seq_k (fun c0 h0 => ?_)
 refine wp_label ?_
 refine x_then_n (h0 _ _ ?_)
 refine wp_seq_k (fun h0 c0 => ?_)
 refine wp_block ?_
 refine wp_loop_ghost (fun gn ga gw => ∃ Ls : List Cp, ∃ ev : Int, ∃ Al : Option Addr, ∃ cl : Nat, (Reg ga 202 [(1000000, .bool false), (0, .pointer (some ⟨cg, 0, none⟩)), (7, .slice Al ((Ls).length) cl)]) ∧ (St w0 Z (· = cg) gw [.box cg 55 [.map (some cb), .int .i64 (ev)], .row Al ((Ls).length) cl 66 2 (encCs Ls)] [dShapes, dIdle cb cq, dRow 4 aA a.length ac (encNs a), dRow 4 bA b.length bc (encNs b), dAllC Ls]) ∧ (ev = 0) ∧ (CInv (treeOf a) (treeOf b) (bn + 1) Ls) ∧ (wgt Ls) = gn) _ ⟨[(((aA, ac, a) : Sl), ((bA, bc, b) : Sl))], ce, (some ⟨i0, 0, none⟩), 1, (b0.sub (rc rfl (rc rfl (rc rfl rnl)))), k0, hce, CInv.start hba hbb hN, rfl⟩ ?_
 rintro b0 k0 i0 ⟨Ls, ev, Al, cl, h0, j0, hev, hinv, f0⟩
 have hlen := hinv.bound
 refine wp_seq_k (fun f0 i0 => ?_)
 refine wsc (fun f0 k0 => ?_)
 refine mv h0 (fun f0 b0 => ?_)
 refine r_len sv b0 rfl rfl rfl rfl Tryd.underlying67 (by decide) (fun f0 h0 => ?_)
 refine r_gtr sv h0 rfl rfl rfl rfl (by decide) (fun f0 b0 => ?_)
 refine wpList_nil (x_then_n (k0 _ _ ?_))
 rcases Decidable.em (0 < (((Ls).length : Nat) : Int)) with k0 | k0
 ·
  have f0 : 0 < Ls.length := by omega
  obtain ⟨hxo, hxm, _⟩ := hinv.last f0
  have hxa := hxo.1
  have hxb := hxo.2
  obtain ⟨hma, hmb⟩ := muC_le hxm
  obtain ⟨hla, hpa⟩ := len_ok hxa hma hB
  obtain ⟨hlb, hpb⟩ := len_ok hxb hmb hB
  have h0 := b0.setb (d := 21) (b := true) rfl (decide_eq_true k0)
  refine wp_cond_true (h0.ev rfl) ?_
  refine wp_skip ?_
  refine x_then_n (i0 _ _ ?_)
  refine wp_block ?_
  refine wsc (fun i0 d0 => ?_)
  refine mv h0 (fun i0 m0 => ?_)
  refine mv m0 (fun i0 h0 => ?_)
  refine r_len sv h0 rfl rfl rfl rfl Tryd.underlying67 (by decide) (fun i0 m0 => ?_)
  refine r_sub (z := ((((Ls).length : Nat) : Int) - 1)) sv m0 rfl rfl rfl rfl (by decide) (by omega) (by omega) (by omega) (fun i0 h0 => ?_)
  refine m_index (i := ((Ls).length) - (1)) (j := (((Ls).length) - (1)) * 2) sv h0 rfl rfl rfl rfl Tryd.underlying67 sz66 (by omega) (by omega) (own_cs (t := Ls) (k := ((Ls).length) - (1)) (j0.res (i := 1) rfl) (by omega)).some_ rfl (by decide) (fun i0 m0 => ?_)
  refine m_loadEN sv m0 rfl rfl rfl (own_cs (t := Ls) (k := ((Ls).length) - (1)) (j0.res (i := 1) rfl) (by omega)) Tryd.underlying66 rfl sz66 (by decide) (fun i0 h0 => ?_)
  have i0 := j0.data (dRow 4 ((nthC Ls (((Ls).length) - (1))).1.1) ((nthC Ls (((Ls).length) - (1))).1.2.2.length) ((nthC Ls (((Ls).length) - (1))).1.2.1) (encNs ((nthC Ls (((Ls).length) - (1))).1.2.2))) (allC_at (t := Ls) (k := ((Ls).length) - (1)) (j0.get (i := 4) rfl) (by omega)).1
  have m0 := i0.data (dRow 4 ((nthC Ls (((Ls).length) - (1))).2.1) ((nthC Ls (((Ls).length) - (1))).2.2.2.length) ((nthC Ls (((Ls).length) - (1))).2.2.1) (encNs ((nthC Ls (((Ls).length) - (1))).2.2.2))) (allC_at (t := Ls) (k := ((Ls).length) - (1)) (i0.get (i := 4) rfl) (by omega)).2
  refine m_alloc (cs := [.slice none 0 0, .slice none 0 0]) sv h0 m0 rfl rfl ze66 rfl (by decide) (fun i0 n0 o0 p0 q0 => ?_)
  refine m_store (i := 2) (cs' := [.slice ((nthC Ls (((Ls).length) - (1))).1.1) ((nthC Ls (((Ls).length) - (1))).1.2.2.length) ((nthC Ls (((Ls).length) - (1))).1.2.1), .slice ((nthC Ls (((Ls).length) - (1))).2.1) ((nthC Ls (((Ls).length) - (1))).2.2.2.length) ((nthC Ls (((Ls).length) - (1))).2.2.1)]) se p0 q0 rfl rfl rfl rfl rfl sz66 rfl rfl rfl (fun n0 i0 m0 h0 => ?_)
  refine wpList_nil (x_then_n (d0 _ _ ?_))
  refine wsc (fun d0 i0 => ?_)
  refine mv m0 (fun d0 n0 => ?_)
  refine mv n0 (fun d0 m0 => ?_)
  refine r_len sv m0 rfl rfl rfl rfl Tryd.underlying67 (by decide) (fun d0 n0 => ?_)
  refine r_sub (z := ((((Ls).length : Nat) : Int) - 1)) sv n0 rfl rfl rfl rfl (by decide) (by omega) (by omega) (by omega) (fun d0 m0 => ?_)
  have d0 := own_cap (h0.res (i := 1) rfl)
  refine m_sliceP (q := ((Ls).length) - (1)) sv m0 rfl rfl rfl rfl (by omega) Tryd.underlying67 sz66 (by omega) (by decide) (fun d0 n0 => ?_)
  refine asg n0 (fun d0 m0 => ?_)
  have d0 := h0.trim encC_len (i := 1) (L := Ls) rfl (((Ls).length) - (1)) (by omega)
  have h0 : ((Ls).take (((Ls).length) - (1))).length = ((Ls).length) - (1) := by rw [List.length_take]; omega
  have n0 := Reg.cons m0 m0 (rs (i := 7) (n' := ((Ls).take (((Ls).length) - (1))).length) rfl h0)
  have h0 := d0.data (dAllC ((Ls).take (((Ls).length) - (1)))) (allC_take (d0.get (i := 4) rfl) _)
  refine wpList_nil (x_then_n (i0 _ _ ?_))
  refine wp_seq_k (fun i0 d0 => ?_)
  refine wsc (fun i0 m0 => ?_)
  refine m_field (j' := 0) sv n0 rfl rfl rfl Tryd.underlying66 rfl sz22 rfl rfl (by decide) (fun i0 q0 => ?_)
  refine m_load (i := 2) sv q0 h0 rfl rfl rfl rfl rfl Tryd.underlying22 rfl (by decide) (fun i0 n0 => ?_)
  have i0 := h0.nf
  refine k_call (xs := [.tmp 34]) se n0 rfl rfl rfl (by decide) ok31 (vroot_calls _ _ i0.il _ _ ((nthC Ls (((Ls).length) - (1))).1.2.2) (i0.g 5)) ?_
  rintro n0 h0 ⟨rfl, q0⟩
  have h0 := i0.below q0.below
  refine ⟨_, rfl, fun q0 i0 => ?_⟩
  refine m_fieldV (v := .int .i64 (((nth ((nthC Ls (((Ls).length) - (1))).1.2.2) (((nthC Ls (((Ls).length) - (1))).1.2.2).length - 1)).K))) sv i0 rfl rfl rfl (fun _ => by kernel_rfl) (by decide) (fun q0 n0 => ?_)
  refine r_eql sv n0 rfl rfl rfl rfl (by decide) (fun q0 i0 => ?_)
  refine mv i0 (fun q0 n0 => ?_)
  rcases Decidable.em ((((nth ((nthC Ls (((Ls).length) - (1))).1.2.2) (((nthC Ls (((Ls).length) - (1))).1.2.2).length - 1)).K)) = 29) with q0 | q0
  ·
   have i0 := n0.setb (d := 38) (b := true) rfl (decide_eq_true q0)
   refine sps i0 (wff i0) (fun p0 s0 => ?_)
   refine sps s0 (wff s0) (fun p0 i0 => ?_)
   refine sps i0 (wff i0) (fun p0 s0 => ?_)
   refine sps s0 (wff s0) (fun p0 i0 => ?_)
   refine sps i0 (wff i0) (fun p0 s0 => ?_)
   refine r_pick_t sv s0 rfl rfl rfl rfl (by decide) (fun p0 i0 => ?_)
   refine wpList_nil (x_then_n (m0 _ _ ?_))
   refine wp_cond_true (i0.ev rfl) ?_
   refine wp_exit ?_
   refine x_then_e ?_
   refine x_block_eq ?_
   have hnx : CInv (treeOf a) (treeOf b) (bn + 1) ((Ls).take (((Ls).length) - (1))) ∧ wgt ((Ls).take (((Ls).length) - (1))) < wgt Ls := hinv.skip f0 (c_tick hxo (.inl q0))
   have p0 := h0.erase 2
   have s0 := p0.forget 6
   have p0 := s0.forget 5
   have s0 := p0.forget 4
   have p0 := (s0).nf
   refine ⟨wgt ((Ls).take (((Ls).length) - (1))), by have := hnx.2; omega, ?_⟩
   refine ⟨(Ls).take (((Ls).length) - (1)), (ev), Al, cl, ?_⟩
   exact ⟨(i0.sub (rc rfl (rc rfl (rc rfl rnl)))), p0, hev, hnx.1, rfl⟩
  ·
   have p0 := n0.setb (d := 38) (b := false) rfl (decide_eq_false q0)
   refine m_field (j' := 1) (st_listV_w (wt p0)) p0 rfl rfl rfl Tryd.underlying66 rfl sz22 rfl rfl (by decide) (fun n0 i0 => ?_)
   refine m_load (i := 2) (st_listV_w (wt i0)) i0 h0 rfl rfl rfl rfl rfl Tryd.underlying22 rfl (by decide) (fun n0 p0 => ?_)
   have n0 := h0.nf
   refine k_call (xs := [.tmp 40]) (st_list_w (wt p0)) p0 rfl rfl rfl (by decide) ok31 (vroot_calls _ _ n0.il _ _ ((nthC Ls (((Ls).length) - (1))).2.2.2) (n0.g 6)) ?_
   rintro p0 h0 ⟨rfl, i0⟩
   have h0 := n0.below i0.below
   refine ⟨_, rfl, fun i0 n0 => ?_⟩
   refine m_fieldV (v := .int .i64 (((nth ((nthC Ls (((Ls).length) - (1))).2.2.2) (((nthC Ls (((Ls).length) - (1))).2.2.2).length - 1)).K))) (st_listV_w (wt n0)) n0 rfl rfl rfl (fun _ => by kernel_rfl) (by decide) (fun i0 p0 => ?_)
   refine r_eql (st_listV_w (wt p0)) p0 rfl rfl rfl rfl (by decide) (fun i0 n0 => ?_)
   refine r_pick_f sv n0 rfl rfl rfl rfl (by decide) (fun i0 p0 => ?_)
   refine wpList_nil (x_then_n (m0 _ _ ?_))
   rcases Decidable.em ((((nth ((nthC Ls (((Ls).length) - (1))).2.2.2) (((nthC Ls (((Ls).length) - (1))).2.2.2).length - 1)).K)) = 29) with m0 | m0
   ·
    have i0 := p0.setb (d := 44) (b := true) rfl (decide_eq_true m0)
    refine wp_cond_true (i0.ev rfl) ?_
    refine wp_exit ?_
    refine x_then_e ?_
    refine x_block_eq ?_
    have hnx : CInv (treeOf a) (treeOf b) (bn + 1) ((Ls).take (((Ls).length) - (1))) ∧ wgt ((Ls).take (((Ls).length) - (1))) < wgt Ls := hinv.skip f0 (c_tick hxo (.inr m0))
    have n0 := h0.erase 2
    have s0 := n0.forget 6
    have n0 := s0.forget 5
    have s0 := n0.forget 4
    have n0 := (s0).nf
    refine ⟨wgt ((Ls).take (((Ls).length) - (1))), by have := hnx.2; omega, ?_⟩
    refine ⟨(Ls).take (((Ls).length) - (1)), (ev), Al, cl, ?_⟩
    exact ⟨(i0.sub (rc rfl (rc rfl (rc rfl rnl)))), n0, hev, hnx.1, rfl⟩
   ·
    have n0 := p0.setb (d := 44) (b := false) rfl (decide_eq_false m0)
    refine wp_cond_false (n0.ev rfl) ?_
    refine wp_skip ?_
    refine x_then_n (d0 _ _ ?_)
    refine wp_seq_k (fun d0 p0 => ?_)
    refine wsc (fun d0 i0 => ?_)
    refine mv n0 (fun d0 s0 => ?_)
    refine m_field (j' := 0) sv s0 rfl rfl rfl Tryd.underlying66 rfl sz22 rfl rfl (by decide) (fun d0 n0 => ?_)
    refine m_load (i := 2) sv n0 h0 rfl rfl rfl rfl rfl Tryd.underlying22 rfl (by decide) (fun d0 s0 => ?_)
    have d0 := h0.nf
    refine k_call (xs := [.tmp 45, .tmp 47]) se s0 rfl rfl rfl (by decide) ok32 (vbare_calls bn ihO _ _ d0.il _ _ _ _ _ _ ((nthC Ls (((Ls).length) - (1))).1.2.2) (d0.g 0) (d0.z 0) (imm_box (i := 0) rfl) (d0.g 1) (d0.g 5) (hb := (by assumption)) (hce := (by first | exact hev | assumption)) (hbn := (by assumption)) (hB := hB)) ?_
    rintro s0 h0 ⟨n0, t0, u0, rfl, v0, x0, y0, z0⟩
    have h0 := d0.callM (i := 0) rfl v0 x0
    have x0 := d0.dM 0 h0 y0
    refine ⟨_, rfl, fun h0 y0 => ?_⟩
    obtain ⟨hga1, hga2, hga3, hga4⟩ := br_facts hxa hma hB z0
    refine m_field (j' := 0) sv y0 rfl rfl rfl Tryd.underlying66 rfl sz22 rfl rfl (by decide) (fun h0 d0 => ?_)
    refine m_store (i := 2) (cs' := [.slice n0 u0.length t0, .slice ((nthC Ls (((Ls).length) - (1))).2.1) ((nthC Ls (((Ls).length) - (1))).2.2.2.length) ((nthC Ls (((Ls).length) - (1))).2.2.1)]) se d0 x0 rfl rfl rfl rfl rfl sz22 rfl rfl rfl (fun h0 y0 v0 s0 => ?_)
    refine wpList_nil (x_then_n (i0 _ _ ?_))
    refine wsc (fun i0 y0 => ?_)
    refine mv v0 (fun i0 h0 => ?_)
    refine r_nilCheck sv h0 rfl rfl rfl (by decide) (fun i0 v0 => ?_)
    refine m_field (j' := 1) sv v0 rfl rfl rfl Tryd.underlying55 rfl sz26 rfl rfl (by decide) (fun i0 h0 => ?_)
    refine m_load (i := 0) sv h0 s0 rfl rfl rfl rfl rfl Tryd.underlying26 rfl (by decide) (fun i0 v0 => ?_)
    refine r_eql sv v0 rfl rfl rfl rfl (by decide) (fun i0 h0 => ?_)
    refine mv h0 (fun i0 v0 => ?_)
    rcases Decidable.em (((brE ((nthC Ls (((Ls).length) - (1))).1.2.2))) = 0) with i0 | i0
    ·
     have h0 := v0.setb (d := 55) (b := true) rfl (decide_eq_true i0)
     refine m_field (j' := 0) (st_listV_w (wt h0)) h0 rfl rfl rfl Tryd.underlying66 rfl sz22 rfl rfl (by decide) (fun d0 x0 => ?_)
     refine m_load (i := 2) (st_listV_w (wt x0)) x0 s0 rfl rfl rfl rfl rfl Tryd.underlying22 rfl (by decide) (fun d0 h0 => ?_)
     have d0 := s0.nf
     refine k_call (xs := [.tmp 57]) (st_list_w (wt h0)) h0 rfl rfl rfl (by decide) ok31 (vroot_calls _ _ d0.il _ _ _ (d0.g 8)) ?_
     rintro h0 x0 ⟨rfl, b1⟩
     have x0 := d0.below b1.below
     refine ⟨_, rfl, fun b1 d0 => ?_⟩
     refine m_fieldV (v := .int .i64 (((nth u0 (u0.length - 1)).K))) (st_listV_w (wt d0)) d0 rfl rfl rfl (fun _ => by kernel_rfl) (by decide) (fun b1 h0 => ?_)
     refine r_neq (st_listV_w (wt h0)) h0 rfl rfl rfl rfl (by decide) (fun b1 d0 => ?_)
     refine r_pick_t sv d0 rfl rfl rfl rfl (by decide) (fun b1 h0 => ?_)
     refine wpList_nil (x_then_n (y0 _ _ ?_))
     rcases Decidable.em ((((nth u0 (u0.length - 1)).K)) = 29) with b1 | b1
     ·
      have d0 := h0.setb (d := 61) (b := false) rfl (by rw [(decide_eq_true b1)]; rfl)
      refine wp_cond_false (d0.ev rfl) ?_
      refine wp_skip ?_
      refine x_then_n (p0 _ _ ?_)
      refine wp_seq_k (fun c1 f1 => ?_)
      refine wsc (fun c1 h1 => ?_)
      refine mv d0 (fun c1 i1 => ?_)
      refine r_nilCheck sv i1 rfl rfl rfl (by decide) (fun c1 d0 => ?_)
      refine m_field (j' := 1) sv d0 rfl rfl rfl Tryd.underlying55 rfl sz26 rfl rfl (by decide) (fun c1 i1 => ?_)
      refine m_load (i := 0) sv i1 x0 rfl rfl rfl rfl rfl Tryd.underlying26 rfl (by decide) (fun c1 d0 => ?_)
      refine r_neq sv d0 rfl rfl rfl rfl (by decide) (fun c1 i1 => ?_)
      refine wpList_nil (x_then_n (h1 _ _ ?_))
      have h1 := i1.setb (d := 71) (b := false) rfl (by rw [(decide_eq_true i0)]; rfl)
      refine wp_cond_false (h1.ev rfl) ?_
      refine wp_skip ?_
      refine x_then_n (f1 _ _ ?_)
      have f1 := x0.nf
      refine c_join (fun ga gw => ∃ i1 : Nat, ∃ c1 : Nat, Reg ga 202 [(1000000, .bool false), (0, .pointer (some ⟨cg, 0, none⟩)), (7, .slice Al (((Ls).take (((Ls).length) - (1))).length) cl), (8, .pointer (some ⟨o0, 0, none⟩)), (9, .pointer (some ⟨i1, 0, none⟩)), (10, .pointer (some ⟨c1, 0, none⟩))] ∧ St w0 Z (· = cg) gw [.box cg 55 [.map (some cb), .int .i64 ((brE ((nthC Ls (((Ls).length) - (1))).1.2.2)))], .row Al (((Ls).take (((Ls).length) - (1))).length) cl 66 2 (encCs ((Ls).take (((Ls).length) - (1)))), .box o0 66 [.slice n0 u0.length t0, .slice ((nthC Ls (((Ls).length) - (1))).2.1) ((nthC Ls (((Ls).length) - (1))).2.2.2.length) ((nthC Ls (((Ls).length) - (1))).2.2.1)], .box i1 32 [.int .i64 (((nth u0 (u0.length - 1)).K)), .int .i64 (((nth u0 (u0.length - 1)).N)), .int .i64 (((nth u0 (u0.length - 1)).M)), .string ((nth u0 (u0.length - 1)).S)], .box c1 32 [.int .i64 (((nth ((nthC Ls (((Ls).length) - (1))).2.2.2) (((nthC Ls (((Ls).length) - (1))).2.2.2).length - 1)).K)), .int .i64 (((nth ((nthC Ls (((Ls).length) - (1))).2.2.2) (((nthC Ls (((Ls).length) - (1))).2.2.2).length - 1)).N)), .int .i64 (((nth ((nthC Ls (((Ls).length) - (1))).2.2.2) (((nthC Ls (((Ls).length) - (1))).2.2.2).length - 1)).M)), .string ((nth ((nthC Ls (((Ls).length) - (1))).2.2.2) (((nthC Ls (((Ls).length) - (1))).2.2.2).length - 1)).S)]] [dShapes, dIdle cb cq, dRow 4 aA a.length ac (encNs a), dRow 4 bA b.length bc (encNs b), dAllC Ls, dRow 4 ((nthC Ls (((Ls).length) - (1))).1.1) ((nthC Ls (((Ls).length) - (1))).1.2.2.length) ((nthC Ls (((Ls).length) - (1))).1.2.1) (encNs ((nthC Ls (((Ls).length) - (1))).1.2.2)), dRow 4 ((nthC Ls (((Ls).length) - (1))).2.1) ((nthC Ls (((Ls).length) - (1))).2.2.2.length) ((nthC Ls (((Ls).length) - (1))).2.2.1) (encNs ((nthC Ls (((Ls).length) - (1))).2.2.2)), dAllC ((Ls).take (((Ls).length) - (1))), dRow 4 n0 u0.length t0 (encNs u0)]) ?_ ?_
      ·
       obtain ⟨d0, j1, k1⟩ := f1.agree
       refine d_reg3 (n := 10) k1 9 (pB 2 0 pn) (pan_then (pan_block (pan_then (pan_block (pan_then (pan_scope pan_body)))))) (fun j1 d0 f1 m1 n1 o1 => ?_)
       refine dtF 0 0 d0 h1 o1 Tryd.underlying66 sz22 (fun m1 j1 => ?_)
       refine dtC 1 0 d0 j1 o1 Tryd.underlying22 (fun m1 h1 => ?_)
       refine dtF 3 1 d0 h1 o1 Tryd.underlying66 sz22 (fun m1 j1 => ?_)
       refine dtC 4 1 d0 j1 o1 Tryd.underlying22 (fun m1 h1 => ?_)
       refine wpAnyH_all (rs := [2, 6, 7]) (by kernel_rfl) (by simp) ?_
       rintro i m1
       simp only [List.mem_cons, List.not_mem_nil, or_false] at m1
       rcases m1 with rfl | rfl | rfl
       ·
        have m1 := n1.nf
        refine k_call (xs := [.tmp 73]) (st_op rfl (want_n rfl)) h1 rfl rfl rfl (by decide) ok31 (vroot_calls _ _ m1.il _ _ _ (m1.g 8)) ?_
        rintro j1 o1 ⟨rfl, d0⟩
        have o1 := m1.below d0.below
        refine ⟨_, rfl, fun d0 m1 => ?_⟩
        have d0 := sWI o1 9 (pB 2 0 pn)
        refine ⟨d0, ?_⟩
        refine wpAnyH_all (rs := [5, 6, 7]) (by kernel_rfl) (by simp) ?_
        rintro i d0
        simp only [List.mem_cons, List.not_mem_nil, or_false] at d0
        rcases d0 with rfl | rfl | rfl
        ·
         have d0 := o1.nf
         refine k_call (xs := [.tmp 76]) (st_op rfl (want_n rfl)) m1 rfl rfl rfl (by decide) ok31 (vroot_calls _ _ d0.il _ _ ((nthC Ls (((Ls).length) - (1))).2.2.2) (d0.g 6)) ?_
         rintro j1 k1 ⟨rfl, p1⟩
         have k1 := d0.below p1.below
         refine ⟨_, rfl, fun p1 d0 => ?_⟩
         have p1 := sWI k1 9 (pB 2 0 pn)
         refine ⟨p1, ?_⟩
         refine wpAnyH_all (rs := [6, 7]) (by kernel_rfl) (by simp) ?_
         rintro i p1
         simp only [List.mem_cons, List.not_mem_nil, or_false] at p1
         rcases p1 with rfl | rfl
         ·
          refine m_alloc (cs := [.int .i64 0, .int .i64 0, .int .i64 0, .string (⟨#[]⟩ : ByteArray)]) (st_opV rfl (want_n rfl)) d0 k1 rfl rfl ze32 rfl (by decide) (fun p1 j1 q1 s1 t1 => ?_)
          have j1 := sWI t1 9 (pB 2 0 pn)
          refine ⟨j1, ?_⟩
          refine d1 7 ?_
          refine m_alloc (cs := [.int .i64 0, .int .i64 0, .int .i64 0, .string (⟨#[]⟩ : ByteArray)]) (st_opV rfl (want_n rfl)) s1 t1 rfl rfl ze32 rfl (by decide) (fun j1 p1 u1 v1 x1 => ?_)
          have p1 := sWI x1 9 (pB 2 0 pn)
          refine ⟨p1, ?_⟩
          refine d1 8 ?_
          refine m_store (i := 3) (cs' := [.int .i64 (((nth u0 (u0.length - 1)).K)), .int .i64 (((nth u0 (u0.length - 1)).N)), .int .i64 (((nth u0 (u0.length - 1)).M)), .string ((nth u0 (u0.length - 1)).S)]) (st_op rfl (want_n rfl)) v1 x1 rfl rfl rfl rfl rfl sz32 rfl rfl rfl (fun p1 j1 t1 s1 => ?_)
          have j1 := sWI s1 9 (pB 2 0 pn)
          refine ⟨j1, ?_⟩
          refine d1 9 ?_
          refine m_store (i := 4) (cs' := [.int .i64 (((nth ((nthC Ls (((Ls).length) - (1))).2.2.2) (((nthC Ls (((Ls).length) - (1))).2.2.2).length - 1)).K)), .int .i64 (((nth ((nthC Ls (((Ls).length) - (1))).2.2.2) (((nthC Ls (((Ls).length) - (1))).2.2.2).length - 1)).N)), .int .i64 (((nth ((nthC Ls (((Ls).length) - (1))).2.2.2) (((nthC Ls (((Ls).length) - (1))).2.2.2).length - 1)).M)), .string ((nth ((nthC Ls (((Ls).length) - (1))).2.2.2) (((nthC Ls (((Ls).length) - (1))).2.2.2).length - 1)).S)]) (st_op rfl (want_n rfl)) t1 s1 rfl rfl rfl rfl rfl sz32 rfl rfl rfl (fun j1 p1 x1 v1 => ?_)
          have p1 := sWI v1 9 (pB 2 0 pn)
          refine ⟨p1, ?_⟩
          refine wpAnyH_done (by kernel_rfl) (f1 _ _ ?_) _
          exact x_then_n ⟨q1, u1, (x1.sub (rc rfl (rc rfl (rc rfl (rc rfl (rc rfl (rc rfl rnl))))))), (v1.forget 9)⟩
         ·
          refine m_alloc (cs := [.int .i64 0, .int .i64 0, .int .i64 0, .string (⟨#[]⟩ : ByteArray)]) (st_opV rfl (want_n rfl)) d0 k1 rfl rfl ze32 rfl (by decide) (fun v1 x1 u1 q1 p1 => ?_)
          have x1 := sWI p1 9 (pB 2 0 pn)
          refine ⟨x1, ?_⟩
          refine d1 6 ?_
          refine m_alloc (cs := [.int .i64 0, .int .i64 0, .int .i64 0, .string (⟨#[]⟩ : ByteArray)]) (st_opV rfl (want_n rfl)) q1 p1 rfl rfl ze32 rfl (by decide) (fun x1 v1 d0 k1 j1 => ?_)
          have v1 := sWI j1 9 (pB 2 0 pn)
          refine ⟨v1, ?_⟩
          refine d1 8 ?_
          refine m_store (i := 4) (cs' := [.int .i64 (((nth u0 (u0.length - 1)).K)), .int .i64 (((nth u0 (u0.length - 1)).N)), .int .i64 (((nth u0 (u0.length - 1)).M)), .string ((nth u0 (u0.length - 1)).S)]) (st_op rfl (want_n rfl)) k1 j1 rfl rfl rfl rfl rfl sz32 rfl rfl rfl (fun v1 x1 p1 q1 => ?_)
          have x1 := sWI q1 9 (pB 2 0 pn)
          refine ⟨x1, ?_⟩
          refine d1 9 ?_
          refine m_store (i := 3) (cs' := [.int .i64 (((nth ((nthC Ls (((Ls).length) - (1))).2.2.2) (((nthC Ls (((Ls).length) - (1))).2.2.2).length - 1)).K)), .int .i64 (((nth ((nthC Ls (((Ls).length) - (1))).2.2.2) (((nthC Ls (((Ls).length) - (1))).2.2.2).length - 1)).N)), .int .i64 (((nth ((nthC Ls (((Ls).length) - (1))).2.2.2) (((nthC Ls (((Ls).length) - (1))).2.2.2).length - 1)).M)), .string ((nth ((nthC Ls (((Ls).length) - (1))).2.2.2) (((nthC Ls (((Ls).length) - (1))).2.2.2).length - 1)).S)]) (st_op rfl (want_n rfl)) p1 q1 rfl rfl rfl rfl rfl sz32 rfl rfl rfl (fun x1 v1 j1 k1 => ?_)
          have v1 := sWI k1 9 (pB 2 0 pn)
          refine ⟨v1, ?_⟩
          refine wpAnyH_done (by kernel_rfl) (f1 _ _ ?_) _
          exact x_then_n ⟨d0, u1, (j1.sub (rc rfl (rc rfl (rc rfl (rc rfl (rc rfl (rc rfl rnl))))))), ((k1.swp 3).forget 9)⟩
        ·
         refine m_alloc (cs := [.int .i64 0, .int .i64 0, .int .i64 0, .string (⟨#[]⟩ : ByteArray)]) (st_opV rfl (want_n rfl)) m1 o1 rfl rfl ze32 rfl (by decide) (fun k1 j1 d0 u1 v1 => ?_)
         have j1 := sWI v1 9 (pB 2 0 pn)
         refine ⟨j1, ?_⟩
         refine wpAnyH_all (rs := [5, 7]) (by kernel_rfl) (by simp) ?_
         rintro i j1
         simp only [List.mem_cons, List.not_mem_nil, or_false] at j1
         rcases j1 with rfl | rfl
         ·
          have j1 := v1.nf
          refine k_call (xs := [.tmp 76]) (st_op rfl (want_n rfl)) u1 rfl rfl rfl (by decide) ok31 (vroot_calls _ _ j1.il _ _ ((nthC Ls (((Ls).length) - (1))).2.2.2) (j1.g 6)) ?_
          rintro k1 x1 ⟨rfl, q1⟩
          have x1 := j1.below q1.below
          refine ⟨_, rfl, fun q1 j1 => ?_⟩
          have q1 := sWI x1 9 (pB 2 0 pn)
          refine ⟨q1, ?_⟩
          refine d1 7 ?_
          refine m_alloc (cs := [.int .i64 0, .int .i64 0, .int .i64 0, .string (⟨#[]⟩ : ByteArray)]) (st_opV rfl (want_n rfl)) j1 x1 rfl rfl ze32 rfl (by decide) (fun q1 k1 p1 s1 t1 => ?_)
          have k1 := sWI t1 9 (pB 2 0 pn)
          refine ⟨k1, ?_⟩
          refine d1 8 ?_
          refine m_store (i := 3) (cs' := [.int .i64 (((nth u0 (u0.length - 1)).K)), .int .i64 (((nth u0 (u0.length - 1)).N)), .int .i64 (((nth u0 (u0.length - 1)).M)), .string ((nth u0 (u0.length - 1)).S)]) (st_op rfl (want_n rfl)) s1 t1 rfl rfl rfl rfl rfl sz32 rfl rfl rfl (fun k1 q1 j1 x1 => ?_)
          have q1 := sWI x1 9 (pB 2 0 pn)
          refine ⟨q1, ?_⟩
          refine d1 9 ?_
          refine m_store (i := 4) (cs' := [.int .i64 (((nth ((nthC Ls (((Ls).length) - (1))).2.2.2) (((nthC Ls (((Ls).length) - (1))).2.2.2).length - 1)).K)), .int .i64 (((nth ((nthC Ls (((Ls).length) - (1))).2.2.2) (((nthC Ls (((Ls).length) - (1))).2.2.2).length - 1)).N)), .int .i64 (((nth ((nthC Ls (((Ls).length) - (1))).2.2.2) (((nthC Ls (((Ls).length) - (1))).2.2.2).length - 1)).M)), .string ((nth ((nthC Ls (((Ls).length) - (1))).2.2.2) (((nthC Ls (((Ls).length) - (1))).2.2.2).length - 1)).S)]) (st_op rfl (want_n rfl)) j1 x1 rfl rfl rfl rfl rfl sz32 rfl rfl rfl (fun q1 k1 t1 s1 => ?_)
          have k1 := sWI s1 9 (pB 2 0 pn)
          refine ⟨k1, ?_⟩
          refine wpAnyH_done (by kernel_rfl) (f1 _ _ ?_) _
          exact x_then_n ⟨d0, p1, (t1.sub (rc rfl (rc rfl (rc rfl (rc rfl (rc rfl (rc rfl rnl))))))), (s1.forget 9)⟩
         ·
          refine m_alloc (cs := [.int .i64 0, .int .i64 0, .int .i64 0, .string (⟨#[]⟩ : ByteArray)]) (st_opV rfl (want_n rfl)) u1 v1 rfl rfl ze32 rfl (by decide) (fun s1 t1 p1 k1 q1 => ?_)
          have t1 := sWI q1 9 (pB 2 0 pn)
          refine ⟨t1, ?_⟩
          refine d1 5 ?_
          have t1 := q1.nf
          refine k_call (xs := [.tmp 76]) (st_op rfl (want_n rfl)) k1 rfl rfl rfl (by decide) ok31 (vroot_calls _ _ t1.il _ _ ((nthC Ls (((Ls).length) - (1))).2.2.2) (t1.g 6)) ?_
          rintro k1 q1 ⟨rfl, s1⟩
          have q1 := t1.below s1.below
          refine ⟨_, rfl, fun s1 t1 => ?_⟩
          have s1 := sWI q1 9 (pB 2 0 pn)
          refine ⟨s1, ?_⟩
          refine d1 8 ?_
          refine m_store (i := 3) (cs' := [.int .i64 (((nth u0 (u0.length - 1)).K)), .int .i64 (((nth u0 (u0.length - 1)).N)), .int .i64 (((nth u0 (u0.length - 1)).M)), .string ((nth u0 (u0.length - 1)).S)]) (st_op rfl (want_n rfl)) t1 q1 rfl rfl rfl rfl rfl sz32 rfl rfl rfl (fun s1 k1 v1 u1 => ?_)
          have k1 := sWI u1 9 (pB 2 0 pn)
          refine ⟨k1, ?_⟩
          refine d1 9 ?_
          refine m_store (i := 4) (cs' := [.int .i64 (((nth ((nthC Ls (((Ls).length) - (1))).2.2.2) (((nthC Ls (((Ls).length) - (1))).2.2.2).length - 1)).K)), .int .i64 (((nth ((nthC Ls (((Ls).length) - (1))).2.2.2) (((nthC Ls (((Ls).length) - (1))).2.2.2).length - 1)).N)), .int .i64 (((nth ((nthC Ls (((Ls).length) - (1))).2.2.2) (((nthC Ls (((Ls).length) - (1))).2.2.2).length - 1)).M)), .string ((nth ((nthC Ls (((Ls).length) - (1))).2.2.2) (((nthC Ls (((Ls).length) - (1))).2.2.2).length - 1)).S)]) (st_op rfl (want_n rfl)) v1 u1 rfl rfl rfl rfl rfl sz32 rfl rfl rfl (fun k1 s1 t1 q1 => ?_)
          have s1 := sWI q1 9 (pB 2 0 pn)
          refine ⟨s1, ?_⟩
          refine wpAnyH_done (by kernel_rfl) (f1 _ _ ?_) _
          exact x_then_n ⟨d0, p1, (t1.sub (rc rfl (rc rfl (rc rfl (rc rfl (rc rfl (rc rfl rnl))))))), (q1.forget 9)⟩
        ·
         refine m_alloc (cs := [.int .i64 0, .int .i64 0, .int .i64 0, .string (⟨#[]⟩ : ByteArray)]) (st_opV rfl (want_n rfl)) m1 o1 rfl rfl ze32 rfl (by decide) (fun q1 t1 p1 d0 s1 => ?_)
         have t1 := sWI s1 9 (pB 2 0 pn)
         refine ⟨t1, ?_⟩
         refine wpAnyH_all (rs := [5, 6]) (by kernel_rfl) (by simp) ?_
         rintro i t1
         simp only [List.mem_cons, List.not_mem_nil, or_false] at t1
         rcases t1 with rfl | rfl
         ·
          have t1 := s1.nf
          refine k_call (xs := [.tmp 76]) (st_op rfl (want_n rfl)) d0 rfl rfl rfl (by decide) ok31 (vroot_calls _ _ t1.il _ _ ((nthC Ls (((Ls).length) - (1))).2.2.2) (t1.g 6)) ?_
          rintro q1 m1 ⟨rfl, o1⟩
          have m1 := t1.below o1.below
          refine ⟨_, rfl, fun o1 t1 => ?_⟩
          have o1 := sWI m1 9 (pB 2 0 pn)
          refine ⟨o1, ?_⟩
          refine d1 6 ?_
          refine m_alloc (cs := [.int .i64 0, .int .i64 0, .int .i64 0, .string (⟨#[]⟩ : ByteArray)]) (st_opV rfl (want_n rfl)) t1 m1 rfl rfl ze32 rfl (by decide) (fun o1 q1 k1 u1 v1 => ?_)
          have q1 := sWI v1 9 (pB 2 0 pn)
          refine ⟨q1, ?_⟩
          refine d1 8 ?_
          refine m_store (i := 4) (cs' := [.int .i64 (((nth u0 (u0.length - 1)).K)), .int .i64 (((nth u0 (u0.length - 1)).N)), .int .i64 (((nth u0 (u0.length - 1)).M)), .string ((nth u0 (u0.length - 1)).S)]) (st_op rfl (want_n rfl)) u1 v1 rfl rfl rfl rfl rfl sz32 rfl rfl rfl (fun q1 o1 t1 m1 => ?_)
          have o1 := sWI m1 9 (pB 2 0 pn)
          refine ⟨o1, ?_⟩
          refine d1 9 ?_
          refine m_store (i := 3) (cs' := [.int .i64 (((nth ((nthC Ls (((Ls).length) - (1))).2.2.2) (((nthC Ls (((Ls).length) - (1))).2.2.2).length - 1)).K)), .int .i64 (((nth ((nthC Ls (((Ls).length) - (1))).2.2.2) (((nthC Ls (((Ls).length) - (1))).2.2.2).length - 1)).N)), .int .i64 (((nth ((nthC Ls (((Ls).length) - (1))).2.2.2) (((nthC Ls (((Ls).length) - (1))).2.2.2).length - 1)).M)), .string ((nth ((nthC Ls (((Ls).length) - (1))).2.2.2) (((nthC Ls (((Ls).length) - (1))).2.2.2).length - 1)).S)]) (st_op rfl (want_n rfl)) t1 m1 rfl rfl rfl rfl rfl sz32 rfl rfl rfl (fun o1 q1 v1 u1 => ?_)
          have q1 := sWI u1 9 (pB 2 0 pn)
          refine ⟨q1, ?_⟩
          refine wpAnyH_done (by kernel_rfl) (f1 _ _ ?_) _
          exact x_then_n ⟨k1, p1, (v1.sub (rc rfl (rc rfl (rc rfl (rc rfl (rc rfl (rc rfl rnl))))))), ((u1.swp 3).forget 9)⟩
         ·
          refine m_alloc (cs := [.int .i64 0, .int .i64 0, .int .i64 0, .string (⟨#[]⟩ : ByteArray)]) (st_opV rfl (want_n rfl)) d0 s1 rfl rfl ze32 rfl (by decide) (fun u1 v1 k1 q1 o1 => ?_)
          have v1 := sWI o1 9 (pB 2 0 pn)
          refine ⟨v1, ?_⟩
          refine d1 5 ?_
          have v1 := o1.nf
          refine k_call (xs := [.tmp 76]) (st_op rfl (want_n rfl)) q1 rfl rfl rfl (by decide) ok31 (vroot_calls _ _ v1.il _ _ ((nthC Ls (((Ls).length) - (1))).2.2.2) (v1.g 6)) ?_
          rintro q1 o1 ⟨rfl, u1⟩
          have o1 := v1.below u1.below
          refine ⟨_, rfl, fun u1 v1 => ?_⟩
          have u1 := sWI o1 9 (pB 2 0 pn)
          refine ⟨u1, ?_⟩
          refine d1 8 ?_
          refine m_store (i := 4) (cs' := [.int .i64 (((nth u0 (u0.length - 1)).K)), .int .i64 (((nth u0 (u0.length - 1)).N)), .int .i64 (((nth u0 (u0.length - 1)).M)), .string ((nth u0 (u0.length - 1)).S)]) (st_op rfl (want_n rfl)) v1 o1 rfl rfl rfl rfl rfl sz32 rfl rfl rfl (fun u1 q1 s1 d0 => ?_)
          have q1 := sWI d0 9 (pB 2 0 pn)
          refine ⟨q1, ?_⟩
          refine d1 9 ?_
          refine m_store (i := 3) (cs' := [.int .i64 (((nth ((nthC Ls (((Ls).length) - (1))).2.2.2) (((nthC Ls (((Ls).length) - (1))).2.2.2).length - 1)).K)), .int .i64 (((nth ((nthC Ls (((Ls).length) - (1))).2.2.2) (((nthC Ls (((Ls).length) - (1))).2.2.2).length - 1)).N)), .int .i64 (((nth ((nthC Ls (((Ls).length) - (1))).2.2.2) (((nthC Ls (((Ls).length) - (1))).2.2.2).length - 1)).M)), .string ((nth ((nthC Ls (((Ls).length) - (1))).2.2.2) (((nthC Ls (((Ls).length) - (1))).2.2.2).length - 1)).S)]) (st_op rfl (want_n rfl)) s1 d0 rfl rfl rfl rfl rfl sz32 rfl rfl rfl (fun q1 u1 v1 o1 => ?_)
          have u1 := sWI o1 9 (pB 2 0 pn)
          refine ⟨u1, ?_⟩
          refine wpAnyH_done (by kernel_rfl) (f1 _ _ ?_) _
          exact x_then_n ⟨k1, p1, (v1.sub (rc rfl (rc rfl (rc rfl (rc rfl (rc rfl (rc rfl rnl))))))), ((o1.swp 3).forget 9)⟩
       ·
        refine m_alloc (cs := [.int .i64 0, .int .i64 0, .int .i64 0, .string (⟨#[]⟩ : ByteArray)]) (st_opV rfl (want_n rfl)) h1 n1 rfl rfl ze32 rfl (by decide) (fun o1 v1 k1 p1 u1 => ?_)
        have v1 := sWI u1 9 (pB 2 0 pn)
        refine ⟨v1, ?_⟩
        refine wpAnyH_all (rs := [2, 7]) (by kernel_rfl) (by simp) ?_
        rintro i v1
        simp only [List.mem_cons, List.not_mem_nil, or_false] at v1
        rcases v1 with rfl | rfl
        ·
         have v1 := u1.nf
         refine k_call (xs := [.tmp 73]) (st_op rfl (want_n rfl)) p1 rfl rfl rfl (by decide) ok31 (vroot_calls _ _ v1.il _ _ _ (v1.g 8)) ?_
         rintro o1 q1 ⟨rfl, d0⟩
         have q1 := v1.below d0.below
         refine ⟨_, rfl, fun d0 v1 => ?_⟩
         have d0 := sWI q1 9 (pB 2 0 pn)
         refine ⟨d0, ?_⟩
         refine wpAnyH_all (rs := [5, 7]) (by kernel_rfl) (by simp) ?_
         rintro i d0
         simp only [List.mem_cons, List.not_mem_nil, or_false] at d0
         rcases d0 with rfl | rfl
         ·
          have d0 := q1.nf
          refine k_call (xs := [.tmp 76]) (st_op rfl (want_n rfl)) v1 rfl rfl rfl (by decide) ok31 (vroot_calls _ _ d0.il _ _ ((nthC Ls (((Ls).length) - (1))).2.2.2) (d0.g 6)) ?_
          rintro o1 s1 ⟨rfl, m1⟩
          have s1 := d0.below m1.below
          refine ⟨_, rfl, fun m1 d0 => ?_⟩
          have m1 := sWI s1 9 (pB 2 0 pn)
          refine ⟨m1, ?_⟩
          refine d1 7 ?_
          refine m_alloc (cs := [.int .i64 0, .int .i64 0, .int .i64 0, .string (⟨#[]⟩ : ByteArray)]) (st_opV rfl (want_n rfl)) d0 s1 rfl rfl ze32 rfl (by decide) (fun m1 o1 t1 x1 j1 => ?_)
          have o1 := sWI j1 9 (pB 2 0 pn)
          refine ⟨o1, ?_⟩
          refine d1 8 ?_
          refine m_store (i := 3) (cs' := [.int .i64 (((nth u0 (u0.length - 1)).K)), .int .i64 (((nth u0 (u0.length - 1)).N)), .int .i64 (((nth u0 (u0.length - 1)).M)), .string ((nth u0 (u0.length - 1)).S)]) (st_op rfl (want_n rfl)) x1 j1 rfl rfl rfl rfl rfl sz32 rfl rfl rfl (fun o1 m1 d0 s1 => ?_)
          have m1 := sWI s1 9 (pB 2 0 pn)
          refine ⟨m1, ?_⟩
          refine d1 9 ?_
          refine m_store (i := 4) (cs' := [.int .i64 (((nth ((nthC Ls (((Ls).length) - (1))).2.2.2) (((nthC Ls (((Ls).length) - (1))).2.2.2).length - 1)).K)), .int .i64 (((nth ((nthC Ls (((Ls).length) - (1))).2.2.2) (((nthC Ls (((Ls).length) - (1))).2.2.2).length - 1)).N)), .int .i64 (((nth ((nthC Ls (((Ls).length) - (1))).2.2.2) (((nthC Ls (((Ls).length) - (1))).2.2.2).length - 1)).M)), .string ((nth ((nthC Ls (((Ls).length) - (1))).2.2.2) (((nthC Ls (((Ls).length) - (1))).2.2.2).length - 1)).S)]) (st_op rfl (want_n rfl)) d0 s1 rfl rfl rfl rfl rfl sz32 rfl rfl rfl (fun m1 o1 j1 x1 => ?_)
          have o1 := sWI x1 9 (pB 2 0 pn)
          refine ⟨o1, ?_⟩
          refine wpAnyH_done (by kernel_rfl) (f1 _ _ ?_) _
          exact x_then_n ⟨k1, t1, (j1.sub (rc rfl (rc rfl (rc rfl (rc rfl (rc rfl (rc rfl rnl))))))), (x1.forget 9)⟩
         ·
          refine m_alloc (cs := [.int .i64 0, .int .i64 0, .int .i64 0, .string (⟨#[]⟩ : ByteArray)]) (st_opV rfl (want_n rfl)) v1 q1 rfl rfl ze32 rfl (by decide) (fun x1 j1 t1 o1 m1 => ?_)
          have j1 := sWI m1 9 (pB 2 0 pn)
          refine ⟨j1, ?_⟩
          refine d1 5 ?_
          have j1 := m1.nf
          refine k_call (xs := [.tmp 76]) (st_op rfl (want_n rfl)) o1 rfl rfl rfl (by decide) ok31 (vroot_calls _ _ j1.il _ _ ((nthC Ls (((Ls).length) - (1))).2.2.2) (j1.g 6)) ?_
          rintro o1 m1 ⟨rfl, x1⟩
          have m1 := j1.below x1.below
          refine ⟨_, rfl, fun x1 j1 => ?_⟩
          have x1 := sWI m1 9 (pB 2 0 pn)
          refine ⟨x1, ?_⟩
          refine d1 8 ?_
          refine m_store (i := 3) (cs' := [.int .i64 (((nth u0 (u0.length - 1)).K)), .int .i64 (((nth u0 (u0.length - 1)).N)), .int .i64 (((nth u0 (u0.length - 1)).M)), .string ((nth u0 (u0.length - 1)).S)]) (st_op rfl (want_n rfl)) j1 m1 rfl rfl rfl rfl rfl sz32 rfl rfl rfl (fun x1 o1 v1 q1 => ?_)
          have o1 := sWI q1 9 (pB 2 0 pn)
          refine ⟨o1, ?_⟩
          refine d1 9 ?_
          refine m_store (i := 4) (cs' := [.int .i64 (((nth ((nthC Ls (((Ls).length) - (1))).2.2.2) (((nthC Ls (((Ls).length) - (1))).2.2.2).length - 1)).K)), .int .i64 (((nth ((nthC Ls (((Ls).length) - (1))).2.2.2) (((nthC Ls (((Ls).length) - (1))).2.2.2).length - 1)).N)), .int .i64 (((nth ((nthC Ls (((Ls).length) - (1))).2.2.2) (((nthC Ls (((Ls).length) - (1))).2.2.2).length - 1)).M)), .string ((nth ((nthC Ls (((Ls).length) - (1))).2.2.2) (((nthC Ls (((Ls).length) - (1))).2.2.2).length - 1)).S)]) (st_op rfl (want_n rfl)) v1 q1 rfl rfl rfl rfl rfl sz32 rfl rfl rfl (fun o1 x1 j1 m1 => ?_)
          have x1 := sWI m1 9 (pB 2 0 pn)
          refine ⟨x1, ?_⟩
          refine wpAnyH_done (by kernel_rfl) (f1 _ _ ?_) _
          exact x_then_n ⟨k1, t1, (j1.sub (rc rfl (rc rfl (rc rfl (rc rfl (rc rfl (rc rfl rnl))))))), (m1.forget 9)⟩
        ·
         refine m_alloc (cs := [.int .i64 0, .int .i64 0, .int .i64 0, .string (⟨#[]⟩ : ByteArray)]) (st_opV rfl (want_n rfl)) p1 u1 rfl rfl ze32 rfl (by decide) (fun m1 j1 t1 x1 o1 => ?_)
         have j1 := sWI o1 9 (pB 2 0 pn)
         refine ⟨j1, ?_⟩
         refine d1 2 ?_
         have j1 := o1.nf
         refine k_call (xs := [.tmp 73]) (st_op rfl (want_n rfl)) x1 rfl rfl rfl (by decide) ok31 (vroot_calls _ _ j1.il _ _ _ (j1.g 8)) ?_
         rintro x1 o1 ⟨rfl, m1⟩
         have o1 := j1.below m1.below
         refine ⟨_, rfl, fun m1 j1 => ?_⟩
         have m1 := sWI o1 9 (pB 2 0 pn)
         refine ⟨m1, ?_⟩
         refine d1 5 ?_
         have m1 := o1.nf
         refine k_call (xs := [.tmp 76]) (st_op rfl (want_n rfl)) j1 rfl rfl rfl (by decide) ok31 (vroot_calls _ _ m1.il _ _ ((nthC Ls (((Ls).length) - (1))).2.2.2) (m1.g 6)) ?_
         rintro j1 o1 ⟨rfl, x1⟩
         have o1 := m1.below x1.below
         refine ⟨_, rfl, fun x1 m1 => ?_⟩
         have x1 := sWI o1 9 (pB 2 0 pn)
         refine ⟨x1, ?_⟩
         refine d1 8 ?_
         refine m_store (i := 3) (cs' := [.int .i64 (((nth u0 (u0.length - 1)).K)), .int .i64 (((nth u0 (u0.length - 1)).N)), .int .i64 (((nth u0 (u0.length - 1)).M)), .string ((nth u0 (u0.length - 1)).S)]) (st_op rfl (want_n rfl)) m1 o1 rfl rfl rfl rfl rfl sz32 rfl rfl rfl (fun x1 j1 u1 p1 => ?_)
         have j1 := sWI p1 9 (pB 2 0 pn)
         refine ⟨j1, ?_⟩
         refine d1 9 ?_
         refine m_store (i := 4) (cs' := [.int .i64 (((nth ((nthC Ls (((Ls).length) - (1))).2.2.2) (((nthC Ls (((Ls).length) - (1))).2.2.2).length - 1)).K)), .int .i64 (((nth ((nthC Ls (((Ls).length) - (1))).2.2.2) (((nthC Ls (((Ls).length) - (1))).2.2.2).length - 1)).N)), .int .i64 (((nth ((nthC Ls (((Ls).length) - (1))).2.2.2) (((nthC Ls (((Ls).length) - (1))).2.2.2).length - 1)).M)), .string ((nth ((nthC Ls (((Ls).length) - (1))).2.2.2) (((nthC Ls (((Ls).length) - (1))).2.2.2).length - 1)).S)]) (st_op rfl (want_n rfl)) u1 p1 rfl rfl rfl rfl rfl sz32 rfl rfl rfl (fun j1 x1 m1 o1 => ?_)
         have x1 := sWI o1 9 (pB 2 0 pn)
         refine ⟨x1, ?_⟩
         refine wpAnyH_done (by kernel_rfl) (f1 _ _ ?_) _
         exact x_then_n ⟨k1, t1, (m1.sub (rc rfl (rc rfl (rc rfl (rc rfl (rc rfl (rc rfl rnl))))))), (o1.forget 9)⟩
       ·
        refine m_alloc (cs := [.int .i64 0, .int .i64 0, .int .i64 0, .string (⟨#[]⟩ : ByteArray)]) (st_opV rfl (want_n rfl)) h1 n1 rfl rfl ze32 rfl (by decide) (fun o1 m1 t1 k1 x1 => ?_)
        have m1 := sWI x1 9 (pB 2 0 pn)
        refine ⟨m1, ?_⟩
        refine wpAnyH_all (rs := [2, 6]) (by kernel_rfl) (by simp) ?_
        rintro i m1
        simp only [List.mem_cons, List.not_mem_nil, or_false] at m1
        rcases m1 with rfl | rfl
        ·
         have m1 := x1.nf
         refine k_call (xs := [.tmp 73]) (st_op rfl (want_n rfl)) k1 rfl rfl rfl (by decide) ok31 (vroot_calls _ _ m1.il _ _ _ (m1.g 8)) ?_
         rintro o1 h1 ⟨rfl, n1⟩
         have h1 := m1.below n1.below
         refine ⟨_, rfl, fun n1 m1 => ?_⟩
         have n1 := sWI h1 9 (pB 2 0 pn)
         refine ⟨n1, ?_⟩
         refine wpAnyH_all (rs := [5, 6]) (by kernel_rfl) (by simp) ?_
         rintro i n1
         simp only [List.mem_cons, List.not_mem_nil, or_false] at n1
         rcases n1 with rfl | rfl
         ·
          have n1 := h1.nf
          refine k_call (xs := [.tmp 76]) (st_op rfl (want_n rfl)) m1 rfl rfl rfl (by decide) ok31 (vroot_calls _ _ n1.il _ _ ((nthC Ls (((Ls).length) - (1))).2.2.2) (n1.g 6)) ?_
          rintro o1 j1 ⟨rfl, p1⟩
          have j1 := n1.below p1.below
          refine ⟨_, rfl, fun p1 n1 => ?_⟩
          have p1 := sWI j1 9 (pB 2 0 pn)
          refine ⟨p1, ?_⟩
          refine d1 6 ?_
          refine m_alloc (cs := [.int .i64 0, .int .i64 0, .int .i64 0, .string (⟨#[]⟩ : ByteArray)]) (st_opV rfl (want_n rfl)) n1 j1 rfl rfl ze32 rfl (by decide) (fun p1 o1 u1 q1 v1 => ?_)
          have o1 := sWI v1 9 (pB 2 0 pn)
          refine ⟨o1, ?_⟩
          refine d1 8 ?_
          refine m_store (i := 4) (cs' := [.int .i64 (((nth u0 (u0.length - 1)).K)), .int .i64 (((nth u0 (u0.length - 1)).N)), .int .i64 (((nth u0 (u0.length - 1)).M)), .string ((nth u0 (u0.length - 1)).S)]) (st_op rfl (want_n rfl)) q1 v1 rfl rfl rfl rfl rfl sz32 rfl rfl rfl (fun o1 p1 n1 j1 => ?_)
          have p1 := sWI j1 9 (pB 2 0 pn)
          refine ⟨p1, ?_⟩
          refine d1 9 ?_
          refine m_store (i := 3) (cs' := [.int .i64 (((nth ((nthC Ls (((Ls).length) - (1))).2.2.2) (((nthC Ls (((Ls).length) - (1))).2.2.2).length - 1)).K)), .int .i64 (((nth ((nthC Ls (((Ls).length) - (1))).2.2.2) (((nthC Ls (((Ls).length) - (1))).2.2.2).length - 1)).N)), .int .i64 (((nth ((nthC Ls (((Ls).length) - (1))).2.2.2) (((nthC Ls (((Ls).length) - (1))).2.2.2).length - 1)).M)), .string ((nth ((nthC Ls (((Ls).length) - (1))).2.2.2) (((nthC Ls (((Ls).length) - (1))).2.2.2).length - 1)).S)]) (st_op rfl (want_n rfl)) n1 j1 rfl rfl rfl rfl rfl sz32 rfl rfl rfl (fun p1 o1 v1 q1 => ?_)
          have o1 := sWI q1 9 (pB 2 0 pn)
          refine ⟨o1, ?_⟩
          refine wpAnyH_done (by kernel_rfl) (f1 _ _ ?_) _
          exact x_then_n ⟨u1, t1, (v1.sub (rc rfl (rc rfl (rc rfl (rc rfl (rc rfl (rc rfl rnl))))))), ((q1.swp 3).forget 9)⟩
         ·
          refine m_alloc (cs := [.int .i64 0, .int .i64 0, .int .i64 0, .string (⟨#[]⟩ : ByteArray)]) (st_opV rfl (want_n rfl)) m1 h1 rfl rfl ze32 rfl (by decide) (fun q1 v1 u1 o1 p1 => ?_)
          have v1 := sWI p1 9 (pB 2 0 pn)
          refine ⟨v1, ?_⟩
          refine d1 5 ?_
          have v1 := p1.nf
          refine k_call (xs := [.tmp 76]) (st_op rfl (want_n rfl)) o1 rfl rfl rfl (by decide) ok31 (vroot_calls _ _ v1.il _ _ ((nthC Ls (((Ls).length) - (1))).2.2.2) (v1.g 6)) ?_
          rintro o1 p1 ⟨rfl, q1⟩
          have p1 := v1.below q1.below
          refine ⟨_, rfl, fun q1 v1 => ?_⟩
          have q1 := sWI p1 9 (pB 2 0 pn)
          refine ⟨q1, ?_⟩
          refine d1 8 ?_
          refine m_store (i := 4) (cs' := [.int .i64 (((nth u0 (u0.length - 1)).K)), .int .i64 (((nth u0 (u0.length - 1)).N)), .int .i64 (((nth u0 (u0.length - 1)).M)), .string ((nth u0 (u0.length - 1)).S)]) (st_op rfl (want_n rfl)) v1 p1 rfl rfl rfl rfl rfl sz32 rfl rfl rfl (fun q1 o1 m1 h1 => ?_)
          have o1 := sWI h1 9 (pB 2 0 pn)
          refine ⟨o1, ?_⟩
          refine d1 9 ?_
          refine m_store (i := 3) (cs' := [.int .i64 (((nth ((nthC Ls (((Ls).length) - (1))).2.2.2) (((nthC Ls (((Ls).length) - (1))).2.2.2).length - 1)).K)), .int .i64 (((nth ((nthC Ls (((Ls).length) - (1))).2.2.2) (((nthC Ls (((Ls).length) - (1))).2.2.2).length - 1)).N)), .int .i64 (((nth ((nthC Ls (((Ls).length) - (1))).2.2.2) (((nthC Ls (((Ls).length) - (1))).2.2.2).length - 1)).M)), .string ((nth ((nthC Ls (((Ls).length) - (1))).2.2.2) (((nthC Ls (((Ls).length) - (1))).2.2.2).length - 1)).S)]) (st_op rfl (want_n rfl)) m1 h1 rfl rfl rfl rfl rfl sz32 rfl rfl rfl (fun o1 q1 v1 p1 => ?_)
          have q1 := sWI p1 9 (pB 2 0 pn)
          refine ⟨q1, ?_⟩
          refine wpAnyH_done (by kernel_rfl) (f1 _ _ ?_) _
          exact x_then_n ⟨u1, t1, (v1.sub (rc rfl (rc rfl (rc rfl (rc rfl (rc rfl (rc rfl rnl))))))), ((p1.swp 3).forget 9)⟩
        ·
         refine m_alloc (cs := [.int .i64 0, .int .i64 0, .int .i64 0, .string (⟨#[]⟩ : ByteArray)]) (st_opV rfl (want_n rfl)) k1 x1 rfl rfl ze32 rfl (by decide) (fun p1 v1 u1 q1 o1 => ?_)
         have v1 := sWI o1 9 (pB 2 0 pn)
         refine ⟨v1, ?_⟩
         refine d1 2 ?_
         have v1 := o1.nf
         refine k_call (xs := [.tmp 73]) (st_op rfl (want_n rfl)) q1 rfl rfl rfl (by decide) ok31 (vroot_calls _ _ v1.il _ _ _ (v1.g 8)) ?_
         rintro q1 o1 ⟨rfl, p1⟩
         have o1 := v1.below p1.below
         refine ⟨_, rfl, fun p1 v1 => ?_⟩
         have p1 := sWI o1 9 (pB 2 0 pn)
         refine ⟨p1, ?_⟩
         refine d1 5 ?_
         have p1 := o1.nf
         refine k_call (xs := [.tmp 76]) (st_op rfl (want_n rfl)) v1 rfl rfl rfl (by decide) ok31 (vroot_calls _ _ p1.il _ _ ((nthC Ls (((Ls).length) - (1))).2.2.2) (p1.g 6)) ?_
         rintro v1 o1 ⟨rfl, q1⟩
         have o1 := p1.below q1.below
         refine ⟨_, rfl, fun q1 p1 => ?_⟩
         have q1 := sWI o1 9 (pB 2 0 pn)
         refine ⟨q1, ?_⟩
         refine d1 8 ?_
         refine m_store (i := 4) (cs' := [.int .i64 (((nth u0 (u0.length - 1)).K)), .int .i64 (((nth u0 (u0.length - 1)).N)), .int .i64 (((nth u0 (u0.length - 1)).M)), .string ((nth u0 (u0.length - 1)).S)]) (st_op rfl (want_n rfl)) p1 o1 rfl rfl rfl rfl rfl sz32 rfl rfl rfl (fun q1 v1 x1 k1 => ?_)
         have v1 := sWI k1 9 (pB 2 0 pn)
         refine ⟨v1, ?_⟩
         refine d1 9 ?_
         refine m_store (i := 3) (cs' := [.int .i64 (((nth ((nthC Ls (((Ls).length) - (1))).2.2.2) (((nthC Ls (((Ls).length) - (1))).2.2.2).length - 1)).K)), .int .i64 (((nth ((nthC Ls (((Ls).length) - (1))).2.2.2) (((nthC Ls (((Ls).length) - (1))).2.2.2).length - 1)).N)), .int .i64 (((nth ((nthC Ls (((Ls).length) - (1))).2.2.2) (((nthC Ls (((Ls).length) - (1))).2.2.2).length - 1)).M)), .string ((nth ((nthC Ls (((Ls).length) - (1))).2.2.2) (((nthC Ls (((Ls).length) - (1))).2.2.2).length - 1)).S)]) (st_op rfl (want_n rfl)) x1 k1 rfl rfl rfl rfl rfl sz32 rfl rfl rfl (fun v1 q1 p1 o1 => ?_)
         have q1 := sWI o1 9 (pB 2 0 pn)
         refine ⟨q1, ?_⟩
         refine wpAnyH_done (by kernel_rfl) (f1 _ _ ?_) _
         exact x_then_n ⟨u1, t1, (p1.sub (rc rfl (rc rfl (rc rfl (rc rfl (rc rfl (rc rfl rnl))))))), ((o1.swp 3).forget 9)⟩
      rintro o1 p1 ⟨i1, c1, u1, t1⟩
      refine wp_seq_k (fun p1 o1 => ?_)
      refine wsc (fun o1 p1 => ?_)
      refine m_field (j' := 0) sv u1 rfl rfl rfl Tryd.underlying32 rfl sz3 rfl rfl (by decide) (fun o1 f1 => ?_)
      refine m_load (i := 3) sv f1 t1 rfl rfl rfl rfl rfl Tryd.underlying3 rfl (by decide) (fun o1 u1 => ?_)
      refine r_eql sv u1 rfl rfl rfl rfl (by decide) (fun o1 f1 => ?_)
      refine mv f1 (fun o1 u1 => ?_)
      have o1 := u1.setb (d := 81) (b := true) rfl (decide_eq_true b1)
      refine sps o1 (wff o1) (fun u1 f1 => ?_)
      refine sps f1 (wff f1) (fun u1 o1 => ?_)
      refine sps o1 (wff o1) (fun u1 f1 => ?_)
      refine r_pick_t sv f1 rfl rfl rfl rfl (by decide) (fun u1 o1 => ?_)
      refine wpList_nil (x_then_n (p1 _ _ ?_))
      refine wp_cond_true (o1.ev rfl) ?_
      refine wp_exit ?_
      refine x_then_e ?_
      refine x_block_eq ?_
      have hnx : CInv (treeOf a) (treeOf b) (bn + 1) ((Ls).take (((Ls).length) - (1))) ∧ wgt ((Ls).take (((Ls).length) - (1))) < wgt Ls := hinv.skip f0 (c_k1' hxo q0 m0 i0 z0 b1)
      have p1 := t1.erase 4
      have t1 := p1.erase 3
      have p1 := t1.erase 2
      have t1 := p1.forget 8
      have p1 := t1.forget 6
      have t1 := p1.forget 5
      have p1 := t1.forget 4
      have t1 := (p1).nf
      refine ⟨wgt ((Ls).take (((Ls).length) - (1))), by have := hnx.2; omega, ?_⟩
      refine ⟨(Ls).take (((Ls).length) - (1)), ((brE ((nthC Ls (((Ls).length) - (1))).1.2.2))), Al, cl, ?_⟩
      exact ⟨(o1.sub (rc rfl (rc rfl (rc rfl rnl)))), t1, i0, hnx.1, rfl⟩
     ·
      have t1 := h0.setb (d := 61) (b := true) rfl (by rw [(decide_eq_false b1)]; rfl)
      refine wp_cond_true (t1.ev rfl) ?_
      refine c_region ?_
      refine mv t1 (fun h0 o1 => ?_)
      refine m_field (j' := 1) sv o1 rfl rfl rfl Tryd.underlying66 rfl sz22 rfl rfl (by decide) (fun h0 t1 => ?_)
      refine m_load (i := 2) sv t1 x0 rfl rfl rfl rfl rfl Tryd.underlying22 rfl (by decide) (fun h0 o1 => ?_)
      have h0 := x0.nf
      refine k_call (xs := [.tmp 62, .tmp 64]) se o1 rfl rfl rfl (by decide) ok32 (vbare_calls bn ihO _ _ h0.il _ _ _ _ _ _ ((nthC Ls (((Ls).length) - (1))).2.2.2) (h0.g 0) (h0.z 0) (imm_box (i := 0) rfl) (h0.g 1) (h0.g 6) (hb := (by assumption)) (hce := (by first | exact hev | assumption)) (hbn := (by assumption)) (hB := hB)) ?_
      rintro o1 x0 ⟨t1, p1, u1, rfl, f1, q1, v1, k1⟩
      have x0 := h0.callM (i := 0) rfl f1 q1
      have q1 := h0.dM 0 x0 v1
      refine ⟨_, rfl, fun x0 v1 => ?_⟩
      obtain ⟨hgb1, hgb2, hgb3, hgb4⟩ := br_facts hxb hmb hB k1
      refine m_field (j' := 1) sv v1 rfl rfl rfl Tryd.underlying66 rfl sz22 rfl rfl (by decide) (fun x0 h0 => ?_)
      refine m_store (i := 2) (cs' := [.slice n0 u0.length t0, .slice t1 u1.length p1]) se h0 q1 rfl rfl rfl rfl rfl sz22 rfl rfl rfl (fun x0 v1 f1 o1 => ?_)
      refine wpList_nil (x_then_n (p0 _ _ ?_))
      refine wp_seq_k (fun v1 x0 => ?_)
      refine wsc (fun v1 h0 => ?_)
      refine mv f1 (fun v1 q1 => ?_)
      refine r_nilCheck sv q1 rfl rfl rfl (by decide) (fun v1 f1 => ?_)
      refine m_field (j' := 1) sv f1 rfl rfl rfl Tryd.underlying55 rfl sz26 rfl rfl (by decide) (fun v1 q1 => ?_)
      refine m_load (i := 0) sv q1 o1 rfl rfl rfl rfl rfl Tryd.underlying26 rfl (by decide) (fun v1 f1 => ?_)
      refine r_neq sv f1 rfl rfl rfl rfl (by decide) (fun v1 q1 => ?_)
      refine wpList_nil (x_then_n (h0 _ _ ?_))
      rcases Decidable.em (((brE ((nthC Ls (((Ls).length) - (1))).2.2.2))) = 0) with h0 | h0
      ·
       have v1 := q1.setb (d := 71) (b := false) rfl (by rw [(decide_eq_true h0)]; rfl)
       refine wp_cond_false (v1.ev rfl) ?_
       refine wp_skip ?_
       refine x_then_n (x0 _ _ ?_)
       have x0 := o1.nf
       refine c_join (fun ga gw => ∃ i1 : Nat, ∃ c1 : Nat, Reg ga 202 [(1000000, .bool false), (0, .pointer (some ⟨cg, 0, none⟩)), (7, .slice Al (((Ls).take (((Ls).length) - (1))).length) cl), (8, .pointer (some ⟨o0, 0, none⟩)), (9, .pointer (some ⟨i1, 0, none⟩)), (10, .pointer (some ⟨c1, 0, none⟩))] ∧ St w0 Z (· = cg) gw [.box cg 55 [.map (some cb), .int .i64 ((brE ((nthC Ls (((Ls).length) - (1))).2.2.2)))], .row Al (((Ls).take (((Ls).length) - (1))).length) cl 66 2 (encCs ((Ls).take (((Ls).length) - (1)))), .box o0 66 [.slice n0 u0.length t0, .slice t1 u1.length p1], .box i1 32 [.int .i64 (((nth u0 (u0.length - 1)).K)), .int .i64 (((nth u0 (u0.length - 1)).N)), .int .i64 (((nth u0 (u0.length - 1)).M)), .string ((nth u0 (u0.length - 1)).S)], .box c1 32 [.int .i64 (((nth u1 (u1.length - 1)).K)), .int .i64 (((nth u1 (u1.length - 1)).N)), .int .i64 (((nth u1 (u1.length - 1)).M)), .string ((nth u1 (u1.length - 1)).S)]] [dShapes, dIdle cb cq, dRow 4 aA a.length ac (encNs a), dRow 4 bA b.length bc (encNs b), dAllC Ls, dRow 4 ((nthC Ls (((Ls).length) - (1))).1.1) ((nthC Ls (((Ls).length) - (1))).1.2.2.length) ((nthC Ls (((Ls).length) - (1))).1.2.1) (encNs ((nthC Ls (((Ls).length) - (1))).1.2.2)), dRow 4 ((nthC Ls (((Ls).length) - (1))).2.1) ((nthC Ls (((Ls).length) - (1))).2.2.2.length) ((nthC Ls (((Ls).length) - (1))).2.2.1) (encNs ((nthC Ls (((Ls).length) - (1))).2.2.2)), dAllC ((Ls).take (((Ls).length) - (1))), dRow 4 n0 u0.length t0 (encNs u0), dRow 4 t1 u1.length p1 (encNs u1)]) ?_ ?_
       ·
        obtain ⟨f1, x1, h1⟩ := x0.agree
        refine d_reg3 (n := 10) h1 10 (pB 2 0 pn) (pan_then (pan_block (pan_then (pan_block (pan_then (pan_scope pan_body)))))) (fun x1 f1 x0 m1 j1 n1 => ?_)
        refine dtF 0 0 f1 v1 n1 Tryd.underlying66 sz22 (fun m1 x1 => ?_)
        refine dtC 1 0 f1 x1 n1 Tryd.underlying22 (fun m1 v1 => ?_)
        refine dtF 3 1 f1 v1 n1 Tryd.underlying66 sz22 (fun m1 x1 => ?_)
        refine dtC 4 1 f1 x1 n1 Tryd.underlying22 (fun m1 v1 => ?_)
        refine wpAnyH_all (rs := [2, 6, 7]) (by kernel_rfl) (by simp) ?_
        rintro i m1
        simp only [List.mem_cons, List.not_mem_nil, or_false] at m1
        rcases m1 with rfl | rfl | rfl
        ·
         have m1 := j1.nf
         refine k_call (xs := [.tmp 73]) (st_op rfl (want_n rfl)) v1 rfl rfl rfl (by decide) ok31 (vroot_calls _ _ m1.il _ _ _ (m1.g 8)) ?_
         rintro x1 n1 ⟨rfl, f1⟩
         have n1 := m1.below f1.below
         refine ⟨_, rfl, fun f1 m1 => ?_⟩
         have f1 := sWI n1 10 (pB 2 0 pn)
         refine ⟨f1, ?_⟩
         refine wpAnyH_all (rs := [5, 6, 7]) (by kernel_rfl) (by simp) ?_
         rintro i f1
         simp only [List.mem_cons, List.not_mem_nil, or_false] at f1
         rcases f1 with rfl | rfl | rfl
         ·
          have f1 := n1.nf
          refine k_call (xs := [.tmp 76]) (st_op rfl (want_n rfl)) m1 rfl rfl rfl (by decide) ok31 (vroot_calls _ _ f1.il _ _ _ (f1.g 9)) ?_
          rintro x1 h1 ⟨rfl, s1⟩
          have h1 := f1.below s1.below
          refine ⟨_, rfl, fun s1 f1 => ?_⟩
          have s1 := sWI h1 10 (pB 2 0 pn)
          refine ⟨s1, ?_⟩
          refine wpAnyH_all (rs := [6, 7]) (by kernel_rfl) (by simp) ?_
          rintro i s1
          simp only [List.mem_cons, List.not_mem_nil, or_false] at s1
          rcases s1 with rfl | rfl
          ·
           refine m_alloc (cs := [.int .i64 0, .int .i64 0, .int .i64 0, .string (⟨#[]⟩ : ByteArray)]) (st_opV rfl (want_n rfl)) f1 h1 rfl rfl ze32 rfl (by decide) (fun s1 x1 d0 y1 z1 => ?_)
           have x1 := sWI z1 10 (pB 2 0 pn)
           refine ⟨x1, ?_⟩
           refine d1 7 ?_
           refine m_alloc (cs := [.int .i64 0, .int .i64 0, .int .i64 0, .string (⟨#[]⟩ : ByteArray)]) (st_opV rfl (want_n rfl)) y1 z1 rfl rfl ze32 rfl (by decide) (fun x1 s1 b2 c2 d2 => ?_)
           have s1 := sWI d2 10 (pB 2 0 pn)
           refine ⟨s1, ?_⟩
           refine d1 8 ?_
           refine m_store (i := 3) (cs' := [.int .i64 (((nth u0 (u0.length - 1)).K)), .int .i64 (((nth u0 (u0.length - 1)).N)), .int .i64 (((nth u0 (u0.length - 1)).M)), .string ((nth u0 (u0.length - 1)).S)]) (st_op rfl (want_n rfl)) c2 d2 rfl rfl rfl rfl rfl sz32 rfl rfl rfl (fun s1 x1 z1 y1 => ?_)
           have x1 := sWI y1 10 (pB 2 0 pn)
           refine ⟨x1, ?_⟩
           refine d1 9 ?_
           refine m_store (i := 4) (cs' := [.int .i64 (((nth u1 (u1.length - 1)).K)), .int .i64 (((nth u1 (u1.length - 1)).N)), .int .i64 (((nth u1 (u1.length - 1)).M)), .string ((nth u1 (u1.length - 1)).S)]) (st_op rfl (want_n rfl)) z1 y1 rfl rfl rfl rfl rfl sz32 rfl rfl rfl (fun x1 s1 d2 c2 => ?_)
           have s1 := sWI c2 10 (pB 2 0 pn)
           refine ⟨s1, ?_⟩
           refine wpAnyH_done (by kernel_rfl) (x0 _ _ ?_) _
           exact x_then_n ⟨d0, b2, (d2.sub (rc rfl (rc rfl (rc rfl (rc rfl (rc rfl (rc rfl rnl))))))), (c2.forget 10)⟩
          ·
           refine m_alloc (cs := [.int .i64 0, .int .i64 0, .int .i64 0, .string (⟨#[]⟩ : ByteArray)]) (st_opV rfl (want_n rfl)) f1 h1 rfl rfl ze32 rfl (by decide) (fun c2 d2 b2 d0 s1 => ?_)
           have d2 := sWI s1 10 (pB 2 0 pn)
           refine ⟨d2, ?_⟩
           refine d1 6 ?_
           refine m_alloc (cs := [.int .i64 0, .int .i64 0, .int .i64 0, .string (⟨#[]⟩ : ByteArray)]) (st_opV rfl (want_n rfl)) d0 s1 rfl rfl ze32 rfl (by decide) (fun d2 c2 f1 h1 x1 => ?_)
           have c2 := sWI x1 10 (pB 2 0 pn)
           refine ⟨c2, ?_⟩
           refine d1 8 ?_
           refine m_store (i := 4) (cs' := [.int .i64 (((nth u0 (u0.length - 1)).K)), .int .i64 (((nth u0 (u0.length - 1)).N)), .int .i64 (((nth u0 (u0.length - 1)).M)), .string ((nth u0 (u0.length - 1)).S)]) (st_op rfl (want_n rfl)) h1 x1 rfl rfl rfl rfl rfl sz32 rfl rfl rfl (fun c2 d2 s1 d0 => ?_)
           have d2 := sWI d0 10 (pB 2 0 pn)
           refine ⟨d2, ?_⟩
           refine d1 9 ?_
           refine m_store (i := 3) (cs' := [.int .i64 (((nth u1 (u1.length - 1)).K)), .int .i64 (((nth u1 (u1.length - 1)).N)), .int .i64 (((nth u1 (u1.length - 1)).M)), .string ((nth u1 (u1.length - 1)).S)]) (st_op rfl (want_n rfl)) s1 d0 rfl rfl rfl rfl rfl sz32 rfl rfl rfl (fun d2 c2 x1 h1 => ?_)
           have c2 := sWI h1 10 (pB 2 0 pn)
           refine ⟨c2, ?_⟩
           refine wpAnyH_done (by kernel_rfl) (x0 _ _ ?_) _
           exact x_then_n ⟨f1, b2, (x1.sub (rc rfl (rc rfl (rc rfl (rc rfl (rc rfl (rc rfl rnl))))))), ((h1.swp 3).forget 10)⟩
         ·
          refine m_alloc (cs := [.int .i64 0, .int .i64 0, .int .i64 0, .string (⟨#[]⟩ : ByteArray)]) (st_opV rfl (want_n rfl)) m1 n1 rfl rfl ze32 rfl (by decide) (fun h1 x1 f1 b2 c2 => ?_)
          have x1 := sWI c2 10 (pB 2 0 pn)
          refine ⟨x1, ?_⟩
          refine wpAnyH_all (rs := [5, 7]) (by kernel_rfl) (by simp) ?_
          rintro i x1
          simp only [List.mem_cons, List.not_mem_nil, or_false] at x1
          rcases x1 with rfl | rfl
          ·
           have x1 := c2.nf
           refine k_call (xs := [.tmp 76]) (st_op rfl (want_n rfl)) b2 rfl rfl rfl (by decide) ok31 (vroot_calls _ _ x1.il _ _ _ (x1.g 9)) ?_
           rintro h1 d2 ⟨rfl, d0⟩
           have d2 := x1.below d0.below
           refine ⟨_, rfl, fun d0 x1 => ?_⟩
           have d0 := sWI d2 10 (pB 2 0 pn)
           refine ⟨d0, ?_⟩
           refine d1 7 ?_
           refine m_alloc (cs := [.int .i64 0, .int .i64 0, .int .i64 0, .string (⟨#[]⟩ : ByteArray)]) (st_opV rfl (want_n rfl)) x1 d2 rfl rfl ze32 rfl (by decide) (fun d0 h1 s1 y1 z1 => ?_)
           have h1 := sWI z1 10 (pB 2 0 pn)
           refine ⟨h1, ?_⟩
           refine d1 8 ?_
           refine m_store (i := 3) (cs' := [.int .i64 (((nth u0 (u0.length - 1)).K)), .int .i64 (((nth u0 (u0.length - 1)).N)), .int .i64 (((nth u0 (u0.length - 1)).M)), .string ((nth u0 (u0.length - 1)).S)]) (st_op rfl (want_n rfl)) y1 z1 rfl rfl rfl rfl rfl sz32 rfl rfl rfl (fun h1 d0 x1 d2 => ?_)
           have d0 := sWI d2 10 (pB 2 0 pn)
           refine ⟨d0, ?_⟩
           refine d1 9 ?_
           refine m_store (i := 4) (cs' := [.int .i64 (((nth u1 (u1.length - 1)).K)), .int .i64 (((nth u1 (u1.length - 1)).N)), .int .i64 (((nth u1 (u1.length - 1)).M)), .string ((nth u1 (u1.length - 1)).S)]) (st_op rfl (want_n rfl)) x1 d2 rfl rfl rfl rfl rfl sz32 rfl rfl rfl (fun d0 h1 z1 y1 => ?_)
           have h1 := sWI y1 10 (pB 2 0 pn)
           refine ⟨h1, ?_⟩
           refine wpAnyH_done (by kernel_rfl) (x0 _ _ ?_) _
           exact x_then_n ⟨f1, s1, (z1.sub (rc rfl (rc rfl (rc rfl (rc rfl (rc rfl (rc rfl rnl))))))), (y1.forget 10)⟩
          ·
           refine m_alloc (cs := [.int .i64 0, .int .i64 0, .int .i64 0, .string (⟨#[]⟩ : ByteArray)]) (st_opV rfl (want_n rfl)) b2 c2 rfl rfl ze32 rfl (by decide) (fun y1 z1 s1 h1 d0 => ?_)
           have z1 := sWI d0 10 (pB 2 0 pn)
           refine ⟨z1, ?_⟩
           refine d1 5 ?_
           have z1 := d0.nf
           refine k_call (xs := [.tmp 76]) (st_op rfl (want_n rfl)) h1 rfl rfl rfl (by decide) ok31 (vroot_calls _ _ z1.il _ _ _ (z1.g 9)) ?_
           rintro h1 d0 ⟨rfl, y1⟩
           have d0 := z1.below y1.below
           refine ⟨_, rfl, fun y1 z1 => ?_⟩
           have y1 := sWI d0 10 (pB 2 0 pn)
           refine ⟨y1, ?_⟩
           refine d1 8 ?_
           refine m_store (i := 3) (cs' := [.int .i64 (((nth u0 (u0.length - 1)).K)), .int .i64 (((nth u0 (u0.length - 1)).N)), .int .i64 (((nth u0 (u0.length - 1)).M)), .string ((nth u0 (u0.length - 1)).S)]) (st_op rfl (want_n rfl)) z1 d0 rfl rfl rfl rfl rfl sz32 rfl rfl rfl (fun y1 h1 c2 b2 => ?_)
           have h1 := sWI b2 10 (pB 2 0 pn)
           refine ⟨h1, ?_⟩
           refine d1 9 ?_
           refine m_store (i := 4) (cs' := [.int .i64 (((nth u1 (u1.length - 1)).K)), .int .i64 (((nth u1 (u1.length - 1)).N)), .int .i64 (((nth u1 (u1.length - 1)).M)), .string ((nth u1 (u1.length - 1)).S)]) (st_op rfl (want_n rfl)) c2 b2 rfl rfl rfl rfl rfl sz32 rfl rfl rfl (fun h1 y1 z1 d0 => ?_)
           have y1 := sWI d0 10 (pB 2 0 pn)
           refine ⟨y1, ?_⟩
           refine wpAnyH_done (by kernel_rfl) (x0 _ _ ?_) _
           exact x_then_n ⟨f1, s1, (z1.sub (rc rfl (rc rfl (rc rfl (rc rfl (rc rfl (rc rfl rnl))))))), (d0.forget 10)⟩
         ·
          refine m_alloc (cs := [.int .i64 0, .int .i64 0, .int .i64 0, .string (⟨#[]⟩ : ByteArray)]) (st_opV rfl (want_n rfl)) m1 n1 rfl rfl ze32 rfl (by decide) (fun d0 z1 s1 f1 y1 => ?_)
          have z1 := sWI y1 10 (pB 2 0 pn)
          refine ⟨z1, ?_⟩
          refine wpAnyH_all (rs := [5, 6]) (by kernel_rfl) (by simp) ?_
          rintro i z1
          simp only [List.mem_cons, List.not_mem_nil, or_false] at z1
          rcases z1 with rfl | rfl
          ·
           have z1 := y1.nf
           refine k_call (xs := [.tmp 76]) (st_op rfl (want_n rfl)) f1 rfl rfl rfl (by decide) ok31 (vroot_calls _ _ z1.il _ _ _ (z1.g 9)) ?_
           rintro d0 m1 ⟨rfl, n1⟩
           have m1 := z1.below n1.below
           refine ⟨_, rfl, fun n1 z1 => ?_⟩
           have n1 := sWI m1 10 (pB 2 0 pn)
           refine ⟨n1, ?_⟩
           refine d1 6 ?_
           refine m_alloc (cs := [.int .i64 0, .int .i64 0, .int .i64 0, .string (⟨#[]⟩ : ByteArray)]) (st_opV rfl (want_n rfl)) z1 m1 rfl rfl ze32 rfl (by decide) (fun n1 d0 h1 b2 c2 => ?_)
           have d0 := sWI c2 10 (pB 2 0 pn)
           refine ⟨d0, ?_⟩
           refine d1 8 ?_
           refine m_store (i := 4) (cs' := [.int .i64 (((nth u0 (u0.length - 1)).K)), .int .i64 (((nth u0 (u0.length - 1)).N)), .int .i64 (((nth u0 (u0.length - 1)).M)), .string ((nth u0 (u0.length - 1)).S)]) (st_op rfl (want_n rfl)) b2 c2 rfl rfl rfl rfl rfl sz32 rfl rfl rfl (fun d0 n1 z1 m1 => ?_)
           have n1 := sWI m1 10 (pB 2 0 pn)
           refine ⟨n1, ?_⟩
           refine d1 9 ?_
           refine m_store (i := 3) (cs' := [.int .i64 (((nth u1 (u1.length - 1)).K)), .int .i64 (((nth u1 (u1.length - 1)).N)), .int .i64 (((nth u1 (u1.length - 1)).M)), .string ((nth u1 (u1.length - 1)).S)]) (st_op rfl (want_n rfl)) z1 m1 rfl rfl rfl rfl rfl sz32 rfl rfl rfl (fun n1 d0 c2 b2 => ?_)
           have d0 := sWI b2 10 (pB 2 0 pn)
           refine ⟨d0, ?_⟩
           refine wpAnyH_done (by kernel_rfl) (x0 _ _ ?_) _
           exact x_then_n ⟨h1, s1, (c2.sub (rc rfl (rc rfl (rc rfl (rc rfl (rc rfl (rc rfl rnl))))))), ((b2.swp 3).forget 10)⟩
          ·
           refine m_alloc (cs := [.int .i64 0, .int .i64 0, .int .i64 0, .string (⟨#[]⟩ : ByteArray)]) (st_opV rfl (want_n rfl)) f1 y1 rfl rfl ze32 rfl (by decide) (fun b2 c2 h1 d0 n1 => ?_)
           have c2 := sWI n1 10 (pB 2 0 pn)
           refine ⟨c2, ?_⟩
           refine d1 5 ?_
           have c2 := n1.nf
           refine k_call (xs := [.tmp 76]) (st_op rfl (want_n rfl)) d0 rfl rfl rfl (by decide) ok31 (vroot_calls _ _ c2.il _ _ _ (c2.g 9)) ?_
           rintro d0 n1 ⟨rfl, b2⟩
           have n1 := c2.below b2.below
           refine ⟨_, rfl, fun b2 c2 => ?_⟩
           have b2 := sWI n1 10 (pB 2 0 pn)
           refine ⟨b2, ?_⟩
           refine d1 8 ?_
           refine m_store (i := 4) (cs' := [.int .i64 (((nth u0 (u0.length - 1)).K)), .int .i64 (((nth u0 (u0.length - 1)).N)), .int .i64 (((nth u0 (u0.length - 1)).M)), .string ((nth u0 (u0.length - 1)).S)]) (st_op rfl (want_n rfl)) c2 n1 rfl rfl rfl rfl rfl sz32 rfl rfl rfl (fun b2 d0 y1 f1 => ?_)
           have d0 := sWI f1 10 (pB 2 0 pn)
           refine ⟨d0, ?_⟩
           refine d1 9 ?_
           refine m_store (i := 3) (cs' := [.int .i64 (((nth u1 (u1.length - 1)).K)), .int .i64 (((nth u1 (u1.length - 1)).N)), .int .i64 (((nth u1 (u1.length - 1)).M)), .string ((nth u1 (u1.length - 1)).S)]) (st_op rfl (want_n rfl)) y1 f1 rfl rfl rfl rfl rfl sz32 rfl rfl rfl (fun d0 b2 c2 n1 => ?_)
           have b2 := sWI n1 10 (pB 2 0 pn)
           refine ⟨b2, ?_⟩
           refine wpAnyH_done (by kernel_rfl) (x0 _ _ ?_) _
           exact x_then_n ⟨h1, s1, (c2.sub (rc rfl (rc rfl (rc rfl (rc rfl (rc rfl (rc rfl rnl))))))), ((n1.swp 3).forget 10)⟩
        ·
         refine m_alloc (cs := [.int .i64 0, .int .i64 0, .int .i64 0, .string (⟨#[]⟩ : ByteArray)]) (st_opV rfl (want_n rfl)) v1 j1 rfl rfl ze32 rfl (by decide) (fun n1 c2 h1 s1 b2 => ?_)
         have c2 := sWI b2 10 (pB 2 0 pn)
         refine ⟨c2, ?_⟩
         refine wpAnyH_all (rs := [2, 7]) (by kernel_rfl) (by simp) ?_
         rintro i c2
         simp only [List.mem_cons, List.not_mem_nil, or_false] at c2
         rcases c2 with rfl | rfl
         ·
          have c2 := b2.nf
          refine k_call (xs := [.tmp 73]) (st_op rfl (want_n rfl)) s1 rfl rfl rfl (by decide) ok31 (vroot_calls _ _ c2.il _ _ _ (c2.g 8)) ?_
          rintro n1 d0 ⟨rfl, f1⟩
          have d0 := c2.below f1.below
          refine ⟨_, rfl, fun f1 c2 => ?_⟩
          have f1 := sWI d0 10 (pB 2 0 pn)
          refine ⟨f1, ?_⟩
          refine wpAnyH_all (rs := [5, 7]) (by kernel_rfl) (by simp) ?_
          rintro i f1
          simp only [List.mem_cons, List.not_mem_nil, or_false] at f1
          rcases f1 with rfl | rfl
          ·
           have f1 := d0.nf
           refine k_call (xs := [.tmp 76]) (st_op rfl (want_n rfl)) c2 rfl rfl rfl (by decide) ok31 (vroot_calls _ _ f1.il _ _ _ (f1.g 9)) ?_
           rintro n1 y1 ⟨rfl, m1⟩
           have y1 := f1.below m1.below
           refine ⟨_, rfl, fun m1 f1 => ?_⟩
           have m1 := sWI y1 10 (pB 2 0 pn)
           refine ⟨m1, ?_⟩
           refine d1 7 ?_
           refine m_alloc (cs := [.int .i64 0, .int .i64 0, .int .i64 0, .string (⟨#[]⟩ : ByteArray)]) (st_opV rfl (want_n rfl)) f1 y1 rfl rfl ze32 rfl (by decide) (fun m1 n1 z1 d2 x1 => ?_)
           have n1 := sWI x1 10 (pB 2 0 pn)
           refine ⟨n1, ?_⟩
           refine d1 8 ?_
           refine m_store (i := 3) (cs' := [.int .i64 (((nth u0 (u0.length - 1)).K)), .int .i64 (((nth u0 (u0.length - 1)).N)), .int .i64 (((nth u0 (u0.length - 1)).M)), .string ((nth u0 (u0.length - 1)).S)]) (st_op rfl (want_n rfl)) d2 x1 rfl rfl rfl rfl rfl sz32 rfl rfl rfl (fun n1 m1 f1 y1 => ?_)
           have m1 := sWI y1 10 (pB 2 0 pn)
           refine ⟨m1, ?_⟩
           refine d1 9 ?_
           refine m_store (i := 4) (cs' := [.int .i64 (((nth u1 (u1.length - 1)).K)), .int .i64 (((nth u1 (u1.length - 1)).N)), .int .i64 (((nth u1 (u1.length - 1)).M)), .string ((nth u1 (u1.length - 1)).S)]) (st_op rfl (want_n rfl)) f1 y1 rfl rfl rfl rfl rfl sz32 rfl rfl rfl (fun m1 n1 x1 d2 => ?_)
           have n1 := sWI d2 10 (pB 2 0 pn)
           refine ⟨n1, ?_⟩
           refine wpAnyH_done (by kernel_rfl) (x0 _ _ ?_) _
           exact x_then_n ⟨h1, z1, (x1.sub (rc rfl (rc rfl (rc rfl (rc rfl (rc rfl (rc rfl rnl))))))), (d2.forget 10)⟩
          ·
           refine m_alloc (cs := [.int .i64 0, .int .i64 0, .int .i64 0, .string (⟨#[]⟩ : ByteArray)]) (st_opV rfl (want_n rfl)) c2 d0 rfl rfl ze32 rfl (by decide) (fun d2 x1 z1 n1 m1 => ?_)
           have x1 := sWI m1 10 (pB 2 0 pn)
           refine ⟨x1, ?_⟩
           refine d1 5 ?_
           have x1 := m1.nf
           refine k_call (xs := [.tmp 76]) (st_op rfl (want_n rfl)) n1 rfl rfl rfl (by decide) ok31 (vroot_calls _ _ x1.il _ _ _ (x1.g 9)) ?_
           rintro n1 m1 ⟨rfl, d2⟩
           have m1 := x1.below d2.below
           refine ⟨_, rfl, fun d2 x1 => ?_⟩
           have d2 := sWI m1 10 (pB 2 0 pn)
           refine ⟨d2, ?_⟩
           refine d1 8 ?_
           refine m_store (i := 3) (cs' := [.int .i64 (((nth u0 (u0.length - 1)).K)), .int .i64 (((nth u0 (u0.length - 1)).N)), .int .i64 (((nth u0 (u0.length - 1)).M)), .string ((nth u0 (u0.length - 1)).S)]) (st_op rfl (want_n rfl)) x1 m1 rfl rfl rfl rfl rfl sz32 rfl rfl rfl (fun d2 n1 c2 d0 => ?_)
           have n1 := sWI d0 10 (pB 2 0 pn)
           refine ⟨n1, ?_⟩
           refine d1 9 ?_
           refine m_store (i := 4) (cs' := [.int .i64 (((nth u1 (u1.length - 1)).K)), .int .i64 (((nth u1 (u1.length - 1)).N)), .int .i64 (((nth u1 (u1.length - 1)).M)), .string ((nth u1 (u1.length - 1)).S)]) (st_op rfl (want_n rfl)) c2 d0 rfl rfl rfl rfl rfl sz32 rfl rfl rfl (fun n1 d2 x1 m1 => ?_)
           have d2 := sWI m1 10 (pB 2 0 pn)
           refine ⟨d2, ?_⟩
           refine wpAnyH_done (by kernel_rfl) (x0 _ _ ?_) _
           exact x_then_n ⟨h1, z1, (x1.sub (rc rfl (rc rfl (rc rfl (rc rfl (rc rfl (rc rfl rnl))))))), (m1.forget 10)⟩
         ·
          refine m_alloc (cs := [.int .i64 0, .int .i64 0, .int .i64 0, .string (⟨#[]⟩ : ByteArray)]) (st_opV rfl (want_n rfl)) s1 b2 rfl rfl ze32 rfl (by decide) (fun m1 x1 z1 d2 n1 => ?_)
          have x1 := sWI n1 10 (pB 2 0 pn)
          refine ⟨x1, ?_⟩
          refine d1 2 ?_
          have x1 := n1.nf
          refine k_call (xs := [.tmp 73]) (st_op rfl (want_n rfl)) d2 rfl rfl rfl (by decide) ok31 (vroot_calls _ _ x1.il _ _ _ (x1.g 8)) ?_
          rintro d2 n1 ⟨rfl, m1⟩
          have n1 := x1.below m1.below
          refine ⟨_, rfl, fun m1 x1 => ?_⟩
          have m1 := sWI n1 10 (pB 2 0 pn)
          refine ⟨m1, ?_⟩
          refine d1 5 ?_
          have m1 := n1.nf
          refine k_call (xs := [.tmp 76]) (st_op rfl (want_n rfl)) x1 rfl rfl rfl (by decide) ok31 (vroot_calls _ _ m1.il _ _ _ (m1.g 9)) ?_
          rintro x1 n1 ⟨rfl, d2⟩
          have n1 := m1.below d2.below
          refine ⟨_, rfl, fun d2 m1 => ?_⟩
          have d2 := sWI n1 10 (pB 2 0 pn)
          refine ⟨d2, ?_⟩
          refine d1 8 ?_
          refine m_store (i := 3) (cs' := [.int .i64 (((nth u0 (u0.length - 1)).K)), .int .i64 (((nth u0 (u0.length - 1)).N)), .int .i64 (((nth u0 (u0.length - 1)).M)), .string ((nth u0 (u0.length - 1)).S)]) (st_op rfl (want_n rfl)) m1 n1 rfl rfl rfl rfl rfl sz32 rfl rfl rfl (fun d2 x1 b2 s1 => ?_)
          have x1 := sWI s1 10 (pB 2 0 pn)
          refine ⟨x1, ?_⟩
          refine d1 9 ?_
          refine m_store (i := 4) (cs' := [.int .i64 (((nth u1 (u1.length - 1)).K)), .int .i64 (((nth u1 (u1.length - 1)).N)), .int .i64 (((nth u1 (u1.length - 1)).M)), .string ((nth u1 (u1.length - 1)).S)]) (st_op rfl (want_n rfl)) b2 s1 rfl rfl rfl rfl rfl sz32 rfl rfl rfl (fun x1 d2 m1 n1 => ?_)
          have d2 := sWI n1 10 (pB 2 0 pn)
          refine ⟨d2, ?_⟩
          refine wpAnyH_done (by kernel_rfl) (x0 _ _ ?_) _
          exact x_then_n ⟨h1, z1, (m1.sub (rc rfl (rc rfl (rc rfl (rc rfl (rc rfl (rc rfl rnl))))))), (n1.forget 10)⟩
        ·
         refine m_alloc (cs := [.int .i64 0, .int .i64 0, .int .i64 0, .string (⟨#[]⟩ : ByteArray)]) (st_opV rfl (want_n rfl)) v1 j1 rfl rfl ze32 rfl (by decide) (fun n1 m1 z1 h1 d2 => ?_)
         have m1 := sWI d2 10 (pB 2 0 pn)
         refine ⟨m1, ?_⟩
         refine wpAnyH_all (rs := [2, 6]) (by kernel_rfl) (by simp) ?_
         rintro i m1
         simp only [List.mem_cons, List.not_mem_nil, or_false] at m1
         rcases m1 with rfl | rfl
         ·
          have m1 := d2.nf
          refine k_call (xs := [.tmp 73]) (st_op rfl (want_n rfl)) h1 rfl rfl rfl (by decide) ok31 (vroot_calls _ _ m1.il _ _ _ (m1.g 8)) ?_
          rintro n1 v1 ⟨rfl, j1⟩
          have v1 := m1.below j1.below
          refine ⟨_, rfl, fun j1 m1 => ?_⟩
          have j1 := sWI v1 10 (pB 2 0 pn)
          refine ⟨j1, ?_⟩
          refine wpAnyH_all (rs := [5, 6]) (by kernel_rfl) (by simp) ?_
          rintro i j1
          simp only [List.mem_cons, List.not_mem_nil, or_false] at j1
          rcases j1 with rfl | rfl
          ·
           have j1 := v1.nf
           refine k_call (xs := [.tmp 76]) (st_op rfl (want_n rfl)) m1 rfl rfl rfl (by decide) ok31 (vroot_calls _ _ j1.il _ _ _ (j1.g 9)) ?_
           rintro n1 x1 ⟨rfl, s1⟩
           have x1 := j1.below s1.below
           refine ⟨_, rfl, fun s1 j1 => ?_⟩
           have s1 := sWI x1 10 (pB 2 0 pn)
           refine ⟨s1, ?_⟩
           refine d1 6 ?_
           refine m_alloc (cs := [.int .i64 0, .int .i64 0, .int .i64 0, .string (⟨#[]⟩ : ByteArray)]) (st_opV rfl (want_n rfl)) j1 x1 rfl rfl ze32 rfl (by decide) (fun s1 n1 b2 d0 c2 => ?_)
           have n1 := sWI c2 10 (pB 2 0 pn)
           refine ⟨n1, ?_⟩
           refine d1 8 ?_
           refine m_store (i := 4) (cs' := [.int .i64 (((nth u0 (u0.length - 1)).K)), .int .i64 (((nth u0 (u0.length - 1)).N)), .int .i64 (((nth u0 (u0.length - 1)).M)), .string ((nth u0 (u0.length - 1)).S)]) (st_op rfl (want_n rfl)) d0 c2 rfl rfl rfl rfl rfl sz32 rfl rfl rfl (fun n1 s1 j1 x1 => ?_)
           have s1 := sWI x1 10 (pB 2 0 pn)
           refine ⟨s1, ?_⟩
           refine d1 9 ?_
           refine m_store (i := 3) (cs' := [.int .i64 (((nth u1 (u1.length - 1)).K)), .int .i64 (((nth u1 (u1.length - 1)).N)), .int .i64 (((nth u1 (u1.length - 1)).M)), .string ((nth u1 (u1.length - 1)).S)]) (st_op rfl (want_n rfl)) j1 x1 rfl rfl rfl rfl rfl sz32 rfl rfl rfl (fun s1 n1 c2 d0 => ?_)
           have n1 := sWI d0 10 (pB 2 0 pn)
           refine ⟨n1, ?_⟩
           refine wpAnyH_done (by kernel_rfl) (x0 _ _ ?_) _
           exact x_then_n ⟨b2, z1, (c2.sub (rc rfl (rc rfl (rc rfl (rc rfl (rc rfl (rc rfl rnl))))))), ((d0.swp 3).forget 10)⟩
          ·
           refine m_alloc (cs := [.int .i64 0, .int .i64 0, .int .i64 0, .string (⟨#[]⟩ : ByteArray)]) (st_opV rfl (want_n rfl)) m1 v1 rfl rfl ze32 rfl (by decide) (fun d0 c2 b2 n1 s1 => ?_)
           have c2 := sWI s1 10 (pB 2 0 pn)
           refine ⟨c2, ?_⟩
           refine d1 5 ?_
           have c2 := s1.nf
           refine k_call (xs := [.tmp 76]) (st_op rfl (want_n rfl)) n1 rfl rfl rfl (by decide) ok31 (vroot_calls _ _ c2.il _ _ _ (c2.g 9)) ?_
           rintro n1 s1 ⟨rfl, d0⟩
           have s1 := c2.below d0.below
           refine ⟨_, rfl, fun d0 c2 => ?_⟩
           have d0 := sWI s1 10 (pB 2 0 pn)
           refine ⟨d0, ?_⟩
           refine d1 8 ?_
           refine m_store (i := 4) (cs' := [.int .i64 (((nth u0 (u0.length - 1)).K)), .int .i64 (((nth u0 (u0.length - 1)).N)), .int .i64 (((nth u0 (u0.length - 1)).M)), .string ((nth u0 (u0.length - 1)).S)]) (st_op rfl (want_n rfl)) c2 s1 rfl rfl rfl rfl rfl sz32 rfl rfl rfl (fun d0 n1 m1 v1 => ?_)
           have n1 := sWI v1 10 (pB 2 0 pn)
           refine ⟨n1, ?_⟩
           refine d1 9 ?_
           refine m_store (i := 3) (cs' := [.int .i64 (((nth u1 (u1.length - 1)).K)), .int .i64 (((nth u1 (u1.length - 1)).N)), .int .i64 (((nth u1 (u1.length - 1)).M)), .string ((nth u1 (u1.length - 1)).S)]) (st_op rfl (want_n rfl)) m1 v1 rfl rfl rfl rfl rfl sz32 rfl rfl rfl (fun n1 d0 c2 s1 => ?_)
           have d0 := sWI s1 10 (pB 2 0 pn)
           refine ⟨d0, ?_⟩
           refine wpAnyH_done (by kernel_rfl) (x0 _ _ ?_) _
           exact x_then_n ⟨b2, z1, (c2.sub (rc rfl (rc rfl (rc rfl (rc rfl (rc rfl (rc rfl rnl))))))), ((s1.swp 3).forget 10)⟩
         ·
          refine m_alloc (cs := [.int .i64 0, .int .i64 0, .int .i64 0, .string (⟨#[]⟩ : ByteArray)]) (st_opV rfl (want_n rfl)) h1 d2 rfl rfl ze32 rfl (by decide) (fun s1 c2 b2 d0 n1 => ?_)
          have c2 := sWI n1 10 (pB 2 0 pn)
          refine ⟨c2, ?_⟩
          refine d1 2 ?_
          have c2 := n1.nf
          refine k_call (xs := [.tmp 73]) (st_op rfl (want_n rfl)) d0 rfl rfl rfl (by decide) ok31 (vroot_calls _ _ c2.il _ _ _ (c2.g 8)) ?_
          rintro d0 n1 ⟨rfl, s1⟩
          have n1 := c2.below s1.below
          refine ⟨_, rfl, fun s1 c2 => ?_⟩
          have s1 := sWI n1 10 (pB 2 0 pn)
          refine ⟨s1, ?_⟩
          refine d1 5 ?_
          have s1 := n1.nf
          refine k_call (xs := [.tmp 76]) (st_op rfl (want_n rfl)) c2 rfl rfl rfl (by decide) ok31 (vroot_calls _ _ s1.il _ _ _ (s1.g 9)) ?_
          rintro c2 n1 ⟨rfl, d0⟩
          have n1 := s1.below d0.below
          refine ⟨_, rfl, fun d0 s1 => ?_⟩
          have d0 := sWI n1 10 (pB 2 0 pn)
          refine ⟨d0, ?_⟩
          refine d1 8 ?_
          refine m_store (i := 4) (cs' := [.int .i64 (((nth u0 (u0.length - 1)).K)), .int .i64 (((nth u0 (u0.length - 1)).N)), .int .i64 (((nth u0 (u0.length - 1)).M)), .string ((nth u0 (u0.length - 1)).S)]) (st_op rfl (want_n rfl)) s1 n1 rfl rfl rfl rfl rfl sz32 rfl rfl rfl (fun d0 c2 d2 h1 => ?_)
          have c2 := sWI h1 10 (pB 2 0 pn)
          refine ⟨c2, ?_⟩
          refine d1 9 ?_
          refine m_store (i := 3) (cs' := [.int .i64 (((nth u1 (u1.length - 1)).K)), .int .i64 (((nth u1 (u1.length - 1)).N)), .int .i64 (((nth u1 (u1.length - 1)).M)), .string ((nth u1 (u1.length - 1)).S)]) (st_op rfl (want_n rfl)) d2 h1 rfl rfl rfl rfl rfl sz32 rfl rfl rfl (fun c2 d0 s1 n1 => ?_)
          have d0 := sWI n1 10 (pB 2 0 pn)
          refine ⟨d0, ?_⟩
          refine wpAnyH_done (by kernel_rfl) (x0 _ _ ?_) _
          exact x_then_n ⟨b2, z1, (s1.sub (rc rfl (rc rfl (rc rfl (rc rfl (rc rfl (rc rfl rnl))))))), ((n1.swp 3).forget 10)⟩
       rintro n1 s1 ⟨i1, c1, b2, z1⟩
       refine wp_seq_k (fun n1 x0 => ?_)
       refine wsc (fun n1 d0 => ?_)
       refine m_field (j' := 0) sv b2 rfl rfl rfl Tryd.underlying32 rfl sz3 rfl rfl (by decide) (fun n1 c2 => ?_)
       refine m_load (i := 3) sv c2 z1 rfl rfl rfl rfl rfl Tryd.underlying3 rfl (by decide) (fun n1 b2 => ?_)
       refine r_eql sv b2 rfl rfl rfl rfl (by decide) (fun n1 c2 => ?_)
       refine mv c2 (fun n1 b2 => ?_)
       have n1 := b2.setb (d := 81) (b := false) rfl (decide_eq_false b1)
       refine m_field (j' := 0) (st_listV_w (wt n1)) n1 rfl rfl rfl Tryd.underlying32 rfl sz3 rfl rfl (by decide) (fun b2 c2 => ?_)
       refine m_load (i := 4) (st_listV_w (wt c2)) c2 z1 rfl rfl rfl rfl rfl Tryd.underlying3 rfl (by decide) (fun b2 n1 => ?_)
       refine r_eql (st_listV_w (wt n1)) n1 rfl rfl rfl rfl (by decide) (fun b2 c2 => ?_)
       refine r_pick_f sv c2 rfl rfl rfl rfl (by decide) (fun b2 n1 => ?_)
       refine wpList_nil (x_then_n (d0 _ _ ?_))
       rcases Decidable.em ((((nth u1 (u1.length - 1)).K)) = 29) with d0 | d0
       ·
        have b2 := n1.setb (d := 85) (b := true) rfl (decide_eq_true d0)
        refine wp_cond_true (b2.ev rfl) ?_
        refine wp_exit ?_
        refine x_then_e ?_
        refine x_block_eq ?_
        have hnx : CInv (treeOf a) (treeOf b) (bn + 1) ((Ls).take (((Ls).length) - (1))) ∧ wgt ((Ls).take (((Ls).length) - (1))) < wgt Ls := hinv.skip f0 (c_k2' hxo q0 m0 i0 z0 b1 h0 k1 d0)
        have c2 := z1.erase 4
        have h1 := c2.erase 3
        have c2 := h1.erase 2
        have h1 := c2.forget 9
        have c2 := h1.forget 8
        have h1 := c2.forget 6
        have c2 := h1.forget 5
        have h1 := c2.forget 4
        have c2 := (h1).nf
        refine ⟨wgt ((Ls).take (((Ls).length) - (1))), by have := hnx.2; omega, ?_⟩
        refine ⟨(Ls).take (((Ls).length) - (1)), ((brE ((nthC Ls (((Ls).length) - (1))).2.2.2))), Al, cl, ?_⟩
        exact ⟨(b2.sub (rc rfl (rc rfl (rc rfl rnl)))), c2, h0, hnx.1, rfl⟩
       ·
        have hcb := CB.of hxo q0 m0 i0 h0 z0 k1 b1 d0
        have c2 := n1.setb (d := 85) (b := false) rfl (decide_eq_false d0)
        refine wp_cond_false (c2.ev rfl) ?_
        refine wp_skip ?_
        refine x_then_n (x0 _ _ ?_)
        refine wp_seq_k (fun x0 d0 => ?_)
        obtain ⟨x0, n1, b2⟩ := z1.agree
        refine d_reg3 (n := 8) b2 10 (pB 2 0 pn) (pan_then (pan_block (pan_then (pan_block (pan_then (pan_scope pan_body)))))) (fun n1 z1 h1 d2 v1 m1 => ?_)
        refine dtF 0 0 z1 c2 m1 Tryd.underlying66 sz22 (fun d2 n1 => ?_)
        refine dtC 1 0 z1 n1 m1 Tryd.underlying22 (fun d2 c2 => ?_)
        refine dtF 3 1 z1 c2 m1 Tryd.underlying66 sz22 (fun d2 n1 => ?_)
        refine dtC 4 1 z1 n1 m1 Tryd.underlying22 (fun d2 c2 => ?_)
        refine d1 2 ?_
        have d2 := v1.nf
        refine k_call (xs := [.tmp 87]) (st_op rfl (want_n rfl)) c2 rfl rfl rfl (by decide) ok33 (vparts_calls _ _ d2.il _ _ _ (d2.g 0) (d2.g 8)) ?_
        rintro c2 v1 ⟨n1, m1, b2, rfl, x1, j1, y1, f1⟩
        have v1 := d2.below x1.below
        have x1 := d2.dN v1 j1
        have v1 := d2.dN x1 y1
        refine ⟨_, rfl, fun x1 y1 => ?_⟩
        have x1 := sWI v1 10 (pB 2 0 pn)
        refine ⟨x1, ?_⟩
        refine d1 5 ?_
        have x1 := v1.nf
        refine k_call (xs := [.tmp 90]) (st_op rfl (want_n rfl)) y1 rfl rfl rfl (by decide) ok33 (vparts_calls _ _ x1.il _ _ _ (x1.g 0) (x1.g 9)) ?_
        rintro y1 v1 ⟨d2, j1, c2, rfl, f2, h2, i2, j2⟩
        have v1 := x1.below f2.below
        have f2 := x1.dN v1 h2
        have v1 := x1.dN f2 i2
        refine ⟨_, rfl, fun f2 i2 => ?_⟩
        have f2 := sWI v1 10 (pB 2 0 pn)
        refine ⟨f2, ?_⟩
        refine dtA 6 z1 i2 f2 (fun x1 h2 => ?_)
        refine dtA 7 z1 h2 f2 (fun x1 i2 => ?_)
        refine wpAnyH_done (by kernel_rfl) (h1 _ _ ?_) _
        refine x_then_n (d0 _ _ ?_)
        refine wp_seq_k (fun d0 h1 => ?_)
        refine wp_block ?_
        refine wsc (fun d0 x1 => ?_)
        refine m_field (j' := 0) sv i2 rfl rfl rfl Tryd.underlying32 rfl sz3 rfl rfl (by decide) (fun d0 h2 => ?_)
        refine m_load (i := 3) sv h2 v1 rfl rfl rfl rfl rfl Tryd.underlying3 rfl (by decide) (fun d0 i2 => ?_)
        refine r_eql sv i2 rfl rfl rfl rfl (by decide) (fun d0 h2 => ?_)
        refine mv h2 (fun d0 i2 => ?_)
        rcases Decidable.em ((((nth u0 (u0.length - 1)).K)) = 4) with d0 | d0
        ·
         have h2 := i2.setb (d := 96) (b := true) rfl (decide_eq_true d0)
         refine sps h2 (wff h2) (fun f2 z1 => ?_)
         refine sps z1 (wff z1) (fun f2 h2 => ?_)
         refine sps h2 (wff h2) (fun f2 z1 => ?_)
         refine r_pick_t sv z1 rfl rfl rfl rfl (by decide) (fun f2 h2 => ?_)
         refine asg h2 (fun f2 z1 => ?_)
         refine wpList_nil (x_then_n (x1 _ _ ?_))
         refine wp_cond_true (z1.ev rfl) ?_
         refine wp_seq_k (fun f2 h2 => ?_)
         obtain ⟨f2, y1, k2⟩ := v1.agree
         refine d_reg3 (n := 11) k2 15 (pc 0 0 (pB 2 0 pn)) (pan_then (pan_block (pan_then (pan_block (pan_then (pan_block (pan_then (pan_scope pan_body)))))))) (fun y1 f2 m2 n2 o2 p2 => ?_)
         refine dtM 0 f2 z1 p2 (fun n2 y1 => ?_)
         refine dtF 1 0 f2 y1 p2 Tryd.underlying66 sz22 (fun n2 z1 => ?_)
         refine dtC 2 1 f2 z1 p2 Tryd.underlying22 (fun n2 y1 => ?_)
         refine dtM 4 f2 y1 p2 (fun n2 z1 => ?_)
         refine dtF 5 1 f2 z1 p2 Tryd.underlying66 sz22 (fun n2 y1 => ?_)
         refine dtC 6 2 f2 y1 p2 Tryd.underlying22 (fun n2 z1 => ?_)
         refine wpAnyH_all (rs := [3, 9]) (by kernel_rfl) (by simp) ?_
         rintro i n2
         simp only [List.mem_cons, List.not_mem_nil, or_false] at n2
         rcases n2 with rfl | rfl
         ·
          have n2 := o2.nf
          refine k_call (xs := [.tmp 101, .tmp 103]) (st_op rfl (want_n rfl)) z1 rfl rfl rfl (by decide) ok34 (vbody_calls _ _ n2.il _ _ _ _ _ _ (n2.g 0) (n2.z 0) (imm_box (i := 0) rfl) (n2.g 8)) ?_
          rintro y1 p2 ⟨k2, q2, s2, rfl, t2, u2, v2, x2⟩
          have p2 := n2.callM (i := 0) rfl t2 u2
          have u2 := n2.dM 0 p2 v2
          refine ⟨_, rfl, fun p2 v2 => ?_⟩
          have p2 := sWI u2 15 (pc 0 0 (pB 2 0 pn))
          refine ⟨p2, ?_⟩
          refine wpAnyH_all (rs := [7, 9]) (by kernel_rfl) (by simp) ?_
          rintro i p2
          simp only [List.mem_cons, List.not_mem_nil, or_false] at p2
          rcases p2 with rfl | rfl
          ·
           have p2 := u2.nf
           refine k_call (xs := [.tmp 105, .tmp 107]) (st_op rfl (want_n rfl)) v2 rfl rfl rfl (by decide) ok34 (vbody_calls _ _ p2.il _ _ _ _ _ _ (p2.g 0) (p2.z 0) (imm_box (i := 0) rfl) (p2.g 9)) ?_
           rintro n2 t2 ⟨y1, y2, z2, rfl, b3, c3, d3, f3⟩
           have t2 := p2.callM (i := 0) rfl b3 c3
           have c3 := p2.dM 0 t2 d3
           refine ⟨_, rfl, fun t2 d3 => ?_⟩
           have t2 := sWI c3 15 (pc 0 0 (pB 2 0 pn))
           refine ⟨t2, ?_⟩
           refine dt 8 rfl f2 d3 (want_n rfl) (fun x hx => m_build (ps := [(0, .tmp 104), (1, .tmp 108)]) (v := .agg #[.slice k2 s2.length q2, .slice y1 z2.length y2]) (sy d3) d3 rfl rfl rfl (fun _ => by kernel_rfl) (by decide) gt) t2 (fun p2 b3 => ?_)
           refine d1 9 ?_
           refine m_alloc (cs := [.slice none 0 0, .slice none 0 0]) (st_opV rfl (want_n rfl)) b3 c3 rfl rfl ze66 rfl (by decide) (fun p2 t2 d3 n2 h3 => ?_)
           have d3 := sWI h3 15 (pc 0 0 (pB 2 0 pn))
           refine ⟨d3, ?_⟩
           refine d1 10 ?_
           refine m_store (i := 5) (cs' := [.slice k2 s2.length q2, .slice y1 z2.length y2]) (st_op rfl (want_n rfl)) n2 h3 rfl rfl rfl rfl rfl sz66 rfl rfl rfl (fun d3 t2 p2 b3 => ?_)
           have t2 := sWI b3 15 (pc 0 0 (pB 2 0 pn))
           refine ⟨t2, ?_⟩
           refine wpAnyH_done (by kernel_rfl) (m2 _ _ ?_) _
           refine x_then_n (h2 _ _ ?_)
           refine wp_seq_k (fun t2 d3 => ?_)
           refine wsc (fun t2 h3 => ?_)
           refine mv p2 (fun t2 n2 => ?_)
           refine r_nilCheck sv n2 rfl rfl rfl (by decide) (fun t2 p2 => ?_)
           refine m_field (j' := 1) sv p2 rfl rfl rfl Tryd.underlying55 rfl sz26 rfl rfl (by decide) (fun t2 n2 => ?_)
           refine m_load (i := 0) sv n2 b3 rfl rfl rfl rfl rfl Tryd.underlying26 rfl (by decide) (fun t2 p2 => ?_)
           refine r_neq sv p2 rfl rfl rfl rfl (by decide) (fun t2 n2 => ?_)
           refine wpList_nil (x_then_n (h3 _ _ ?_))
           rcases Decidable.em (((if bodE (treeOf u1) = true then 2 else ((if bodE (treeOf u0) = true then 2 else ((brE ((nthC Ls (((Ls).length) - (1))).2.2.2))))))) = 0) with h3 | h3
           ·
            have hnm := no_max h3
            have t2 := n2.setb (d := 114) (b := false) rfl (by rw [(decide_eq_true h3)]; rfl)
            refine wp_cond_false (t2.ev rfl) ?_
            refine wp_skip ?_
            refine x_then_n (d3 _ _ ?_)
            refine wsc (fun d3 p2 => ?_)
            refine mv t2 (fun d3 c3 => ?_)
            refine m_loadN (i := 5) (vs := [.slice k2 s2.length q2, .slice y1 z2.length y2]) sv c3 b3 rfl rfl rfl rfl rfl Tryd.underlying66 rfl sz66 (by decide) (fun d3 t2 => ?_)
            have d3 := b3.data (dAllC [(((k2, q2, s2) : Sl), ((y1, y2, z2) : Sl))]) (allC_cons (b3.get (i := 16) rfl) (b3.get (i := 17) rfl) allC_nil)
            refine mbs [(0, .tmp 116)] [.slice k2 s2.length q2, .slice y1 z2.length y2] sv t2 d3 Tryd.underlying67 zi66 (fun c3 i3 j3 k3 m3 => ?_)
            refine m_appendF (f := encC) (i := 1) ((Ls).take (((Ls).length) - (1))) ([(((k2, q2, s2) : Sl), ((y1, y2, z2) : Sl))]) sv k3 m3 rfl rfl rfl rfl rfl encC_len (encC_one _) Tryd.underlying67 zi66 rfl rfl (own_lnews (f := encC) (m3.res (i := 6) rfl)) rfl (by first | omega | (simp only [List.length_cons, List.length_nil]; omega)) (by decide) (fun j3 i3 c3 d3 t2 n3 o3 => ?_)
            have t2 : (((Ls).take (((Ls).length) - (1))) ++ ([(((k2, q2, s2) : Sl), ((y1, y2, z2) : Sl))]) : List Cp).length = ((Ls).take (((Ls).length) - (1))).length + 1 := by first | (simp only [List.length_append, List.length_take, List.length_cons, List.length_nil]; done) | (simp only [List.length_append, List.length_take, List.length_cons, List.length_nil]; omega)
            have t2 := o3.erase 6
            have o3 := t2.data (dAllC (((Ls).take (((Ls).length) - (1))) ++ ([(((k2, q2, s2) : Sl), ((y1, y2, z2) : Sl))]))) (allC_append (t2.get (i := 7) rfl) (t2.get (i := 18) rfl))
            refine asg n3 (fun t2 i3 => ?_)
            refine wpList_nil (x_then_n (p2 _ _ ?_))
            refine wp_exit ?_
            refine x_block_e rfl ?_
            refine x_then_e ?_
            refine x_block_eq ?_
            have hnx : CInv (treeOf a) (treeOf b) (bn + 1) (((Ls).take (((Ls).length) - (1))) ++ ([(((k2, q2, s2) : Sl), ((y1, y2, z2) : Sl))])) ∧ wgt (((Ls).take (((Ls).length) - (1))) ++ ([(((k2, q2, s2) : Sl), ((y1, y2, z2) : Sl))])) < wgt Ls := hinv.lam f0 hcb z0 k1 (.inl d0) hnm x2 f3
            have f3 := o3.erase 5
            have o3 := f3.erase 4
            have f3 := o3.erase 3
            have o3 := f3.erase 2
            have f3 := o3.forget 18
            have o3 := f3.forget 17
            have f3 := o3.forget 16
            have o3 := f3.forget 15
            have f3 := o3.forget 14
            have o3 := f3.forget 13
            have f3 := o3.forget 12
            have o3 := f3.forget 11
            have f3 := o3.forget 10
            have o3 := f3.forget 9
            have f3 := o3.forget 8
            have o3 := f3.forget 7
            have f3 := o3.forget 6
            have o3 := f3.forget 5
            have f3 := o3.forget 4
            have o3 := (f3).nf
            refine ⟨wgt (((Ls).take (((Ls).length) - (1))) ++ ([(((k2, q2, s2) : Sl), ((y1, y2, z2) : Sl))])), by have := hnx.2; omega, ?_⟩
            refine ⟨((Ls).take (((Ls).length) - (1))) ++ ([(((k2, q2, s2) : Sl), ((y1, y2, z2) : Sl))]), ((if bodE (treeOf u1) = true then 2 else ((if bodE (treeOf u0) = true then 2 else ((brE ((nthC Ls (((Ls).length) - (1))).2.2.2))))))), c3, d3, ?_⟩
            exact ⟨(i3.sub (rc rfl (rc rfl (rc rfl rnl)))), o3, h3, hnx.1, rfl⟩
           ·
            have hfin := hinv.max f0 hcb z0 k1 (.inl d0) h0 h3
            have o3 := n2.setb (d := 114) (b := true) rfl (by rw [(decide_eq_false h3)]; rfl)
            refine wp_cond_true (o3.ev rfl) ?_
            refine wsc (fun h3 n2 => ?_)
            refine asg o3 (fun h3 i3 => ?_)
            refine wpList_nil (x_then_n (n2 _ _ ?_))
            refine wp_ret ?_
            refine x_then_r ?_
            refine x_block_r ?_
            refine x_then_r ?_
            refine x_block_r ?_
            refine x_then_r ?_
            refine x_block_r ?_
            refine x_then_r ?_
            refine x_scope_r ?_
            refine e_ret1 i3 rfl rfl rfl ?_
            refine ⟨?_, b3.fr, (by rw [show ((cv (treeOf a) (treeOf b)).1 : Int) = ((if bodE (treeOf u1) = true then 2 else ((if bodE (treeOf u0) = true then 2 else ((brE ((nthC Ls (((Ls).length) - (1))).2.2.2))))))) by (rw [hfin])]; exact b3.res (i := 0) rfl)⟩
            exact congrArg Ending.returned (ret_b (by rw [hfin]))
          ·
           refine m_alloc (cs := [.slice none 0 0, .slice none 0 0]) (st_opV rfl (want_n rfl)) v2 u2 rfl rfl ze66 rfl (by decide) (fun b3 i3 n2 h3 o3 => ?_)
           have n2 := sWI o3 15 (pc 0 0 (pB 2 0 pn))
           refine ⟨n2, ?_⟩
           refine d1 7 ?_
           have n2 := o3.nf
           refine k_call (xs := [.tmp 105, .tmp 107]) (st_op rfl (want_n rfl)) h3 rfl rfl rfl (by decide) ok34 (vbody_calls _ _ n2.il _ _ _ _ _ _ (n2.g 0) (n2.z 0) (imm_box (i := 0) rfl) (n2.g 9)) ?_
           rintro h3 o3 ⟨i3, b3, v2, rfl, u2, d3, c3, z2⟩
           have o3 := n2.callM (i := 0) rfl u2 d3
           have d3 := n2.dM 0 o3 c3
           refine ⟨_, rfl, fun o3 c3 => ?_⟩
           have o3 := sWI d3 15 (pc 0 0 (pB 2 0 pn))
           refine ⟨o3, ?_⟩
           refine dt 8 rfl f2 c3 (want_n rfl) (fun x hx => m_build (ps := [(0, .tmp 104), (1, .tmp 108)]) (v := .agg #[.slice k2 s2.length q2, .slice i3 v2.length b3]) (sy c3) c3 rfl rfl rfl (fun _ => by kernel_rfl) (by decide) gt) o3 (fun n2 u2 => ?_)
           refine d1 10 ?_
           refine m_store (i := 5) (cs' := [.slice k2 s2.length q2, .slice i3 v2.length b3]) (st_op rfl (want_n rfl)) u2 d3 rfl rfl rfl rfl rfl sz66 rfl rfl rfl (fun n2 o3 c3 h3 => ?_)
           have o3 := sWI h3 15 (pc 0 0 (pB 2 0 pn))
           refine ⟨o3, ?_⟩
           refine wpAnyH_done (by kernel_rfl) (m2 _ _ ?_) _
           refine x_then_n (h2 _ _ ?_)
           refine wp_seq_k (fun o3 n2 => ?_)
           refine wsc (fun o3 u2 => ?_)
           refine mv c3 (fun o3 d3 => ?_)
           refine r_nilCheck sv d3 rfl rfl rfl (by decide) (fun o3 c3 => ?_)
           refine m_field (j' := 1) sv c3 rfl rfl rfl Tryd.underlying55 rfl sz26 rfl rfl (by decide) (fun o3 d3 => ?_)
           refine m_load (i := 0) sv d3 h3 rfl rfl rfl rfl rfl Tryd.underlying26 rfl (by decide) (fun o3 c3 => ?_)
           refine r_neq sv c3 rfl rfl rfl rfl (by decide) (fun o3 d3 => ?_)
           refine wpList_nil (x_then_n (u2 _ _ ?_))
           rcases Decidable.em (((if bodE (treeOf u1) = true then 2 else ((if bodE (treeOf u0) = true then 2 else ((brE ((nthC Ls (((Ls).length) - (1))).2.2.2))))))) = 0) with u2 | u2
           ·
            have hnm := no_max u2
            have o3 := d3.setb (d := 114) (b := false) rfl (by rw [(decide_eq_true u2)]; rfl)
            refine wp_cond_false (o3.ev rfl) ?_
            refine wp_skip ?_
            refine x_then_n (n2 _ _ ?_)
            refine wsc (fun n2 c3 => ?_)
            refine mv o3 (fun n2 y2 => ?_)
            refine m_loadN (i := 5) (vs := [.slice k2 s2.length q2, .slice i3 v2.length b3]) sv y2 h3 rfl rfl rfl rfl rfl Tryd.underlying66 rfl sz66 (by decide) (fun n2 o3 => ?_)
            have n2 := h3.data (dAllC [(((k2, q2, s2) : Sl), ((i3, b3, v2) : Sl))]) (allC_cons (h3.get (i := 16) rfl) (h3.get (i := 17) rfl) allC_nil)
            refine mbs [(0, .tmp 116)] [.slice k2 s2.length q2, .slice i3 v2.length b3] sv o3 n2 Tryd.underlying67 zi66 (fun y2 y1 f3 p2 t2 => ?_)
            refine m_appendF (f := encC) (i := 1) ((Ls).take (((Ls).length) - (1))) ([(((k2, q2, s2) : Sl), ((i3, b3, v2) : Sl))]) sv p2 t2 rfl rfl rfl rfl rfl encC_len (encC_one _) Tryd.underlying67 zi66 rfl rfl (own_lnews (f := encC) (t2.res (i := 6) rfl)) rfl (by first | omega | (simp only [List.length_cons, List.length_nil]; omega)) (by decide) (fun f3 y1 y2 n2 o3 n3 j3 => ?_)
            have o3 : (((Ls).take (((Ls).length) - (1))) ++ ([(((k2, q2, s2) : Sl), ((i3, b3, v2) : Sl))]) : List Cp).length = ((Ls).take (((Ls).length) - (1))).length + 1 := by first | (simp only [List.length_append, List.length_take, List.length_cons, List.length_nil]; done) | (simp only [List.length_append, List.length_take, List.length_cons, List.length_nil]; omega)
            have o3 := j3.erase 6
            have j3 := o3.data (dAllC (((Ls).take (((Ls).length) - (1))) ++ ([(((k2, q2, s2) : Sl), ((i3, b3, v2) : Sl))]))) (allC_append (o3.get (i := 7) rfl) (o3.get (i := 18) rfl))
            refine asg n3 (fun o3 y1 => ?_)
            refine wpList_nil (x_then_n (c3 _ _ ?_))
            refine wp_exit ?_
            refine x_block_e rfl ?_
            refine x_then_e ?_
            refine x_block_eq ?_
            have hnx : CInv (treeOf a) (treeOf b) (bn + 1) (((Ls).take (((Ls).length) - (1))) ++ ([(((k2, q2, s2) : Sl), ((i3, b3, v2) : Sl))])) ∧ wgt (((Ls).take (((Ls).length) - (1))) ++ ([(((k2, q2, s2) : Sl), ((i3, b3, v2) : Sl))])) < wgt Ls := hinv.lam f0 hcb z0 k1 (.inl d0) hnm x2 z2
            have z2 := j3.erase 5
            have j3 := z2.erase 4
            have z2 := j3.erase 3
            have j3 := z2.erase 2
            have z2 := j3.forget 18
            have j3 := z2.forget 17
            have z2 := j3.forget 16
            have j3 := z2.forget 15
            have z2 := j3.forget 14
            have j3 := z2.forget 13
            have z2 := j3.forget 12
            have j3 := z2.forget 11
            have z2 := j3.forget 10
            have j3 := z2.forget 9
            have z2 := j3.forget 8
            have j3 := z2.forget 7
            have z2 := j3.forget 6
            have j3 := z2.forget 5
            have z2 := j3.forget 4
            have j3 := (z2).nf
            refine ⟨wgt (((Ls).take (((Ls).length) - (1))) ++ ([(((k2, q2, s2) : Sl), ((i3, b3, v2) : Sl))])), by have := hnx.2; omega, ?_⟩
            refine ⟨((Ls).take (((Ls).length) - (1))) ++ ([(((k2, q2, s2) : Sl), ((i3, b3, v2) : Sl))]), ((if bodE (treeOf u1) = true then 2 else ((if bodE (treeOf u0) = true then 2 else ((brE ((nthC Ls (((Ls).length) - (1))).2.2.2))))))), y2, n2, ?_⟩
            exact ⟨(y1.sub (rc rfl (rc rfl (rc rfl rnl)))), j3, u2, hnx.1, rfl⟩
           ·
            have hfin := hinv.max f0 hcb z0 k1 (.inl d0) h0 u2
            have j3 := d3.setb (d := 114) (b := true) rfl (by rw [(decide_eq_false u2)]; rfl)
            refine wp_cond_true (j3.ev rfl) ?_
            refine wsc (fun u2 d3 => ?_)
            refine asg j3 (fun u2 y1 => ?_)
            refine wpList_nil (x_then_n (d3 _ _ ?_))
            refine wp_ret ?_
            refine x_then_r ?_
            refine x_block_r ?_
            refine x_then_r ?_
            refine x_block_r ?_
            refine x_then_r ?_
            refine x_block_r ?_
            refine x_then_r ?_
            refine x_scope_r ?_
            refine e_ret1 y1 rfl rfl rfl ?_
            refine ⟨?_, h3.fr, (by rw [show ((cv (treeOf a) (treeOf b)).1 : Int) = ((if bodE (treeOf u1) = true then 2 else ((if bodE (treeOf u0) = true then 2 else ((brE ((nthC Ls (((Ls).length) - (1))).2.2.2))))))) by (rw [hfin])]; exact h3.res (i := 0) rfl)⟩
            exact congrArg Ending.returned (ret_b (by rw [hfin]))
         ·
          refine m_alloc (cs := [.slice none 0 0, .slice none 0 0]) (st_opV rfl (want_n rfl)) z1 o2 rfl rfl ze66 rfl (by decide) (fun h3 y1 d3 u2 j3 => ?_)
          have d3 := sWI j3 15 (pc 0 0 (pB 2 0 pn))
          refine ⟨d3, ?_⟩
          refine d1 3 ?_
          have d3 := j3.nf
          refine k_call (xs := [.tmp 101, .tmp 103]) (st_op rfl (want_n rfl)) u2 rfl rfl rfl (by decide) ok34 (vbody_calls _ _ d3.il _ _ _ _ _ _ (d3.g 0) (d3.z 0) (imm_box (i := 0) rfl) (d3.g 8)) ?_
          rintro u2 j3 ⟨y1, h3, z1, rfl, o2, n2, y2, v2⟩
          have j3 := d3.callM (i := 0) rfl o2 n2
          have n2 := d3.dM 0 j3 y2
          refine ⟨_, rfl, fun j3 y2 => ?_⟩
          have j3 := sWI n2 15 (pc 0 0 (pB 2 0 pn))
          refine ⟨j3, ?_⟩
          refine d1 7 ?_
          have j3 := n2.nf
          refine k_call (xs := [.tmp 105, .tmp 107]) (st_op rfl (want_n rfl)) y2 rfl rfl rfl (by decide) ok34 (vbody_calls _ _ j3.il _ _ _ _ _ _ (j3.g 0) (j3.z 0) (imm_box (i := 0) rfl) (j3.g 9)) ?_
          rintro y2 n2 ⟨d3, o2, u2, rfl, b3, i3, s2, q2⟩
          have n2 := j3.callM (i := 0) rfl b3 i3
          have i3 := j3.dM 0 n2 s2
          refine ⟨_, rfl, fun n2 s2 => ?_⟩
          have n2 := sWI i3 15 (pc 0 0 (pB 2 0 pn))
          refine ⟨n2, ?_⟩
          refine dt 8 rfl f2 s2 (want_n rfl) (fun x hx => m_build (ps := [(0, .tmp 104), (1, .tmp 108)]) (v := .agg #[.slice y1 z1.length h3, .slice d3 u2.length o2]) (sy s2) s2 rfl rfl rfl (fun _ => by kernel_rfl) (by decide) gt) n2 (fun j3 b3 => ?_)
          refine d1 10 ?_
          refine m_store (i := 5) (cs' := [.slice y1 z1.length h3, .slice d3 u2.length o2]) (st_op rfl (want_n rfl)) b3 i3 rfl rfl rfl rfl rfl sz66 rfl rfl rfl (fun j3 n2 s2 f2 => ?_)
          have n2 := sWI f2 15 (pc 0 0 (pB 2 0 pn))
          refine ⟨n2, ?_⟩
          refine wpAnyH_done (by kernel_rfl) (m2 _ _ ?_) _
          refine x_then_n (h2 _ _ ?_)
          refine wp_seq_k (fun h2 m2 => ?_)
          refine wsc (fun h2 n2 => ?_)
          refine mv s2 (fun h2 j3 => ?_)
          refine r_nilCheck sv j3 rfl rfl rfl (by decide) (fun h2 s2 => ?_)
          refine m_field (j' := 1) sv s2 rfl rfl rfl Tryd.underlying55 rfl sz26 rfl rfl (by decide) (fun h2 j3 => ?_)
          refine m_load (i := 0) sv j3 f2 rfl rfl rfl rfl rfl Tryd.underlying26 rfl (by decide) (fun h2 s2 => ?_)
          refine r_neq sv s2 rfl rfl rfl rfl (by decide) (fun h2 j3 => ?_)
          refine wpList_nil (x_then_n (n2 _ _ ?_))
          rcases Decidable.em (((if bodE (treeOf u1) = true then 2 else ((if bodE (treeOf u0) = true then 2 else ((brE ((nthC Ls (((Ls).length) - (1))).2.2.2))))))) = 0) with n2 | n2
          ·
           have hnm := no_max n2
           have h2 := j3.setb (d := 114) (b := false) rfl (by rw [(decide_eq_true n2)]; rfl)
           refine wp_cond_false (h2.ev rfl) ?_
           refine wp_skip ?_
           refine x_then_n (m2 _ _ ?_)
           refine wsc (fun m2 s2 => ?_)
           refine mv h2 (fun m2 b3 => ?_)
           refine m_loadN (i := 5) (vs := [.slice y1 z1.length h3, .slice d3 u2.length o2]) sv b3 f2 rfl rfl rfl rfl rfl Tryd.underlying66 rfl sz66 (by decide) (fun m2 h2 => ?_)
           have m2 := f2.data (dAllC [(((y1, h3, z1) : Sl), ((d3, o2, u2) : Sl))]) (allC_cons (f2.get (i := 16) rfl) (f2.get (i := 17) rfl) allC_nil)
           refine mbs [(0, .tmp 116)] [.slice y1 z1.length h3, .slice d3 u2.length o2] sv h2 m2 Tryd.underlying67 zi66 (fun b3 i3 y2 k2 z2 => ?_)
           refine m_appendF (f := encC) (i := 1) ((Ls).take (((Ls).length) - (1))) ([(((y1, h3, z1) : Sl), ((d3, o2, u2) : Sl))]) sv k2 z2 rfl rfl rfl rfl rfl encC_len (encC_one _) Tryd.underlying67 zi66 rfl rfl (own_lnews (f := encC) (z2.res (i := 6) rfl)) rfl (by first | omega | (simp only [List.length_cons, List.length_nil]; omega)) (by decide) (fun y2 i3 b3 m2 h2 x2 c3 => ?_)
           have h2 : (((Ls).take (((Ls).length) - (1))) ++ ([(((y1, h3, z1) : Sl), ((d3, o2, u2) : Sl))]) : List Cp).length = ((Ls).take (((Ls).length) - (1))).length + 1 := by first | (simp only [List.length_append, List.length_take, List.length_cons, List.length_nil]; done) | (simp only [List.length_append, List.length_take, List.length_cons, List.length_nil]; omega)
           have h2 := c3.erase 6
           have c3 := h2.data (dAllC (((Ls).take (((Ls).length) - (1))) ++ ([(((y1, h3, z1) : Sl), ((d3, o2, u2) : Sl))]))) (allC_append (h2.get (i := 7) rfl) (h2.get (i := 18) rfl))
           refine asg x2 (fun h2 i3 => ?_)
           refine wpList_nil (x_then_n (s2 _ _ ?_))
           refine wp_exit ?_
           refine x_block_e rfl ?_
           refine x_then_e ?_
           refine x_block_eq ?_
           have hnx : CInv (treeOf a) (treeOf b) (bn + 1) (((Ls).take (((Ls).length) - (1))) ++ ([(((y1, h3, z1) : Sl), ((d3, o2, u2) : Sl))])) ∧ wgt (((Ls).take (((Ls).length) - (1))) ++ ([(((y1, h3, z1) : Sl), ((d3, o2, u2) : Sl))])) < wgt Ls := hinv.lam f0 hcb z0 k1 (.inl d0) hnm v2 q2
           have q2 := c3.erase 5
           have c3 := q2.erase 4
           have q2 := c3.erase 3
           have c3 := q2.erase 2
           have q2 := c3.forget 18
           have c3 := q2.forget 17
           have q2 := c3.forget 16
           have c3 := q2.forget 15
           have q2 := c3.forget 14
           have c3 := q2.forget 13
           have q2 := c3.forget 12
           have c3 := q2.forget 11
           have q2 := c3.forget 10
           have c3 := q2.forget 9
           have q2 := c3.forget 8
           have c3 := q2.forget 7
           have q2 := c3.forget 6
           have c3 := q2.forget 5
           have q2 := c3.forget 4
           have c3 := (q2).nf
           refine ⟨wgt (((Ls).take (((Ls).length) - (1))) ++ ([(((y1, h3, z1) : Sl), ((d3, o2, u2) : Sl))])), by have := hnx.2; omega, ?_⟩
           refine ⟨((Ls).take (((Ls).length) - (1))) ++ ([(((y1, h3, z1) : Sl), ((d3, o2, u2) : Sl))]), ((if bodE (treeOf u1) = true then 2 else ((if bodE (treeOf u0) = true then 2 else ((brE ((nthC Ls (((Ls).length) - (1))).2.2.2))))))), b3, m2, ?_⟩
           exact ⟨(i3.sub (rc rfl (rc rfl (rc rfl rnl)))), c3, n2, hnx.1, rfl⟩
          ·
           have hfin := hinv.max f0 hcb z0 k1 (.inl d0) h0 n2
           have c3 := j3.setb (d := 114) (b := true) rfl (by rw [(decide_eq_false n2)]; rfl)
           refine wp_cond_true (c3.ev rfl) ?_
           refine wsc (fun n2 j3 => ?_)
           refine asg c3 (fun n2 i3 => ?_)
           refine wpList_nil (x_then_n (j3 _ _ ?_))
           refine wp_ret ?_
           refine x_then_r ?_
           refine x_block_r ?_
           refine x_then_r ?_
           refine x_block_r ?_
           refine x_then_r ?_
           refine x_block_r ?_
           refine x_then_r ?_
           refine x_scope_r ?_
           refine e_ret1 i3 rfl rfl rfl ?_
           refine ⟨?_, f2.fr, (by rw [show ((cv (treeOf a) (treeOf b)).1 : Int) = ((if bodE (treeOf u1) = true then 2 else ((if bodE (treeOf u0) = true then 2 else ((brE ((nthC Ls (((Ls).length) - (1))).2.2.2))))))) by (rw [hfin])]; exact f2.res (i := 0) rfl)⟩
           exact congrArg Ending.returned (ret_b (by rw [hfin]))
        ·
         have f2 := i2.setb (d := 96) (b := false) rfl (decide_eq_false d0)
         refine m_field (j' := 0) (st_listV_w (wt f2)) f2 rfl rfl rfl Tryd.underlying32 rfl sz3 rfl rfl (by decide) (fun i2 i3 => ?_)
         refine m_load (i := 4) (st_listV_w (wt i3)) i3 v1 rfl rfl rfl rfl rfl Tryd.underlying3 rfl (by decide) (fun i2 f2 => ?_)
         refine r_eql (st_listV_w (wt f2)) f2 rfl rfl rfl rfl (by decide) (fun i2 i3 => ?_)
         refine r_pick_f sv i3 rfl rfl rfl rfl (by decide) (fun i2 f2 => ?_)
         refine asg f2 (fun i2 i3 => ?_)
         refine wpList_nil (x_then_n (x1 _ _ ?_))
         rcases Decidable.em ((((nth u1 (u1.length - 1)).K)) = 4) with x1 | x1
         ·
          have i2 := i3.setb (d := 92) (b := true) rfl (decide_eq_true x1)
          refine wp_cond_true (i2.ev rfl) ?_
          refine wp_seq_k (fun f2 j3 => ?_)
          obtain ⟨f2, n2, c3⟩ := v1.agree
          refine d_reg3 (n := 11) c3 15 (pc 0 0 (pB 2 0 pn)) (pan_then (pan_block (pan_then (pan_block (pan_then (pan_block (pan_then (pan_scope pan_body)))))))) (fun n2 f2 m2 b3 u2 o2 => ?_)
          refine dtM 0 f2 i2 o2 (fun b3 n2 => ?_)
          refine dtF 1 0 f2 n2 o2 Tryd.underlying66 sz22 (fun b3 i2 => ?_)
          refine dtC 2 1 f2 i2 o2 Tryd.underlying22 (fun b3 n2 => ?_)
          refine dtM 4 f2 n2 o2 (fun b3 i2 => ?_)
          refine dtF 5 1 f2 i2 o2 Tryd.underlying66 sz22 (fun b3 n2 => ?_)
          refine dtC 6 2 f2 n2 o2 Tryd.underlying22 (fun b3 i2 => ?_)
          refine wpAnyH_all (rs := [3, 9]) (by kernel_rfl) (by simp) ?_
          rintro i b3
          simp only [List.mem_cons, List.not_mem_nil, or_false] at b3
          rcases b3 with rfl | rfl
          ·
           have b3 := u2.nf
           refine k_call (xs := [.tmp 101, .tmp 103]) (st_op rfl (want_n rfl)) i2 rfl rfl rfl (by decide) ok34 (vbody_calls _ _ b3.il _ _ _ _ _ _ (b3.g 0) (b3.z 0) (imm_box (i := 0) rfl) (b3.g 8)) ?_
           rintro n2 o2 ⟨c3, d3, z1, rfl, h3, y1, q2, v2⟩
           have o2 := b3.callM (i := 0) rfl h3 y1
           have y1 := b3.dM 0 o2 q2
           refine ⟨_, rfl, fun o2 q2 => ?_⟩
           have o2 := sWI y1 15 (pc 0 0 (pB 2 0 pn))
           refine ⟨o2, ?_⟩
           refine wpAnyH_all (rs := [7, 9]) (by kernel_rfl) (by simp) ?_
           rintro i o2
           simp only [List.mem_cons, List.not_mem_nil, or_false] at o2
           rcases o2 with rfl | rfl
           ·
            have o2 := y1.nf
            refine k_call (xs := [.tmp 105, .tmp 107]) (st_op rfl (want_n rfl)) q2 rfl rfl rfl (by decide) ok34 (vbody_calls _ _ o2.il _ _ _ _ _ _ (o2.g 0) (o2.z 0) (imm_box (i := 0) rfl) (o2.g 9)) ?_
            rintro b3 h3 ⟨n2, s2, h2, rfl, x2, y2, z2, k2⟩
            have h3 := o2.callM (i := 0) rfl x2 y2
            have y2 := o2.dM 0 h3 z2
            refine ⟨_, rfl, fun h3 z2 => ?_⟩
            have h3 := sWI y2 15 (pc 0 0 (pB 2 0 pn))
            refine ⟨h3, ?_⟩
            refine dt 8 rfl f2 z2 (want_n rfl) (fun x hx => m_build (ps := [(0, .tmp 104), (1, .tmp 108)]) (v := .agg #[.slice c3 z1.length d3, .slice n2 h2.length s2]) (sy z2) z2 rfl rfl rfl (fun _ => by kernel_rfl) (by decide) gt) h3 (fun o2 x2 => ?_)
            refine d1 9 ?_
            refine m_alloc (cs := [.slice none 0 0, .slice none 0 0]) (st_opV rfl (want_n rfl)) x2 y2 rfl rfl ze66 rfl (by decide) (fun o2 h3 z2 b3 o3 => ?_)
            have z2 := sWI o3 15 (pc 0 0 (pB 2 0 pn))
            refine ⟨z2, ?_⟩
            refine d1 10 ?_
            refine m_store (i := 5) (cs' := [.slice c3 z1.length d3, .slice n2 h2.length s2]) (st_op rfl (want_n rfl)) b3 o3 rfl rfl rfl rfl rfl sz66 rfl rfl rfl (fun z2 h3 o2 x2 => ?_)
            have h3 := sWI x2 15 (pc 0 0 (pB 2 0 pn))
            refine ⟨h3, ?_⟩
            refine wpAnyH_done (by kernel_rfl) (m2 _ _ ?_) _
            refine x_then_n (j3 _ _ ?_)
            refine wp_seq_k (fun h3 z2 => ?_)
            refine wsc (fun h3 o3 => ?_)
            refine mv o2 (fun h3 b3 => ?_)
            refine r_nilCheck sv b3 rfl rfl rfl (by decide) (fun h3 o2 => ?_)
            refine m_field (j' := 1) sv o2 rfl rfl rfl Tryd.underlying55 rfl sz26 rfl rfl (by decide) (fun h3 b3 => ?_)
            refine m_load (i := 0) sv b3 x2 rfl rfl rfl rfl rfl Tryd.underlying26 rfl (by decide) (fun h3 o2 => ?_)
            refine r_neq sv o2 rfl rfl rfl rfl (by decide) (fun h3 b3 => ?_)
            refine wpList_nil (x_then_n (o3 _ _ ?_))
            rcases Decidable.em (((if bodE (treeOf u1) = true then 2 else ((if bodE (treeOf u0) = true then 2 else ((brE ((nthC Ls (((Ls).length) - (1))).2.2.2))))))) = 0) with o3 | o3
            ·
             have hnm := no_max o3
             have h3 := b3.setb (d := 114) (b := false) rfl (by rw [(decide_eq_true o3)]; rfl)
             refine wp_cond_false (h3.ev rfl) ?_
             refine wp_skip ?_
             refine x_then_n (z2 _ _ ?_)
             refine wsc (fun z2 o2 => ?_)
             refine mv h3 (fun z2 y2 => ?_)
             refine m_loadN (i := 5) (vs := [.slice c3 z1.length d3, .slice n2 h2.length s2]) sv y2 x2 rfl rfl rfl rfl rfl Tryd.underlying66 rfl sz66 (by decide) (fun z2 h3 => ?_)
             have z2 := x2.data (dAllC [(((c3, d3, z1) : Sl), ((n2, s2, h2) : Sl))]) (allC_cons (x2.get (i := 16) rfl) (x2.get (i := 17) rfl) allC_nil)
             refine mbs [(0, .tmp 116)] [.slice c3 z1.length d3, .slice n2 h2.length s2] sv h3 z2 Tryd.underlying67 zi66 (fun y2 n3 f3 t2 p2 => ?_)
             refine m_appendF (f := encC) (i := 1) ((Ls).take (((Ls).length) - (1))) ([(((c3, d3, z1) : Sl), ((n2, s2, h2) : Sl))]) sv t2 p2 rfl rfl rfl rfl rfl encC_len (encC_one _) Tryd.underlying67 zi66 rfl rfl (own_lnews (f := encC) (p2.res (i := 6) rfl)) rfl (by first | omega | (simp only [List.length_cons, List.length_nil]; omega)) (by decide) (fun f3 n3 y2 z2 h3 m3 k3 => ?_)
             have h3 : (((Ls).take (((Ls).length) - (1))) ++ ([(((c3, d3, z1) : Sl), ((n2, s2, h2) : Sl))]) : List Cp).length = ((Ls).take (((Ls).length) - (1))).length + 1 := by first | (simp only [List.length_append, List.length_take, List.length_cons, List.length_nil]; done) | (simp only [List.length_append, List.length_take, List.length_cons, List.length_nil]; omega)
             have h3 := k3.erase 6
             have k3 := h3.data (dAllC (((Ls).take (((Ls).length) - (1))) ++ ([(((c3, d3, z1) : Sl), ((n2, s2, h2) : Sl))]))) (allC_append (h3.get (i := 7) rfl) (h3.get (i := 18) rfl))
             refine asg m3 (fun h3 n3 => ?_)
             refine wpList_nil (x_then_n (o2 _ _ ?_))
             refine wp_exit ?_
             refine x_block_e rfl ?_
             refine x_then_e ?_
             refine x_block_eq ?_
             have hnx : CInv (treeOf a) (treeOf b) (bn + 1) (((Ls).take (((Ls).length) - (1))) ++ ([(((c3, d3, z1) : Sl), ((n2, s2, h2) : Sl))])) ∧ wgt (((Ls).take (((Ls).length) - (1))) ++ ([(((c3, d3, z1) : Sl), ((n2, s2, h2) : Sl))])) < wgt Ls := hinv.lam f0 hcb z0 k1 (.inr x1) hnm v2 k2
             have k2 := k3.erase 5
             have k3 := k2.erase 4
             have k2 := k3.erase 3
             have k3 := k2.erase 2
             have k2 := k3.forget 18
             have k3 := k2.forget 17
             have k2 := k3.forget 16
             have k3 := k2.forget 15
             have k2 := k3.forget 14
             have k3 := k2.forget 13
             have k2 := k3.forget 12
             have k3 := k2.forget 11
             have k2 := k3.forget 10
             have k3 := k2.forget 9
             have k2 := k3.forget 8
             have k3 := k2.forget 7
             have k2 := k3.forget 6
             have k3 := k2.forget 5
             have k2 := k3.forget 4
             have k3 := (k2).nf
             refine ⟨wgt (((Ls).take (((Ls).length) - (1))) ++ ([(((c3, d3, z1) : Sl), ((n2, s2, h2) : Sl))])), by have := hnx.2; omega, ?_⟩
             refine ⟨((Ls).take (((Ls).length) - (1))) ++ ([(((c3, d3, z1) : Sl), ((n2, s2, h2) : Sl))]), ((if bodE (treeOf u1) = true then 2 else ((if bodE (treeOf u0) = true then 2 else ((brE ((nthC Ls (((Ls).length) - (1))).2.2.2))))))), y2, z2, ?_⟩
             exact ⟨(n3.sub (rc rfl (rc rfl (rc rfl rnl)))), k3, o3, hnx.1, rfl⟩
            ·
             have hfin := hinv.max f0 hcb z0 k1 (.inr x1) h0 o3
             have k3 := b3.setb (d := 114) (b := true) rfl (by rw [(decide_eq_false o3)]; rfl)
             refine wp_cond_true (k3.ev rfl) ?_
             refine wsc (fun o3 b3 => ?_)
             refine asg k3 (fun o3 n3 => ?_)
             refine wpList_nil (x_then_n (b3 _ _ ?_))
             refine wp_ret ?_
             refine x_then_r ?_
             refine x_block_r ?_
             refine x_then_r ?_
             refine x_block_r ?_
             refine x_then_r ?_
             refine x_block_r ?_
             refine x_then_r ?_
             refine x_scope_r ?_
             refine e_ret1 n3 rfl rfl rfl ?_
             refine ⟨?_, x2.fr, (by rw [show ((cv (treeOf a) (treeOf b)).1 : Int) = ((if bodE (treeOf u1) = true then 2 else ((if bodE (treeOf u0) = true then 2 else ((brE ((nthC Ls (((Ls).length) - (1))).2.2.2))))))) by (rw [hfin])]; exact x2.res (i := 0) rfl)⟩
             exact congrArg Ending.returned (ret_b (by rw [hfin]))
           ·
            refine m_alloc (cs := [.slice none 0 0, .slice none 0 0]) (st_opV rfl (want_n rfl)) q2 y1 rfl rfl ze66 rfl (by decide) (fun x2 n3 b3 o3 k3 => ?_)
            have b3 := sWI k3 15 (pc 0 0 (pB 2 0 pn))
            refine ⟨b3, ?_⟩
            refine d1 7 ?_
            have b3 := k3.nf
            refine k_call (xs := [.tmp 105, .tmp 107]) (st_op rfl (want_n rfl)) o3 rfl rfl rfl (by decide) ok34 (vbody_calls _ _ b3.il _ _ _ _ _ _ (b3.g 0) (b3.z 0) (imm_box (i := 0) rfl) (b3.g 9)) ?_
            rintro o3 k3 ⟨n3, x2, q2, rfl, y1, z2, y2, h2⟩
            have k3 := b3.callM (i := 0) rfl y1 z2
            have z2 := b3.dM 0 k3 y2
            refine ⟨_, rfl, fun k3 y2 => ?_⟩
            have k3 := sWI z2 15 (pc 0 0 (pB 2 0 pn))
            refine ⟨k3, ?_⟩
            refine dt 8 rfl f2 y2 (want_n rfl) (fun x hx => m_build (ps := [(0, .tmp 104), (1, .tmp 108)]) (v := .agg #[.slice c3 z1.length d3, .slice n3 q2.length x2]) (sy y2) y2 rfl rfl rfl (fun _ => by kernel_rfl) (by decide) gt) k3 (fun b3 y1 => ?_)
            refine d1 10 ?_
            refine m_store (i := 5) (cs' := [.slice c3 z1.length d3, .slice n3 q2.length x2]) (st_op rfl (want_n rfl)) y1 z2 rfl rfl rfl rfl rfl sz66 rfl rfl rfl (fun b3 k3 y2 o3 => ?_)
            have k3 := sWI o3 15 (pc 0 0 (pB 2 0 pn))
            refine ⟨k3, ?_⟩
            refine wpAnyH_done (by kernel_rfl) (m2 _ _ ?_) _
            refine x_then_n (j3 _ _ ?_)
            refine wp_seq_k (fun k3 b3 => ?_)
            refine wsc (fun k3 y1 => ?_)
            refine mv y2 (fun k3 z2 => ?_)
            refine r_nilCheck sv z2 rfl rfl rfl (by decide) (fun k3 y2 => ?_)
            refine m_field (j' := 1) sv y2 rfl rfl rfl Tryd.underlying55 rfl sz26 rfl rfl (by decide) (fun k3 z2 => ?_)
            refine m_load (i := 0) sv z2 o3 rfl rfl rfl rfl rfl Tryd.underlying26 rfl (by decide) (fun k3 y2 => ?_)
            refine r_neq sv y2 rfl rfl rfl rfl (by decide) (fun k3 z2 => ?_)
            refine wpList_nil (x_then_n (y1 _ _ ?_))
            rcases Decidable.em (((if bodE (treeOf u1) = true then 2 else ((if bodE (treeOf u0) = true then 2 else ((brE ((nthC Ls (((Ls).length) - (1))).2.2.2))))))) = 0) with y1 | y1
            ·
             have hnm := no_max y1
             have k3 := z2.setb (d := 114) (b := false) rfl (by rw [(decide_eq_true y1)]; rfl)
             refine wp_cond_false (k3.ev rfl) ?_
             refine wp_skip ?_
             refine x_then_n (b3 _ _ ?_)
             refine wsc (fun b3 y2 => ?_)
             refine mv k3 (fun b3 s2 => ?_)
             refine m_loadN (i := 5) (vs := [.slice c3 z1.length d3, .slice n3 q2.length x2]) sv s2 o3 rfl rfl rfl rfl rfl Tryd.underlying66 rfl sz66 (by decide) (fun b3 k3 => ?_)
             have b3 := o3.data (dAllC [(((c3, d3, z1) : Sl), ((n3, x2, q2) : Sl))]) (allC_cons (o3.get (i := 16) rfl) (o3.get (i := 17) rfl) allC_nil)
             refine mbs [(0, .tmp 116)] [.slice c3 z1.length d3, .slice n3 q2.length x2] sv k3 b3 Tryd.underlying67 zi66 (fun s2 n2 k2 o2 h3 => ?_)
             refine m_appendF (f := encC) (i := 1) ((Ls).take (((Ls).length) - (1))) ([(((c3, d3, z1) : Sl), ((n3, x2, q2) : Sl))]) sv o2 h3 rfl rfl rfl rfl rfl encC_len (encC_one _) Tryd.underlying67 zi66 rfl rfl (own_lnews (f := encC) (h3.res (i := 6) rfl)) rfl (by first | omega | (simp only [List.length_cons, List.length_nil]; omega)) (by decide) (fun k2 n2 s2 b3 k3 m3 f3 => ?_)
             have k3 : (((Ls).take (((Ls).length) - (1))) ++ ([(((c3, d3, z1) : Sl), ((n3, x2, q2) : Sl))]) : List Cp).length = ((Ls).take (((Ls).length) - (1))).length + 1 := by first | (simp only [List.length_append, List.length_take, List.length_cons, List.length_nil]; done) | (simp only [List.length_append, List.length_take, List.length_cons, List.length_nil]; omega)
             have k3 := f3.erase 6
             have f3 := k3.data (dAllC (((Ls).take (((Ls).length) - (1))) ++ ([(((c3, d3, z1) : Sl), ((n3, x2, q2) : Sl))]))) (allC_append (k3.get (i := 7) rfl) (k3.get (i := 18) rfl))
             refine asg m3 (fun k3 n2 => ?_)
             refine wpList_nil (x_then_n (y2 _ _ ?_))
             refine wp_exit ?_
             refine x_block_e rfl ?_
             refine x_then_e ?_
             refine x_block_eq ?_
             have hnx : CInv (treeOf a) (treeOf b) (bn + 1) (((Ls).take (((Ls).length) - (1))) ++ ([(((c3, d3, z1) : Sl), ((n3, x2, q2) : Sl))])) ∧ wgt (((Ls).take (((Ls).length) - (1))) ++ ([(((c3, d3, z1) : Sl), ((n3, x2, q2) : Sl))])) < wgt Ls := hinv.lam f0 hcb z0 k1 (.inr x1) hnm v2 h2
             have h2 := f3.erase 5
             have f3 := h2.erase 4
             have h2 := f3.erase 3
             have f3 := h2.erase 2
             have h2 := f3.forget 18
             have f3 := h2.forget 17
             have h2 := f3.forget 16
             have f3 := h2.forget 15
             have h2 := f3.forget 14
             have f3 := h2.forget 13
             have h2 := f3.forget 12
             have f3 := h2.forget 11
             have h2 := f3.forget 10
             have f3 := h2.forget 9
             have h2 := f3.forget 8
             have f3 := h2.forget 7
             have h2 := f3.forget 6
             have f3 := h2.forget 5
             have h2 := f3.forget 4
             have f3 := (h2).nf
             refine ⟨wgt (((Ls).take (((Ls).length) - (1))) ++ ([(((c3, d3, z1) : Sl), ((n3, x2, q2) : Sl))])), by have := hnx.2; omega, ?_⟩
             refine ⟨((Ls).take (((Ls).length) - (1))) ++ ([(((c3, d3, z1) : Sl), ((n3, x2, q2) : Sl))]), ((if bodE (treeOf u1) = true then 2 else ((if bodE (treeOf u0) = true then 2 else ((brE ((nthC Ls (((Ls).length) - (1))).2.2.2))))))), s2, b3, ?_⟩
             exact ⟨(n2.sub (rc rfl (rc rfl (rc rfl rnl)))), f3, y1, hnx.1, rfl⟩
            ·
             have hfin := hinv.max f0 hcb z0 k1 (.inr x1) h0 y1
             have f3 := z2.setb (d := 114) (b := true) rfl (by rw [(decide_eq_false y1)]; rfl)
             refine wp_cond_true (f3.ev rfl) ?_
             refine wsc (fun y1 z2 => ?_)
             refine asg f3 (fun y1 n2 => ?_)
             refine wpList_nil (x_then_n (z2 _ _ ?_))
             refine wp_ret ?_
             refine x_then_r ?_
             refine x_block_r ?_
             refine x_then_r ?_
             refine x_block_r ?_
             refine x_then_r ?_
             refine x_block_r ?_
             refine x_then_r ?_
             refine x_scope_r ?_
             refine e_ret1 n2 rfl rfl rfl ?_
             refine ⟨?_, o3.fr, (by rw [show ((cv (treeOf a) (treeOf b)).1 : Int) = ((if bodE (treeOf u1) = true then 2 else ((if bodE (treeOf u0) = true then 2 else ((brE ((nthC Ls (((Ls).length) - (1))).2.2.2))))))) by (rw [hfin])]; exact o3.res (i := 0) rfl)⟩
             exact congrArg Ending.returned (ret_b (by rw [hfin]))
          ·
           refine m_alloc (cs := [.slice none 0 0, .slice none 0 0]) (st_opV rfl (want_n rfl)) i2 u2 rfl rfl ze66 rfl (by decide) (fun o3 n2 z2 y1 f3 => ?_)
           have z2 := sWI f3 15 (pc 0 0 (pB 2 0 pn))
           refine ⟨z2, ?_⟩
           refine d1 3 ?_
           have z2 := f3.nf
           refine k_call (xs := [.tmp 101, .tmp 103]) (st_op rfl (want_n rfl)) y1 rfl rfl rfl (by decide) ok34 (vbody_calls _ _ z2.il _ _ _ _ _ _ (z2.g 0) (z2.z 0) (imm_box (i := 0) rfl) (z2.g 8)) ?_
           rintro y1 f3 ⟨n2, o3, i2, rfl, u2, b3, s2, q2⟩
           have f3 := z2.callM (i := 0) rfl u2 b3
           have b3 := z2.dM 0 f3 s2
           refine ⟨_, rfl, fun f3 s2 => ?_⟩
           have f3 := sWI b3 15 (pc 0 0 (pB 2 0 pn))
           refine ⟨f3, ?_⟩
           refine d1 7 ?_
           have f3 := b3.nf
           refine k_call (xs := [.tmp 105, .tmp 107]) (st_op rfl (want_n rfl)) s2 rfl rfl rfl (by decide) ok34 (vbody_calls _ _ f3.il _ _ _ _ _ _ (f3.g 0) (f3.z 0) (imm_box (i := 0) rfl) (f3.g 9)) ?_
           rintro s2 b3 ⟨z2, u2, y1, rfl, x2, n3, z1, d3⟩
           have b3 := f3.callM (i := 0) rfl x2 n3
           have n3 := f3.dM 0 b3 z1
           refine ⟨_, rfl, fun b3 z1 => ?_⟩
           have b3 := sWI n3 15 (pc 0 0 (pB 2 0 pn))
           refine ⟨b3, ?_⟩
           refine dt 8 rfl f2 z1 (want_n rfl) (fun x hx => m_build (ps := [(0, .tmp 104), (1, .tmp 108)]) (v := .agg #[.slice n2 i2.length o3, .slice z2 y1.length u2]) (sy z1) z1 rfl rfl rfl (fun _ => by kernel_rfl) (by decide) gt) b3 (fun f3 x2 => ?_)
           refine d1 10 ?_
           refine m_store (i := 5) (cs' := [.slice n2 i2.length o3, .slice z2 y1.length u2]) (st_op rfl (want_n rfl)) x2 n3 rfl rfl rfl rfl rfl sz66 rfl rfl rfl (fun f3 b3 z1 f2 => ?_)
           have b3 := sWI f2 15 (pc 0 0 (pB 2 0 pn))
           refine ⟨b3, ?_⟩
           refine wpAnyH_done (by kernel_rfl) (m2 _ _ ?_) _
           refine x_then_n (j3 _ _ ?_)
           refine wp_seq_k (fun j3 m2 => ?_)
           refine wsc (fun j3 b3 => ?_)
           refine mv z1 (fun j3 f3 => ?_)
           refine r_nilCheck sv f3 rfl rfl rfl (by decide) (fun j3 z1 => ?_)
           refine m_field (j' := 1) sv z1 rfl rfl rfl Tryd.underlying55 rfl sz26 rfl rfl (by decide) (fun j3 f3 => ?_)
           refine m_load (i := 0) sv f3 f2 rfl rfl rfl rfl rfl Tryd.underlying26 rfl (by decide) (fun j3 z1 => ?_)
           refine r_neq sv z1 rfl rfl rfl rfl (by decide) (fun j3 f3 => ?_)
           refine wpList_nil (x_then_n (b3 _ _ ?_))
           rcases Decidable.em (((if bodE (treeOf u1) = true then 2 else ((if bodE (treeOf u0) = true then 2 else ((brE ((nthC Ls (((Ls).length) - (1))).2.2.2))))))) = 0) with b3 | b3
           ·
            have hnm := no_max b3
            have j3 := f3.setb (d := 114) (b := false) rfl (by rw [(decide_eq_true b3)]; rfl)
            refine wp_cond_false (j3.ev rfl) ?_
            refine wp_skip ?_
            refine x_then_n (m2 _ _ ?_)
            refine wsc (fun m2 z1 => ?_)
            refine mv j3 (fun m2 x2 => ?_)
            refine m_loadN (i := 5) (vs := [.slice n2 i2.length o3, .slice z2 y1.length u2]) sv x2 f2 rfl rfl rfl rfl rfl Tryd.underlying66 rfl sz66 (by decide) (fun m2 j3 => ?_)
            have m2 := f2.data (dAllC [(((n2, o3, i2) : Sl), ((z2, u2, y1) : Sl))]) (allC_cons (f2.get (i := 16) rfl) (f2.get (i := 17) rfl) allC_nil)
            refine mbs [(0, .tmp 116)] [.slice n2 i2.length o3, .slice z2 y1.length u2] sv j3 m2 Tryd.underlying67 zi66 (fun x2 n3 s2 c3 h2 => ?_)
            refine m_appendF (f := encC) (i := 1) ((Ls).take (((Ls).length) - (1))) ([(((n2, o3, i2) : Sl), ((z2, u2, y1) : Sl))]) sv c3 h2 rfl rfl rfl rfl rfl encC_len (encC_one _) Tryd.underlying67 zi66 rfl rfl (own_lnews (f := encC) (h2.res (i := 6) rfl)) rfl (by first | omega | (simp only [List.length_cons, List.length_nil]; omega)) (by decide) (fun s2 n3 x2 m2 j3 v2 y2 => ?_)
            have j3 : (((Ls).take (((Ls).length) - (1))) ++ ([(((n2, o3, i2) : Sl), ((z2, u2, y1) : Sl))]) : List Cp).length = ((Ls).take (((Ls).length) - (1))).length + 1 := by first | (simp only [List.length_append, List.length_take, List.length_cons, List.length_nil]; done) | (simp only [List.length_append, List.length_take, List.length_cons, List.length_nil]; omega)
            have j3 := y2.erase 6
            have y2 := j3.data (dAllC (((Ls).take (((Ls).length) - (1))) ++ ([(((n2, o3, i2) : Sl), ((z2, u2, y1) : Sl))]))) (allC_append (j3.get (i := 7) rfl) (j3.get (i := 18) rfl))
            refine asg v2 (fun j3 n3 => ?_)
            refine wpList_nil (x_then_n (z1 _ _ ?_))
            refine wp_exit ?_
            refine x_block_e rfl ?_
            refine x_then_e ?_
            refine x_block_eq ?_
            have hnx : CInv (treeOf a) (treeOf b) (bn + 1) (((Ls).take (((Ls).length) - (1))) ++ ([(((n2, o3, i2) : Sl), ((z2, u2, y1) : Sl))])) ∧ wgt (((Ls).take (((Ls).length) - (1))) ++ ([(((n2, o3, i2) : Sl), ((z2, u2, y1) : Sl))])) < wgt Ls := hinv.lam f0 hcb z0 k1 (.inr x1) hnm q2 d3
            have d3 := y2.erase 5
            have y2 := d3.erase 4
            have d3 := y2.erase 3
            have y2 := d3.erase 2
            have d3 := y2.forget 18
            have y2 := d3.forget 17
            have d3 := y2.forget 16
            have y2 := d3.forget 15
            have d3 := y2.forget 14
            have y2 := d3.forget 13
            have d3 := y2.forget 12
            have y2 := d3.forget 11
            have d3 := y2.forget 10
            have y2 := d3.forget 9
            have d3 := y2.forget 8
            have y2 := d3.forget 7
            have d3 := y2.forget 6
            have y2 := d3.forget 5
            have d3 := y2.forget 4
            have y2 := (d3).nf
            refine ⟨wgt (((Ls).take (((Ls).length) - (1))) ++ ([(((n2, o3, i2) : Sl), ((z2, u2, y1) : Sl))])), by have := hnx.2; omega, ?_⟩
            refine ⟨((Ls).take (((Ls).length) - (1))) ++ ([(((n2, o3, i2) : Sl), ((z2, u2, y1) : Sl))]), ((if bodE (treeOf u1) = true then 2 else ((if bodE (treeOf u0) = true then 2 else ((brE ((nthC Ls (((Ls).length) - (1))).2.2.2))))))), x2, m2, ?_⟩
            exact ⟨(n3.sub (rc rfl (rc rfl (rc rfl rnl)))), y2, b3, hnx.1, rfl⟩
           ·
            have hfin := hinv.max f0 hcb z0 k1 (.inr x1) h0 b3
            have y2 := f3.setb (d := 114) (b := true) rfl (by rw [(decide_eq_false b3)]; rfl)
            refine wp_cond_true (y2.ev rfl) ?_
            refine wsc (fun b3 f3 => ?_)
            refine asg y2 (fun b3 n3 => ?_)
            refine wpList_nil (x_then_n (f3 _ _ ?_))
            refine wp_ret ?_
            refine x_then_r ?_
            refine x_block_r ?_
            refine x_then_r ?_
            refine x_block_r ?_
            refine x_then_r ?_
            refine x_block_r ?_
            refine x_then_r ?_
            refine x_scope_r ?_
            refine e_ret1 n3 rfl rfl rfl ?_
            refine ⟨?_, f2.fr, (by rw [show ((cv (treeOf a) (treeOf b)).1 : Int) = ((if bodE (treeOf u1) = true then 2 else ((if bodE (treeOf u0) = true then 2 else ((brE ((nthC Ls (((Ls).length) - (1))).2.2.2))))))) by (rw [hfin])]; exact f2.res (i := 0) rfl)⟩
            exact congrArg Ending.returned (ret_b (by rw [hfin]))
         ·
          have f2 := i3.setb (d := 92) (b := false) rfl (decide_eq_false x1)
          refine wp_cond_false (f2.ev rfl) ?_
          refine wsc (fun i3 n3 => ?_)
          refine m_field (j' := 0) sv f2 rfl rfl rfl Tryd.underlying32 rfl sz3 rfl rfl (by decide) (fun i3 f3 => ?_)
          refine m_load (i := 3) sv f3 v1 rfl rfl rfl rfl rfl Tryd.underlying3 rfl (by decide) (fun i3 f2 => ?_)
          refine r_eql sv f2 rfl rfl rfl rfl (by decide) (fun i3 f3 => ?_)
          refine mv f3 (fun i3 f2 => ?_)
          rcases Decidable.em ((((nth u0 (u0.length - 1)).K)) = 7) with i3 | i3
          ·
           obtain ⟨hfa0, hfa1, hfa2, hfa3, hfa4⟩ := fs_list hga1 i3 f1
           have f3 := f2.setb (d := 123) (b := true) rfl (decide_eq_true i3)
           refine sps f3 (wff f3) (fun b3 y2 => ?_)
           refine sps y2 (wff y2) (fun b3 f3 => ?_)
           refine sps f3 (wff f3) (fun b3 y2 => ?_)
           refine r_pick_t sv y2 rfl rfl rfl rfl (by decide) (fun b3 f3 => ?_)
           refine asg f3 (fun b3 y2 => ?_)
           refine wpList_nil (x_then_n (n3 _ _ ?_))
           refine wp_cond_true (y2.ev rfl) ?_
           refine wp_seq_k (fun b3 f3 => ?_)
           refine wsc (fun b3 m2 => ?_)
           refine m_field (j' := 0) sv y2 rfl rfl rfl Tryd.underlying32 rfl sz3 rfl rfl (by decide) (fun b3 x2 => ?_)
           refine m_load (i := 3) sv x2 v1 rfl rfl rfl rfl rfl Tryd.underlying3 rfl (by decide) (fun b3 y2 => ?_)
           refine r_neq sv y2 rfl rfl rfl rfl (by decide) (fun b3 x2 => ?_)
           refine wpList_nil (x_then_n (m2 _ _ ?_))
           have m2 := x2.setb (d := 130) (b := false) rfl (by rw [(decide_eq_true i3)]; rfl)
           refine wp_cond_false (m2.ev rfl) ?_
           refine wp_skip ?_
           refine x_then_n (f3 _ _ ?_)
           refine wp_seq_k (fun f3 x2 => ?_)
           refine wsc (fun f3 b3 => ?_)
           refine m_field (j' := 0) sv m2 rfl rfl rfl Tryd.underlying32 rfl sz3 rfl rfl (by decide) (fun f3 y2 => ?_)
           refine m_load (i := 4) sv y2 v1 rfl rfl rfl rfl rfl Tryd.underlying3 rfl (by decide) (fun f3 m2 => ?_)
           refine r_neq sv m2 rfl rfl rfl rfl (by decide) (fun f3 y2 => ?_)
           refine wpList_nil (x_then_n (b3 _ _ ?_))
           rcases Decidable.em ((((nth u1 (u1.length - 1)).K)) = 7) with b3 | b3
           ·
            obtain ⟨hfb0, hfb1, hfb2, hfb3, hfb4⟩ := fs_list hgb1 b3 j2
            have f3 := y2.setb (d := 142) (b := false) rfl (by rw [(decide_eq_true b3)]; rfl)
            refine wp_cond_false (f3.ev rfl) ?_
            refine wp_skip ?_
            refine x_then_n (x2 _ _ ?_)
            refine wp_seq_k (fun m2 y1 => ?_)
            obtain ⟨m2, u2, z2⟩ := v1.agree
            refine d_reg3 (n := 18) z2 15 pn (pan_then (pan_block (pan_then (pan_block (pan_then (pan_block (pan_then (pan_scope pan_body)))))))) (fun m2 i2 o3 n2 d3 q2 => ?_)
            refine dtM 0 i2 f3 q2 (fun n2 m2 => ?_)
            refine dtM 1 i2 m2 q2 (fun n2 f3 => ?_)
            refine dt 2 rfl i2 f3 (want_n rfl) (fun x hx => m_index (i := 2) (j := 2 * 1) (sy f3) f3 rfl rfl rfl rfl Tryd.underlying39 sz22 (by omega) (by omega) (ss_elem (t := b2) (k := 2) (sdat (u2 11 _ rfl) hx.ag).2 (by omega)).some_ rfl (by decide) gt) q2 (fun n2 m2 => ?_)
            refine dt 3 rfl i2 m2 (want_n rfl) (fun x hx => m_loadE (sy m2) m2 rfl rfl rfl 0 (2 * 1) (ss_elem (t := b2) (k := 2) (sdat (u2 11 _ rfl) hx.ag).2 (by omega)) rfl rfl Tryd.underlying22 rfl (by decide) gt) q2 (fun n2 f3 => ?_)
            have n2 := d3.data (dRow 4 ((nthS b2 2).1) ((nthS b2 2).2.2.length) ((nthS b2 2).2.1) (encNs ((nthS b2 2).2.2))) (all_at (t := b2) (k := 2) (d3.get (i := 12) rfl) (by omega))
            refine dtM 4 i2 f3 q2 (fun d3 m2 => ?_)
            refine dt 5 rfl i2 m2 (want_n rfl) (fun x hx => m_index (i := 2) (j := 2 * 1) (sy m2) m2 rfl rfl rfl rfl Tryd.underlying39 sz22 (by omega) (by omega) (ss_elem (t := c2) (k := 2) (sdat (u2 13 _ rfl) hx.ag).2 (by omega)).some_ rfl (by decide) gt) q2 (fun d3 f3 => ?_)
            refine dt 6 rfl i2 f3 (want_n rfl) (fun x hx => m_loadE (sy f3) f3 rfl rfl rfl 0 (2 * 1) (ss_elem (t := c2) (k := 2) (sdat (u2 13 _ rfl) hx.ag).2 (by omega)) rfl rfl Tryd.underlying22 rfl (by decide) gt) q2 (fun d3 m2 => ?_)
            have d3 := n2.data (dRow 4 ((nthS c2 2).1) ((nthS c2 2).2.2.length) ((nthS c2 2).2.1) (encNs ((nthS c2 2).2.2))) (all_at (t := c2) (k := 2) (n2.get (i := 14) rfl) (by omega))
            refine dt 7 rfl i2 m2 (want_n rfl) (fun x hx => m_build (ps := [(0, .tmp 155), (1, .tmp 158)]) (v := .agg #[.slice ((nthS b2 2).1) ((nthS b2 2).2.2.length) ((nthS b2 2).2.1), .slice ((nthS c2 2).1) ((nthS c2 2).2.2.length) ((nthS c2 2).2.1)]) (sy m2) m2 rfl rfl rfl (fun _ => by kernel_rfl) (by decide) gt) q2 (fun n2 f3 => ?_)
            refine dtM 8 i2 f3 q2 (fun n2 m2 => ?_)
            refine dt 9 rfl i2 m2 (want_n rfl) (fun x hx => m_index (i := 1) (j := 1 * 1) (sy m2) m2 rfl rfl rfl rfl Tryd.underlying39 sz22 (by omega) (by omega) (ss_elem (t := b2) (k := 1) (sdat (u2 11 _ rfl) hx.ag).2 (by omega)).some_ rfl (by decide) gt) q2 (fun n2 f3 => ?_)
            refine dt 10 rfl i2 f3 (want_n rfl) (fun x hx => m_loadE (sy f3) f3 rfl rfl rfl 0 (1 * 1) (ss_elem (t := b2) (k := 1) (sdat (u2 11 _ rfl) hx.ag).2 (by omega)) rfl rfl Tryd.underlying22 rfl (by decide) gt) q2 (fun n2 m2 => ?_)
            have n2 := d3.data (dRow 4 ((nthS b2 1).1) ((nthS b2 1).2.2.length) ((nthS b2 1).2.1) (encNs ((nthS b2 1).2.2))) (all_at (t := b2) (k := 1) (d3.get (i := 12) rfl) (by omega))
            refine dtM 11 i2 m2 q2 (fun d3 f3 => ?_)
            refine dt 12 rfl i2 f3 (want_n rfl) (fun x hx => m_index (i := 1) (j := 1 * 1) (sy f3) f3 rfl rfl rfl rfl Tryd.underlying39 sz22 (by omega) (by omega) (ss_elem (t := c2) (k := 1) (sdat (u2 13 _ rfl) hx.ag).2 (by omega)).some_ rfl (by decide) gt) q2 (fun d3 m2 => ?_)
            refine dt 13 rfl i2 m2 (want_n rfl) (fun x hx => m_loadE (sy m2) m2 rfl rfl rfl 0 (1 * 1) (ss_elem (t := c2) (k := 1) (sdat (u2 13 _ rfl) hx.ag).2 (by omega)) rfl rfl Tryd.underlying22 rfl (by decide) gt) q2 (fun d3 f3 => ?_)
            have d3 := n2.data (dRow 4 ((nthS c2 1).1) ((nthS c2 1).2.2.length) ((nthS c2 1).2.1) (encNs ((nthS c2 1).2.2))) (all_at (t := c2) (k := 1) (n2.get (i := 14) rfl) (by omega))
            refine dt 14 rfl i2 f3 (want_n rfl) (fun x hx => m_build (ps := [(0, .tmp 162), (1, .tmp 165)]) (v := .agg #[.slice ((nthS b2 1).1) ((nthS b2 1).2.2.length) ((nthS b2 1).2.1), .slice ((nthS c2 1).1) ((nthS c2 1).2.2.length) ((nthS c2 1).2.1)]) (sy f3) f3 rfl rfl rfl (fun _ => by kernel_rfl) (by decide) gt) q2 (fun n2 m2 => ?_)
            refine d1 15 ?_
            have n2 := d3.data (dAllC [((((nthS b2 2).1, (nthS b2 2).2.1, (nthS b2 2).2.2) : Sl), (((nthS c2 2).1, (nthS c2 2).2.1, (nthS c2 2).2.2) : Sl)), ((((nthS b2 1).1, (nthS b2 1).2.1, (nthS b2 1).2.2) : Sl), (((nthS c2 1).1, (nthS c2 1).2.1, (nthS c2 1).2.2) : Sl))]) (allC_cons (d3.get (i := 16) rfl) (d3.get (i := 17) rfl) (allC_cons (d3.get (i := 18) rfl) (d3.get (i := 19) rfl) allC_nil))
            refine mbs [(0, .tmp 159), (1, .tmp 166)] [.slice ((nthS b2 2).1) ((nthS b2 2).2.2.length) ((nthS b2 2).2.1), .slice ((nthS c2 2).1) ((nthS c2 2).2.2.length) ((nthS c2 2).2.1), .slice ((nthS b2 1).1) ((nthS b2 1).2.2.length) ((nthS b2 1).2.1), .slice ((nthS c2 1).1) ((nthS c2 1).2.2.length) ((nthS c2 1).2.1)] (st_opV rfl (want_n rfl)) m2 n2 Tryd.underlying67 zi66 (fun d3 f3 q2 u2 z2 => ?_)
            have q2 := sWI z2 15 pn
            refine ⟨q2, ?_⟩
            refine d1 16 ?_
            refine m_appendF (f := encC) (i := 1) ((Ls).take (((Ls).length) - (1))) ([((((nthS b2 2).1, (nthS b2 2).2.1, (nthS b2 2).2.2) : Sl), (((nthS c2 2).1, (nthS c2 2).2.1, (nthS c2 2).2.2) : Sl)), ((((nthS b2 1).1, (nthS b2 1).2.1, (nthS b2 1).2.2) : Sl), (((nthS c2 1).1, (nthS c2 1).2.1, (nthS c2 1).2.2) : Sl))]) (st_opV rfl (want_n rfl)) u2 z2 rfl rfl rfl rfl rfl encC_len (encC_one _) Tryd.underlying67 zi66 rfl rfl (own_lnews (f := encC) (z2.res (i := 5) rfl)) rfl (by first | omega | (simp only [List.length_cons, List.length_nil]; omega)) (by decide) (fun q2 f3 d3 n2 m2 z1 j3 => ?_)
            have m2 : (((Ls).take (((Ls).length) - (1))) ++ ([((((nthS b2 2).1, (nthS b2 2).2.1, (nthS b2 2).2.2) : Sl), (((nthS c2 2).1, (nthS c2 2).2.1, (nthS c2 2).2.2) : Sl)), ((((nthS b2 1).1, (nthS b2 1).2.1, (nthS b2 1).2.2) : Sl), (((nthS c2 1).1, (nthS c2 1).2.1, (nthS c2 1).2.2) : Sl))]) : List Cp).length = ((Ls).take (((Ls).length) - (1))).length + 2 := by first | (simp only [List.length_append, List.length_take, List.length_cons, List.length_nil]; done) | (simp only [List.length_append, List.length_take, List.length_cons, List.length_nil]; omega)
            have m2 := j3.erase 5
            have j3 := m2.data (dAllC (((Ls).take (((Ls).length) - (1))) ++ ([((((nthS b2 2).1, (nthS b2 2).2.1, (nthS b2 2).2.2) : Sl), (((nthS c2 2).1, (nthS c2 2).2.1, (nthS c2 2).2.2) : Sl)), ((((nthS b2 1).1, (nthS b2 1).2.1, (nthS b2 1).2.2) : Sl), (((nthS c2 1).1, (nthS c2 1).2.1, (nthS c2 1).2.2) : Sl))]))) (allC_append (m2.get (i := 7) rfl) (m2.get (i := 20) rfl))
            have m2 := sWI j3 15 pn
            refine ⟨m2, ?_⟩
            refine dtA 17 i2 z1 m2 (fun f3 q2 => ?_)
            refine wpAnyH_done (by kernel_rfl) (o3 _ _ ?_) _
            refine x_then_n (y1 _ _ ?_)
            refine wp_exit ?_
            refine x_block_e rfl ?_
            refine x_then_e ?_
            refine x_block_eq ?_
            have hnx : CInv (treeOf a) (treeOf b) (bn + 1) (((Ls).take (((Ls).length) - (1))) ++ ([((((nthS b2 2).1, (nthS b2 2).2.1, (nthS b2 2).2.2) : Sl), (((nthS c2 2).1, (nthS c2 2).2.1, (nthS c2 2).2.2) : Sl)), ((((nthS b2 1).1, (nthS b2 1).2.1, (nthS b2 1).2.2) : Sl), (((nthS c2 1).1, (nthS c2 1).2.1, (nthS c2 1).2.2) : Sl))])) ∧ wgt (((Ls).take (((Ls).length) - (1))) ++ ([((((nthS b2 2).1, (nthS b2 2).2.1, (nthS b2 2).2.2) : Sl), (((nthS c2 2).1, (nthS c2 2).2.1, (nthS c2 2).2.2) : Sl)), ((((nthS b2 1).1, (nthS b2 1).2.1, (nthS b2 1).2.2) : Sl), (((nthS c2 1).1, (nthS c2 1).2.1, (nthS c2 1).2.2) : Sl))])) < wgt Ls := hinv.pair f0 hcb z0 k1 d0 x1 (.inl i3) ⟨hfa2, hfa4⟩ ⟨hfb2, hfb4⟩ ⟨hfa1, hfa3⟩ ⟨hfb1, hfb3⟩
            have y1 := j3.erase 4
            have j3 := y1.erase 3
            have y1 := j3.erase 2
            have j3 := y1.forget 20
            have y1 := j3.forget 19
            have j3 := y1.forget 18
            have y1 := j3.forget 17
            have j3 := y1.forget 16
            have y1 := j3.forget 15
            have j3 := y1.forget 14
            have y1 := j3.forget 13
            have j3 := y1.forget 12
            have y1 := j3.forget 11
            have j3 := y1.forget 10
            have y1 := j3.forget 9
            have j3 := y1.forget 8
            have y1 := j3.forget 7
            have j3 := y1.forget 6
            have y1 := j3.forget 5
            have j3 := y1.forget 4
            have y1 := (j3).nf
            refine ⟨wgt (((Ls).take (((Ls).length) - (1))) ++ ([((((nthS b2 2).1, (nthS b2 2).2.1, (nthS b2 2).2.2) : Sl), (((nthS c2 2).1, (nthS c2 2).2.1, (nthS c2 2).2.2) : Sl)), ((((nthS b2 1).1, (nthS b2 1).2.1, (nthS b2 1).2.2) : Sl), (((nthS c2 1).1, (nthS c2 1).2.1, (nthS c2 1).2.2) : Sl))])), by have := hnx.2; omega, ?_⟩
            refine ⟨((Ls).take (((Ls).length) - (1))) ++ ([((((nthS b2 2).1, (nthS b2 2).2.1, (nthS b2 2).2.2) : Sl), (((nthS c2 2).1, (nthS c2 2).2.1, (nthS c2 2).2.2) : Sl)), ((((nthS b2 1).1, (nthS b2 1).2.1, (nthS b2 1).2.2) : Sl), (((nthS c2 1).1, (nthS c2 1).2.1, (nthS c2 1).2.2) : Sl))]), ((brE ((nthC Ls (((Ls).length) - (1))).2.2.2))), d3, n2, ?_⟩
            exact ⟨(q2.sub (rc rfl (rc rfl (rc rfl rnl)))), y1, h0, hnx.1, rfl⟩
           ·
            have y1 := y2.setb (d := 142) (b := true) rfl (by rw [(decide_eq_false b3)]; rfl)
            refine wp_cond_true (y1.ev rfl) ?_
            obtain ⟨y2, q2, n2⟩ := v1.agree
            refine d_reg3 (n := 10) n2 15 (pB 2 0 pn) (pan_then (pan_block (pan_then (pan_block (pan_then (pan_block (pan_then (pan_scope pan_body)))))))) (fun q2 y2 d3 j3 o3 f3 => ?_)
            refine dtF 0 1 y2 y1 f3 Tryd.underlying66 sz22 (fun j3 q2 => ?_)
            refine dtC 1 1 y2 q2 f3 Tryd.underlying22 (fun j3 y1 => ?_)
            refine dtF 4 1 y2 y1 f3 Tryd.underlying66 sz22 (fun j3 q2 => ?_)
            refine dtC 5 1 y2 q2 f3 Tryd.underlying22 (fun j3 y1 => ?_)
            refine wpAnyH_all (rs := [2, 6]) (by kernel_rfl) (by simp) ?_
            rintro i j3
            simp only [List.mem_cons, List.not_mem_nil, or_false] at j3
            rcases j3 with rfl | rfl
            ·
             have j3 := o3.data (dAll [((t1, p1, u1) : Sl)]) (all_cons (o3.get (i := 9) rfl) all_nil)
             refine mbs [(0, .tmp 144)] [.slice t1 u1.length p1] (st_opV rfl (want_n rfl)) y1 j3 Tryd.underlying39 zi22 (fun q2 f3 n2 m2 z1 => ?_)
             have f3 := sWI z1 15 (pB 2 0 pn)
             refine ⟨f3, ?_⟩
             refine wpAnyH_all (rs := [3, 6]) (by kernel_rfl) (by simp) ?_
             rintro i f3
             simp only [List.mem_cons, List.not_mem_nil, or_false] at f3
             rcases f3 with rfl | rfl
             ·
              have f3 := z1.nf
              have q2 := own_cap (f3.res (i := 5) rfl)
              obtain ⟨j3, i2⟩ := f3.row_dataM (i := 5) rfl (j := 0) rfl (by decide)
              have f3 := j3.data (dRow 1 (some ⟨n2, 0, none⟩) 1 1 (encSs ([((t1, p1, u1) : Sl)]))) ⟨q2, i2⟩
              refine k_call (xs := [.const (.int .i64 8), .tmp 145]) (st_op rfl (want_n rfl)) m2 rfl rfl rfl (by decide) ok35 (vwith_calls _ _ f3.il 8 _ _ ([((t1, p1, u1) : Sl)]) (f3.g 17) (f3.g 16) (hl := (by simp)) (hb := (by simp [lsts]; omega))) ?_
              rintro i2 j3 ⟨q2, z2, u2, rfl, v2, s2, h2⟩
              have j3 := f3.below v2.below
              have v2 := f3.dN j3 s2
              refine ⟨_, rfl, fun j3 s2 => ?_⟩
              have hwb8 : u2 = u1 ++ [cN 8] := by rw [h2]; simp [lsts]
              have h2 := sWI v2 15 (pB 2 0 pn)
              refine ⟨h2, ?_⟩
              refine d1 6 ?_
              have h2 := v2.data (dAll [((t1, p1, u1) : Sl)]) (all_cons (v2.get (i := 9) rfl) all_nil)
              refine mbs [(0, .tmp 148)] [.slice t1 u1.length p1] (st_opV rfl (want_n rfl)) s2 h2 Tryd.underlying39 zi22 (fun v2 j3 f3 i2 c3 => ?_)
              have j3 := sWI c3 15 (pB 2 0 pn)
              refine ⟨j3, ?_⟩
              refine d1 7 ?_
              have j3 := c3.nf
              have c3 := own_cap (j3.res (i := 5) rfl)
              obtain ⟨v2, h2⟩ := j3.row_dataM (i := 5) rfl (j := 0) rfl (by decide)
              have j3 := v2.data (dRow 1 (some ⟨f3, 0, none⟩) 1 1 (encSs ([((t1, p1, u1) : Sl)]))) ⟨c3, h2⟩
              refine k_call (xs := [.const (.int .i64 9), .tmp 149]) (st_op rfl (want_n rfl)) i2 rfl rfl rfl (by decide) ok35 (vwith_calls _ _ j3.il 9 _ _ ([((t1, p1, u1) : Sl)]) (j3.g 20) (j3.g 19) (hl := (by simp)) (hb := (by simp [lsts]; omega))) ?_
              rintro i2 h2 ⟨v2, c3, f3, rfl, s2, k3, m3⟩
              have h2 := j3.below s2.below
              have s2 := j3.dN h2 k3
              refine ⟨_, rfl, fun h2 k3 => ?_⟩
              have hwb9 : f3 = u1 ++ [cN 9] := by rw [m3]; simp [lsts]
              obtain ⟨hfb1, hfb2, hfb3, hfb4⟩ := fs_made hgb1 b3 hwb8 hwb9
              have m3 := sWI s2 15 (pB 2 0 pn)
              refine ⟨m3, ?_⟩
              refine d1 8 ?_
              have m3 := s2.data (dAll [((none, 0, []) : Sl), ((q2, z2, u2) : Sl), ((v2, c3, f3) : Sl)]) (all_cons ⟨Nat.le_refl _, RowI.nil _ _ _ _⟩ (all_cons (s2.get (i := 18) rfl) (all_cons (s2.get (i := 21) rfl) all_nil)))
              refine mbs [(0, .const (.slice none 0 0)), (1, .tmp 146), (2, .tmp 150)] [.slice none 0 0, .slice q2 u2.length z2, .slice v2 f3.length c3] (st_opV rfl (want_n rfl)) k3 m3 Tryd.underlying39 zi22 (fun s2 h2 j3 i2 k2 => ?_)
              have h2 := sWI k2 15 (pB 2 0 pn)
              refine ⟨h2, ?_⟩
              refine dtA 9 y2 i2 h2 (fun s2 m3 => ?_)
              refine wpAnyH_done (by kernel_rfl) (d3 _ _ ?_) _
              have s2 := own_cap (k2.res (i := 5) rfl)
              obtain ⟨h2, i2⟩ := k2.row_dataM (i := 5) rfl (j := 0) rfl (by decide)
              have k2 := h2.data (dRow 1 (some ⟨j3, 0, none⟩) 3 3 (encSs ([((none, 0, []) : Sl), ((q2, z2, u2) : Sl), ((v2, c3, f3) : Sl)]))) ⟨s2, i2⟩
              refine x_then_n (x2 _ _ ?_)
              refine wp_seq_k (fun i2 h2 => ?_)
              obtain ⟨i2, s2, j3⟩ := k2.agree
              refine d_reg3 (n := 18) j3 24 pn (pan_then (pan_block (pan_then (pan_block (pan_then (pan_block (pan_then (pan_scope pan_body)))))))) (fun i2 k2 k3 h3 o2 p2 => ?_)
              refine dtM 0 k2 m3 p2 (fun h3 i2 => ?_)
              refine dtM 1 k2 i2 p2 (fun h3 m3 => ?_)
              refine dt 2 rfl k2 m3 (want_n rfl) (fun x hx => m_index (i := 2) (j := 2 * 1) (sy m3) m3 rfl rfl rfl rfl Tryd.underlying39 sz22 (by omega) (by omega) (ss_elem (t := b2) (k := 2) (sdat (s2 11 _ rfl) hx.ag).2 (by omega)).some_ rfl (by decide) gt) p2 (fun h3 i2 => ?_)
              refine dt 3 rfl k2 i2 (want_n rfl) (fun x hx => m_loadE (sy i2) i2 rfl rfl rfl 0 (2 * 1) (ss_elem (t := b2) (k := 2) (sdat (s2 11 _ rfl) hx.ag).2 (by omega)) rfl rfl Tryd.underlying22 rfl (by decide) gt) p2 (fun h3 m3 => ?_)
              have h3 := o2.data (dRow 4 ((nthS b2 2).1) ((nthS b2 2).2.2.length) ((nthS b2 2).2.1) (encNs ((nthS b2 2).2.2))) (all_at (t := b2) (k := 2) (o2.get (i := 12) rfl) (by omega))
              refine dtM 4 k2 m3 p2 (fun o2 i2 => ?_)
              refine dt 5 rfl k2 i2 (want_n rfl) (fun x hx => m_index (i := 2) (j := 2 * 1) (sy i2) i2 rfl rfl rfl rfl Tryd.underlying39 sz22 (by omega) (by simp) (ss_elem (t := [((none, 0, []) : Sl), ((q2, z2, u2) : Sl), ((v2, c3, f3) : Sl)]) (k := 2) (sdat (s2 23 _ rfl) hx.ag).2 (by simp)).some_ rfl (by decide) gt) p2 (fun o2 m3 => ?_)
              refine dt 6 rfl k2 m3 (want_n rfl) (fun x hx => m_loadE (sy m3) m3 rfl rfl rfl 0 (2 * 1) (ss_elem (t := [((none, 0, []) : Sl), ((q2, z2, u2) : Sl), ((v2, c3, f3) : Sl)]) (k := 2) (sdat (s2 23 _ rfl) hx.ag).2 (by simp)) rfl rfl Tryd.underlying22 rfl (by decide) gt) p2 (fun o2 i2 => ?_)
              refine dt 7 rfl k2 i2 (want_n rfl) (fun x hx => m_build (ps := [(0, .tmp 155), (1, .tmp 158)]) (v := .agg #[.slice ((nthS b2 2).1) ((nthS b2 2).2.2.length) ((nthS b2 2).2.1), .slice v2 f3.length c3]) (sy i2) i2 rfl rfl rfl (fun _ => by kernel_rfl) (by decide) gt) p2 (fun o2 m3 => ?_)
              refine dtM 8 k2 m3 p2 (fun o2 i2 => ?_)
              refine dt 9 rfl k2 i2 (want_n rfl) (fun x hx => m_index (i := 1) (j := 1 * 1) (sy i2) i2 rfl rfl rfl rfl Tryd.underlying39 sz22 (by omega) (by omega) (ss_elem (t := b2) (k := 1) (sdat (s2 11 _ rfl) hx.ag).2 (by omega)).some_ rfl (by decide) gt) p2 (fun o2 m3 => ?_)
              refine dt 10 rfl k2 m3 (want_n rfl) (fun x hx => m_loadE (sy m3) m3 rfl rfl rfl 0 (1 * 1) (ss_elem (t := b2) (k := 1) (sdat (s2 11 _ rfl) hx.ag).2 (by omega)) rfl rfl Tryd.underlying22 rfl (by decide) gt) p2 (fun o2 i2 => ?_)
              have o2 := h3.data (dRow 4 ((nthS b2 1).1) ((nthS b2 1).2.2.length) ((nthS b2 1).2.1) (encNs ((nthS b2 1).2.2))) (all_at (t := b2) (k := 1) (h3.get (i := 12) rfl) (by omega))
              refine dtM 11 k2 i2 p2 (fun h3 m3 => ?_)
              refine dt 12 rfl k2 m3 (want_n rfl) (fun x hx => m_index (i := 1) (j := 1 * 1) (sy m3) m3 rfl rfl rfl rfl Tryd.underlying39 sz22 (by omega) (by simp) (ss_elem (t := [((none, 0, []) : Sl), ((q2, z2, u2) : Sl), ((v2, c3, f3) : Sl)]) (k := 1) (sdat (s2 23 _ rfl) hx.ag).2 (by simp)).some_ rfl (by decide) gt) p2 (fun h3 i2 => ?_)
              refine dt 13 rfl k2 i2 (want_n rfl) (fun x hx => m_loadE (sy i2) i2 rfl rfl rfl 0 (1 * 1) (ss_elem (t := [((none, 0, []) : Sl), ((q2, z2, u2) : Sl), ((v2, c3, f3) : Sl)]) (k := 1) (sdat (s2 23 _ rfl) hx.ag).2 (by simp)) rfl rfl Tryd.underlying22 rfl (by decide) gt) p2 (fun h3 m3 => ?_)
              refine dt 14 rfl k2 m3 (want_n rfl) (fun x hx => m_build (ps := [(0, .tmp 162), (1, .tmp 165)]) (v := .agg #[.slice ((nthS b2 1).1) ((nthS b2 1).2.2.length) ((nthS b2 1).2.1), .slice q2 u2.length z2]) (sy m3) m3 rfl rfl rfl (fun _ => by kernel_rfl) (by decide) gt) p2 (fun h3 i2 => ?_)
              refine d1 15 ?_
              have h3 := o2.data (dAllC [((((nthS b2 2).1, (nthS b2 2).2.1, (nthS b2 2).2.2) : Sl), ((v2, c3, f3) : Sl)), ((((nthS b2 1).1, (nthS b2 1).2.1, (nthS b2 1).2.2) : Sl), ((q2, z2, u2) : Sl))]) (allC_cons (o2.get (i := 25) rfl) (o2.get (i := 21) rfl) (allC_cons (o2.get (i := 26) rfl) (o2.get (i := 18) rfl) allC_nil))
              refine mbs [(0, .tmp 159), (1, .tmp 166)] [.slice ((nthS b2 2).1) ((nthS b2 2).2.2.length) ((nthS b2 2).2.1), .slice v2 f3.length c3, .slice ((nthS b2 1).1) ((nthS b2 1).2.2.length) ((nthS b2 1).2.1), .slice q2 u2.length z2] (st_opV rfl (want_n rfl)) i2 h3 Tryd.underlying67 zi66 (fun o2 m3 p2 s2 j3 => ?_)
              have p2 := sWI j3 24 pn
              refine ⟨p2, ?_⟩
              refine d1 16 ?_
              refine m_appendF (f := encC) (i := 1) ((Ls).take (((Ls).length) - (1))) ([((((nthS b2 2).1, (nthS b2 2).2.1, (nthS b2 2).2.2) : Sl), ((v2, c3, f3) : Sl)), ((((nthS b2 1).1, (nthS b2 1).2.1, (nthS b2 1).2.2) : Sl), ((q2, z2, u2) : Sl))]) (st_opV rfl (want_n rfl)) s2 j3 rfl rfl rfl rfl rfl encC_len (encC_one _) Tryd.underlying67 zi66 rfl rfl (own_lnews (f := encC) (j3.res (i := 5) rfl)) rfl (by first | omega | (simp only [List.length_cons, List.length_nil]; omega)) (by decide) (fun p2 m3 o2 h3 i2 t2 p3 => ?_)
              have i2 : (((Ls).take (((Ls).length) - (1))) ++ ([((((nthS b2 2).1, (nthS b2 2).2.1, (nthS b2 2).2.2) : Sl), ((v2, c3, f3) : Sl)), ((((nthS b2 1).1, (nthS b2 1).2.1, (nthS b2 1).2.2) : Sl), ((q2, z2, u2) : Sl))]) : List Cp).length = ((Ls).take (((Ls).length) - (1))).length + 2 := by first | (simp only [List.length_append, List.length_take, List.length_cons, List.length_nil]; done) | (simp only [List.length_append, List.length_take, List.length_cons, List.length_nil]; omega)
              have i2 := p3.erase 5
              have p3 := i2.data (dAllC (((Ls).take (((Ls).length) - (1))) ++ ([((((nthS b2 2).1, (nthS b2 2).2.1, (nthS b2 2).2.2) : Sl), ((v2, c3, f3) : Sl)), ((((nthS b2 1).1, (nthS b2 1).2.1, (nthS b2 1).2.2) : Sl), ((q2, z2, u2) : Sl))]))) (allC_append (i2.get (i := 7) rfl) (i2.get (i := 27) rfl))
              have i2 := sWI p3 24 pn
              refine ⟨i2, ?_⟩
              refine dtA 17 k2 t2 i2 (fun m3 p2 => ?_)
              refine wpAnyH_done (by kernel_rfl) (k3 _ _ ?_) _
              refine x_then_n (h2 _ _ ?_)
              refine wp_exit ?_
              refine x_block_e rfl ?_
              refine x_then_e ?_
              refine x_block_eq ?_
              have hnx : CInv (treeOf a) (treeOf b) (bn + 1) (((Ls).take (((Ls).length) - (1))) ++ ([((((nthS b2 2).1, (nthS b2 2).2.1, (nthS b2 2).2.2) : Sl), ((v2, c3, f3) : Sl)), ((((nthS b2 1).1, (nthS b2 1).2.1, (nthS b2 1).2.2) : Sl), ((q2, z2, u2) : Sl))])) ∧ wgt (((Ls).take (((Ls).length) - (1))) ++ ([((((nthS b2 2).1, (nthS b2 2).2.1, (nthS b2 2).2.2) : Sl), ((v2, c3, f3) : Sl)), ((((nthS b2 1).1, (nthS b2 1).2.1, (nthS b2 1).2.2) : Sl), ((q2, z2, u2) : Sl))])) < wgt Ls := hinv.pair f0 hcb z0 k1 d0 x1 (.inl i3) ⟨hfa2, hfa4⟩ ⟨hfb2, hfb4⟩ ⟨hfa1, hfa3⟩ ⟨hfb1, hfb3⟩
              have h2 := p3.erase 4
              have p3 := h2.erase 3
              have h2 := p3.erase 2
              have p3 := h2.forget 27
              have h2 := p3.forget 26
              have p3 := h2.forget 25
              have h2 := p3.forget 24
              have p3 := h2.forget 23
              have h2 := p3.forget 22
              have p3 := h2.forget 21
              have h2 := p3.forget 20
              have p3 := h2.forget 19
              have h2 := p3.forget 18
              have p3 := h2.forget 17
              have h2 := p3.forget 16
              have p3 := h2.forget 15
              have h2 := p3.forget 14
              have p3 := h2.forget 13
              have h2 := p3.forget 12
              have p3 := h2.forget 11
              have h2 := p3.forget 10
              have p3 := h2.forget 9
              have h2 := p3.forget 8
              have p3 := h2.forget 7
              have h2 := p3.forget 6
              have p3 := h2.forget 5
              have h2 := p3.forget 4
              have p3 := (h2).nf
              refine ⟨wgt (((Ls).take (((Ls).length) - (1))) ++ ([((((nthS b2 2).1, (nthS b2 2).2.1, (nthS b2 2).2.2) : Sl), ((v2, c3, f3) : Sl)), ((((nthS b2 1).1, (nthS b2 1).2.1, (nthS b2 1).2.2) : Sl), ((q2, z2, u2) : Sl))])), by have := hnx.2; omega, ?_⟩
              refine ⟨((Ls).take (((Ls).length) - (1))) ++ ([((((nthS b2 2).1, (nthS b2 2).2.1, (nthS b2 2).2.2) : Sl), ((v2, c3, f3) : Sl)), ((((nthS b2 1).1, (nthS b2 1).2.1, (nthS b2 1).2.2) : Sl), ((q2, z2, u2) : Sl))]), ((brE ((nthC Ls (((Ls).length) - (1))).2.2.2))), o2, h3, ?_⟩
              exact ⟨(p2.sub (rc rfl (rc rfl (rc rfl rnl)))), p3, h0, hnx.1, rfl⟩
             ·
              have p3 := z1.data (dAll [((t1, p1, u1) : Sl)]) (all_cons (z1.get (i := 9) rfl) all_nil)
              refine mbs [(0, .tmp 148)] [.slice t1 u1.length p1] (st_opV rfl (want_n rfl)) m2 p3 Tryd.underlying39 zi22 (fun z1 p2 h3 o2 f3 => ?_)
              have p2 := sWI f3 15 (pB 2 0 pn)
              refine ⟨p2, ?_⟩
              refine d1 3 ?_
              have p2 := f3.nf
              have f3 := own_cap (p2.res (i := 5) rfl)
              obtain ⟨z1, p3⟩ := p2.row_dataM (i := 5) rfl (j := 0) rfl (by decide)
              have p2 := z1.data (dRow 1 (some ⟨n2, 0, none⟩) 1 1 (encSs ([((t1, p1, u1) : Sl)]))) ⟨f3, p3⟩
              refine k_call (xs := [.const (.int .i64 8), .tmp 145]) (st_op rfl (want_n rfl)) o2 rfl rfl rfl (by decide) ok35 (vwith_calls _ _ p2.il 8 _ _ ([((t1, p1, u1) : Sl)]) (p2.g 18) (p2.g 16) (hl := (by simp)) (hb := (by simp [lsts]; omega))) ?_
              rintro o2 p3 ⟨z1, f3, n2, rfl, m2, c3, v2⟩
              have p3 := p2.below m2.below
              have m2 := p2.dN p3 c3
              refine ⟨_, rfl, fun p3 c3 => ?_⟩
              have hwb8 : n2 = u1 ++ [cN 8] := by rw [v2]; simp [lsts]
              have v2 := sWI m2 15 (pB 2 0 pn)
              refine ⟨v2, ?_⟩
              refine d1 7 ?_
              have v2 := m2.nf
              have m2 := own_cap (v2.res (i := 5) rfl)
              obtain ⟨p3, p2⟩ := v2.row_dataM (i := 5) rfl (j := 0) rfl (by decide)
              have v2 := p3.data (dRow 1 (some ⟨h3, 0, none⟩) 1 1 (encSs ([((t1, p1, u1) : Sl)]))) ⟨m2, p2⟩
              refine k_call (xs := [.const (.int .i64 9), .tmp 149]) (st_op rfl (want_n rfl)) c3 rfl rfl rfl (by decide) ok35 (vwith_calls _ _ v2.il 9 _ _ ([((t1, p1, u1) : Sl)]) (v2.g 20) (v2.g 17) (hl := (by simp)) (hb := (by simp [lsts]; omega))) ?_
              rintro c3 p2 ⟨p3, m2, h3, rfl, o2, u2, z2⟩
              have p2 := v2.below o2.below
              have o2 := v2.dN p2 u2
              refine ⟨_, rfl, fun p2 u2 => ?_⟩
              have hwb9 : h3 = u1 ++ [cN 9] := by rw [z2]; simp [lsts]
              obtain ⟨hfb1, hfb2, hfb3, hfb4⟩ := fs_made hgb1 b3 hwb8 hwb9
              have z2 := sWI o2 15 (pB 2 0 pn)
              refine ⟨z2, ?_⟩
              refine d1 8 ?_
              have z2 := o2.data (dAll [((none, 0, []) : Sl), ((z1, f3, n2) : Sl), ((p3, m2, h3) : Sl)]) (all_cons ⟨Nat.le_refl _, RowI.nil _ _ _ _⟩ (all_cons (o2.get (i := 19) rfl) (all_cons (o2.get (i := 21) rfl) all_nil)))
              refine mbs [(0, .const (.slice none 0 0)), (1, .tmp 146), (2, .tmp 150)] [.slice none 0 0, .slice z1 n2.length f3, .slice p3 h3.length m2] (st_opV rfl (want_n rfl)) u2 z2 Tryd.underlying39 zi22 (fun o2 p2 v2 c3 q2 => ?_)
              have p2 := sWI q2 15 (pB 2 0 pn)
              refine ⟨p2, ?_⟩
              refine dtA 9 y2 c3 p2 (fun o2 z2 => ?_)
              refine wpAnyH_done (by kernel_rfl) (d3 _ _ ?_) _
              have o2 := own_cap (q2.res (i := 5) rfl)
              obtain ⟨p2, c3⟩ := q2.row_dataM (i := 5) rfl (j := 0) rfl (by decide)
              have q2 := p2.data (dRow 1 (some ⟨v2, 0, none⟩) 3 3 (encSs ([((none, 0, []) : Sl), ((z1, f3, n2) : Sl), ((p3, m2, h3) : Sl)]))) ⟨o2, c3⟩
              refine x_then_n (x2 _ _ ?_)
              refine wp_seq_k (fun c3 p2 => ?_)
              obtain ⟨c3, o2, v2⟩ := q2.agree
              refine d_reg3 (n := 18) v2 24 pn (pan_then (pan_block (pan_then (pan_block (pan_then (pan_block (pan_then (pan_scope pan_body)))))))) (fun c3 q2 u2 h2 k3 m3 => ?_)
              refine dtM 0 q2 z2 m3 (fun h2 c3 => ?_)
              refine dtM 1 q2 c3 m3 (fun h2 z2 => ?_)
              refine dt 2 rfl q2 z2 (want_n rfl) (fun x hx => m_index (i := 2) (j := 2 * 1) (sy z2) z2 rfl rfl rfl rfl Tryd.underlying39 sz22 (by omega) (by omega) (ss_elem (t := b2) (k := 2) (sdat (o2 11 _ rfl) hx.ag).2 (by omega)).some_ rfl (by decide) gt) m3 (fun h2 c3 => ?_)
              refine dt 3 rfl q2 c3 (want_n rfl) (fun x hx => m_loadE (sy c3) c3 rfl rfl rfl 0 (2 * 1) (ss_elem (t := b2) (k := 2) (sdat (o2 11 _ rfl) hx.ag).2 (by omega)) rfl rfl Tryd.underlying22 rfl (by decide) gt) m3 (fun h2 z2 => ?_)
              have h2 := k3.data (dRow 4 ((nthS b2 2).1) ((nthS b2 2).2.2.length) ((nthS b2 2).2.1) (encNs ((nthS b2 2).2.2))) (all_at (t := b2) (k := 2) (k3.get (i := 12) rfl) (by omega))
              refine dtM 4 q2 z2 m3 (fun k3 c3 => ?_)
              refine dt 5 rfl q2 c3 (want_n rfl) (fun x hx => m_index (i := 2) (j := 2 * 1) (sy c3) c3 rfl rfl rfl rfl Tryd.underlying39 sz22 (by omega) (by simp) (ss_elem (t := [((none, 0, []) : Sl), ((z1, f3, n2) : Sl), ((p3, m2, h3) : Sl)]) (k := 2) (sdat (o2 23 _ rfl) hx.ag).2 (by simp)).some_ rfl (by decide) gt) m3 (fun k3 z2 => ?_)
              refine dt 6 rfl q2 z2 (want_n rfl) (fun x hx => m_loadE (sy z2) z2 rfl rfl rfl 0 (2 * 1) (ss_elem (t := [((none, 0, []) : Sl), ((z1, f3, n2) : Sl), ((p3, m2, h3) : Sl)]) (k := 2) (sdat (o2 23 _ rfl) hx.ag).2 (by simp)) rfl rfl Tryd.underlying22 rfl (by decide) gt) m3 (fun k3 c3 => ?_)
              refine dt 7 rfl q2 c3 (want_n rfl) (fun x hx => m_build (ps := [(0, .tmp 155), (1, .tmp 158)]) (v := .agg #[.slice ((nthS b2 2).1) ((nthS b2 2).2.2.length) ((nthS b2 2).2.1), .slice p3 h3.length m2]) (sy c3) c3 rfl rfl rfl (fun _ => by kernel_rfl) (by decide) gt) m3 (fun k3 z2 => ?_)
              refine dtM 8 q2 z2 m3 (fun k3 c3 => ?_)
              refine dt 9 rfl q2 c3 (want_n rfl) (fun x hx => m_index (i := 1) (j := 1 * 1) (sy c3) c3 rfl rfl rfl rfl Tryd.underlying39 sz22 (by omega) (by omega) (ss_elem (t := b2) (k := 1) (sdat (o2 11 _ rfl) hx.ag).2 (by omega)).some_ rfl (by decide) gt) m3 (fun k3 z2 => ?_)
              refine dt 10 rfl q2 z2 (want_n rfl) (fun x hx => m_loadE (sy z2) z2 rfl rfl rfl 0 (1 * 1) (ss_elem (t := b2) (k := 1) (sdat (o2 11 _ rfl) hx.ag).2 (by omega)) rfl rfl Tryd.underlying22 rfl (by decide) gt) m3 (fun k3 c3 => ?_)
              have k3 := h2.data (dRow 4 ((nthS b2 1).1) ((nthS b2 1).2.2.length) ((nthS b2 1).2.1) (encNs ((nthS b2 1).2.2))) (all_at (t := b2) (k := 1) (h2.get (i := 12) rfl) (by omega))
              refine dtM 11 q2 c3 m3 (fun h2 z2 => ?_)
              refine dt 12 rfl q2 z2 (want_n rfl) (fun x hx => m_index (i := 1) (j := 1 * 1) (sy z2) z2 rfl rfl rfl rfl Tryd.underlying39 sz22 (by omega) (by simp) (ss_elem (t := [((none, 0, []) : Sl), ((z1, f3, n2) : Sl), ((p3, m2, h3) : Sl)]) (k := 1) (sdat (o2 23 _ rfl) hx.ag).2 (by simp)).some_ rfl (by decide) gt) m3 (fun h2 c3 => ?_)
              refine dt 13 rfl q2 c3 (want_n rfl) (fun x hx => m_loadE (sy c3) c3 rfl rfl rfl 0 (1 * 1) (ss_elem (t := [((none, 0, []) : Sl), ((z1, f3, n2) : Sl), ((p3, m2, h3) : Sl)]) (k := 1) (sdat (o2 23 _ rfl) hx.ag).2 (by simp)) rfl rfl Tryd.underlying22 rfl (by decide) gt) m3 (fun h2 z2 => ?_)
              refine dt 14 rfl q2 z2 (want_n rfl) (fun x hx => m_build (ps := [(0, .tmp 162), (1, .tmp 165)]) (v := .agg #[.slice ((nthS b2 1).1) ((nthS b2 1).2.2.length) ((nthS b2 1).2.1), .slice z1 n2.length f3]) (sy z2) z2 rfl rfl rfl (fun _ => by kernel_rfl) (by decide) gt) m3 (fun h2 c3 => ?_)
              refine d1 15 ?_
              have h2 := k3.data (dAllC [((((nthS b2 2).1, (nthS b2 2).2.1, (nthS b2 2).2.2) : Sl), ((p3, m2, h3) : Sl)), ((((nthS b2 1).1, (nthS b2 1).2.1, (nthS b2 1).2.2) : Sl), ((z1, f3, n2) : Sl))]) (allC_cons (k3.get (i := 25) rfl) (k3.get (i := 21) rfl) (allC_cons (k3.get (i := 26) rfl) (k3.get (i := 19) rfl) allC_nil))
              refine mbs [(0, .tmp 159), (1, .tmp 166)] [.slice ((nthS b2 2).1) ((nthS b2 2).2.2.length) ((nthS b2 2).2.1), .slice p3 h3.length m2, .slice ((nthS b2 1).1) ((nthS b2 1).2.2.length) ((nthS b2 1).2.1), .slice z1 n2.length f3] (st_opV rfl (want_n rfl)) c3 h2 Tryd.underlying67 zi66 (fun k3 z2 m3 o2 v2 => ?_)
              have m3 := sWI v2 24 pn
              refine ⟨m3, ?_⟩
              refine d1 16 ?_
              refine m_appendF (f := encC) (i := 1) ((Ls).take (((Ls).length) - (1))) ([((((nthS b2 2).1, (nthS b2 2).2.1, (nthS b2 2).2.2) : Sl), ((p3, m2, h3) : Sl)), ((((nthS b2 1).1, (nthS b2 1).2.1, (nthS b2 1).2.2) : Sl), ((z1, f3, n2) : Sl))]) (st_opV rfl (want_n rfl)) o2 v2 rfl rfl rfl rfl rfl encC_len (encC_one _) Tryd.underlying67 zi66 rfl rfl (own_lnews (f := encC) (v2.res (i := 5) rfl)) rfl (by first | omega | (simp only [List.length_cons, List.length_nil]; omega)) (by decide) (fun m3 z2 k3 h2 c3 i2 t2 => ?_)
              have c3 : (((Ls).take (((Ls).length) - (1))) ++ ([((((nthS b2 2).1, (nthS b2 2).2.1, (nthS b2 2).2.2) : Sl), ((p3, m2, h3) : Sl)), ((((nthS b2 1).1, (nthS b2 1).2.1, (nthS b2 1).2.2) : Sl), ((z1, f3, n2) : Sl))]) : List Cp).length = ((Ls).take (((Ls).length) - (1))).length + 2 := by first | (simp only [List.length_append, List.length_take, List.length_cons, List.length_nil]; done) | (simp only [List.length_append, List.length_take, List.length_cons, List.length_nil]; omega)
              have c3 := t2.erase 5
              have t2 := c3.data (dAllC (((Ls).take (((Ls).length) - (1))) ++ ([((((nthS b2 2).1, (nthS b2 2).2.1, (nthS b2 2).2.2) : Sl), ((p3, m2, h3) : Sl)), ((((nthS b2 1).1, (nthS b2 1).2.1, (nthS b2 1).2.2) : Sl), ((z1, f3, n2) : Sl))]))) (allC_append (c3.get (i := 7) rfl) (c3.get (i := 27) rfl))
              have c3 := sWI t2 24 pn
              refine ⟨c3, ?_⟩
              refine dtA 17 q2 i2 c3 (fun z2 m3 => ?_)
              refine wpAnyH_done (by kernel_rfl) (u2 _ _ ?_) _
              refine x_then_n (p2 _ _ ?_)
              refine wp_exit ?_
              refine x_block_e rfl ?_
              refine x_then_e ?_
              refine x_block_eq ?_
              have hnx : CInv (treeOf a) (treeOf b) (bn + 1) (((Ls).take (((Ls).length) - (1))) ++ ([((((nthS b2 2).1, (nthS b2 2).2.1, (nthS b2 2).2.2) : Sl), ((p3, m2, h3) : Sl)), ((((nthS b2 1).1, (nthS b2 1).2.1, (nthS b2 1).2.2) : Sl), ((z1, f3, n2) : Sl))])) ∧ wgt (((Ls).take (((Ls).length) - (1))) ++ ([((((nthS b2 2).1, (nthS b2 2).2.1, (nthS b2 2).2.2) : Sl), ((p3, m2, h3) : Sl)), ((((nthS b2 1).1, (nthS b2 1).2.1, (nthS b2 1).2.2) : Sl), ((z1, f3, n2) : Sl))])) < wgt Ls := hinv.pair f0 hcb z0 k1 d0 x1 (.inl i3) ⟨hfa2, hfa4⟩ ⟨hfb2, hfb4⟩ ⟨hfa1, hfa3⟩ ⟨hfb1, hfb3⟩
              have p2 := t2.erase 4
              have t2 := p2.erase 3
              have p2 := t2.erase 2
              have t2 := p2.forget 27
              have p2 := t2.forget 26
              have t2 := p2.forget 25
              have p2 := t2.forget 24
              have t2 := p2.forget 23
              have p2 := t2.forget 22
              have t2 := p2.forget 21
              have p2 := t2.forget 20
              have t2 := p2.forget 19
              have p2 := t2.forget 18
              have t2 := p2.forget 17
              have p2 := t2.forget 16
              have t2 := p2.forget 15
              have p2 := t2.forget 14
              have t2 := p2.forget 13
              have p2 := t2.forget 12
              have t2 := p2.forget 11
              have p2 := t2.forget 10
              have t2 := p2.forget 9
              have p2 := t2.forget 8
              have t2 := p2.forget 7
              have p2 := t2.forget 6
              have t2 := p2.forget 5
              have p2 := t2.forget 4
              have t2 := (p2).nf
              refine ⟨wgt (((Ls).take (((Ls).length) - (1))) ++ ([((((nthS b2 2).1, (nthS b2 2).2.1, (nthS b2 2).2.2) : Sl), ((p3, m2, h3) : Sl)), ((((nthS b2 1).1, (nthS b2 1).2.1, (nthS b2 1).2.2) : Sl), ((z1, f3, n2) : Sl))])), by have := hnx.2; omega, ?_⟩
              refine ⟨((Ls).take (((Ls).length) - (1))) ++ ([((((nthS b2 2).1, (nthS b2 2).2.1, (nthS b2 2).2.2) : Sl), ((p3, m2, h3) : Sl)), ((((nthS b2 1).1, (nthS b2 1).2.1, (nthS b2 1).2.2) : Sl), ((z1, f3, n2) : Sl))]), ((brE ((nthC Ls (((Ls).length) - (1))).2.2.2))), k3, h2, ?_⟩
              exact ⟨(m3.sub (rc rfl (rc rfl (rc rfl rnl)))), t2, h0, hnx.1, rfl⟩
            ·
             have t2 := o3.data (dAll [((t1, p1, u1) : Sl)]) (all_cons (o3.get (i := 9) rfl) all_nil)
             refine mbs [(0, .tmp 148)] [.slice t1 u1.length p1] (st_opV rfl (want_n rfl)) y1 t2 Tryd.underlying39 zi22 (fun o3 m3 h2 k3 h3 => ?_)
             have m3 := sWI h3 15 (pB 2 0 pn)
             refine ⟨m3, ?_⟩
             refine d1 2 ?_
             have m3 := h3.data (dAll [((t1, p1, u1) : Sl)]) (all_cons (h3.get (i := 9) rfl) all_nil)
             refine mbs [(0, .tmp 144)] [.slice t1 u1.length p1] (st_opV rfl (want_n rfl)) k3 m3 Tryd.underlying39 zi22 (fun h3 o3 t2 y1 m2 => ?_)
             have o3 := sWI m2 15 (pB 2 0 pn)
             refine ⟨o3, ?_⟩
             refine d1 3 ?_
             have o3 := m2.nf
             have m2 := own_cap (o3.res (i := 6) rfl)
             obtain ⟨h3, m3⟩ := o3.row_dataM (i := 6) rfl (j := 0) rfl (by decide)
             have o3 := h3.data (dRow 1 (some ⟨t2, 0, none⟩) 1 1 (encSs ([((t1, p1, u1) : Sl)]))) ⟨m2, m3⟩
             refine k_call (xs := [.const (.int .i64 8), .tmp 145]) (st_op rfl (want_n rfl)) y1 rfl rfl rfl (by decide) ok35 (vwith_calls _ _ o3.il 8 _ _ ([((t1, p1, u1) : Sl)]) (o3.g 18) (o3.g 17) (hl := (by simp)) (hb := (by simp [lsts]; omega))) ?_
             rintro y1 m3 ⟨h3, m2, t2, rfl, k3, p3, n2⟩
             have m3 := o3.below k3.below
             have k3 := o3.dN m3 p3
             refine ⟨_, rfl, fun m3 p3 => ?_⟩
             have hwb8 : t2 = u1 ++ [cN 8] := by rw [n2]; simp [lsts]
             have n2 := sWI k3 15 (pB 2 0 pn)
             refine ⟨n2, ?_⟩
             refine d1 7 ?_
             have n2 := k3.nf
             have k3 := own_cap (n2.res (i := 5) rfl)
             obtain ⟨m3, o3⟩ := n2.row_dataM (i := 5) rfl (j := 0) rfl (by decide)
             have n2 := m3.data (dRow 1 (some ⟨h2, 0, none⟩) 1 1 (encSs ([((t1, p1, u1) : Sl)]))) ⟨k3, o3⟩
             refine k_call (xs := [.const (.int .i64 9), .tmp 149]) (st_op rfl (want_n rfl)) p3 rfl rfl rfl (by decide) ok35 (vwith_calls _ _ n2.il 9 _ _ ([((t1, p1, u1) : Sl)]) (n2.g 20) (n2.g 16) (hl := (by simp)) (hb := (by simp [lsts]; omega))) ?_
             rintro p3 o3 ⟨m3, k3, h2, rfl, y1, f3, z1⟩
             have o3 := n2.below y1.below
             have y1 := n2.dN o3 f3
             refine ⟨_, rfl, fun o3 f3 => ?_⟩
             have hwb9 : h2 = u1 ++ [cN 9] := by rw [z1]; simp [lsts]
             obtain ⟨hfb1, hfb2, hfb3, hfb4⟩ := fs_made hgb1 b3 hwb8 hwb9
             have b3 := sWI y1 15 (pB 2 0 pn)
             refine ⟨b3, ?_⟩
             refine d1 8 ?_
             have b3 := y1.data (dAll [((none, 0, []) : Sl), ((h3, m2, t2) : Sl), ((m3, k3, h2) : Sl)]) (all_cons ⟨Nat.le_refl _, RowI.nil _ _ _ _⟩ (all_cons (y1.get (i := 19) rfl) (all_cons (y1.get (i := 21) rfl) all_nil)))
             refine mbs [(0, .const (.slice none 0 0)), (1, .tmp 146), (2, .tmp 150)] [.slice none 0 0, .slice h3 t2.length m2, .slice m3 h2.length k3] (st_opV rfl (want_n rfl)) f3 b3 Tryd.underlying39 zi22 (fun y1 z1 o3 n2 p3 => ?_)
             have z1 := sWI p3 15 (pB 2 0 pn)
             refine ⟨z1, ?_⟩
             refine dtA 9 y2 n2 z1 (fun y1 b3 => ?_)
             refine wpAnyH_done (by kernel_rfl) (d3 _ _ ?_) _
             have d3 := own_cap (p3.res (i := 5) rfl)
             obtain ⟨y1, z1⟩ := p3.row_dataM (i := 5) rfl (j := 0) rfl (by decide)
             have p3 := y1.data (dRow 1 (some ⟨o3, 0, none⟩) 3 3 (encSs ([((none, 0, []) : Sl), ((h3, m2, t2) : Sl), ((m3, k3, h2) : Sl)]))) ⟨d3, z1⟩
             refine x_then_n (x2 _ _ ?_)
             refine wp_seq_k (fun x2 z1 => ?_)
             obtain ⟨x2, y1, d3⟩ := p3.agree
             refine d_reg3 (n := 18) d3 24 pn (pan_then (pan_block (pan_then (pan_block (pan_then (pan_block (pan_then (pan_scope pan_body)))))))) (fun x2 p3 o3 n2 y2 f3 => ?_)
             refine dtM 0 p3 b3 f3 (fun n2 x2 => ?_)
             refine dtM 1 p3 x2 f3 (fun n2 b3 => ?_)
             refine dt 2 rfl p3 b3 (want_n rfl) (fun x hx => m_index (i := 2) (j := 2 * 1) (sy b3) b3 rfl rfl rfl rfl Tryd.underlying39 sz22 (by omega) (by omega) (ss_elem (t := b2) (k := 2) (sdat (y1 11 _ rfl) hx.ag).2 (by omega)).some_ rfl (by decide) gt) f3 (fun n2 x2 => ?_)
             refine dt 3 rfl p3 x2 (want_n rfl) (fun x hx => m_loadE (sy x2) x2 rfl rfl rfl 0 (2 * 1) (ss_elem (t := b2) (k := 2) (sdat (y1 11 _ rfl) hx.ag).2 (by omega)) rfl rfl Tryd.underlying22 rfl (by decide) gt) f3 (fun n2 b3 => ?_)
             have n2 := y2.data (dRow 4 ((nthS b2 2).1) ((nthS b2 2).2.2.length) ((nthS b2 2).2.1) (encNs ((nthS b2 2).2.2))) (all_at (t := b2) (k := 2) (y2.get (i := 12) rfl) (by omega))
             refine dtM 4 p3 b3 f3 (fun y2 x2 => ?_)
             refine dt 5 rfl p3 x2 (want_n rfl) (fun x hx => m_index (i := 2) (j := 2 * 1) (sy x2) x2 rfl rfl rfl rfl Tryd.underlying39 sz22 (by omega) (by simp) (ss_elem (t := [((none, 0, []) : Sl), ((h3, m2, t2) : Sl), ((m3, k3, h2) : Sl)]) (k := 2) (sdat (y1 23 _ rfl) hx.ag).2 (by simp)).some_ rfl (by decide) gt) f3 (fun y2 b3 => ?_)
             refine dt 6 rfl p3 b3 (want_n rfl) (fun x hx => m_loadE (sy b3) b3 rfl rfl rfl 0 (2 * 1) (ss_elem (t := [((none, 0, []) : Sl), ((h3, m2, t2) : Sl), ((m3, k3, h2) : Sl)]) (k := 2) (sdat (y1 23 _ rfl) hx.ag).2 (by simp)) rfl rfl Tryd.underlying22 rfl (by decide) gt) f3 (fun y2 x2 => ?_)
             refine dt 7 rfl p3 x2 (want_n rfl) (fun x hx => m_build (ps := [(0, .tmp 155), (1, .tmp 158)]) (v := .agg #[.slice ((nthS b2 2).1) ((nthS b2 2).2.2.length) ((nthS b2 2).2.1), .slice m3 h2.length k3]) (sy x2) x2 rfl rfl rfl (fun _ => by kernel_rfl) (by decide) gt) f3 (fun y2 b3 => ?_)
             refine dtM 8 p3 b3 f3 (fun y2 x2 => ?_)
             refine dt 9 rfl p3 x2 (want_n rfl) (fun x hx => m_index (i := 1) (j := 1 * 1) (sy x2) x2 rfl rfl rfl rfl Tryd.underlying39 sz22 (by omega) (by omega) (ss_elem (t := b2) (k := 1) (sdat (y1 11 _ rfl) hx.ag).2 (by omega)).some_ rfl (by decide) gt) f3 (fun y2 b3 => ?_)
             refine dt 10 rfl p3 b3 (want_n rfl) (fun x hx => m_loadE (sy b3) b3 rfl rfl rfl 0 (1 * 1) (ss_elem (t := b2) (k := 1) (sdat (y1 11 _ rfl) hx.ag).2 (by omega)) rfl rfl Tryd.underlying22 rfl (by decide) gt) f3 (fun y2 x2 => ?_)
             have y2 := n2.data (dRow 4 ((nthS b2 1).1) ((nthS b2 1).2.2.length) ((nthS b2 1).2.1) (encNs ((nthS b2 1).2.2))) (all_at (t := b2) (k := 1) (n2.get (i := 12) rfl) (by omega))
             refine dtM 11 p3 x2 f3 (fun n2 b3 => ?_)
             refine dt 12 rfl p3 b3 (want_n rfl) (fun x hx => m_index (i := 1) (j := 1 * 1) (sy b3) b3 rfl rfl rfl rfl Tryd.underlying39 sz22 (by omega) (by simp) (ss_elem (t := [((none, 0, []) : Sl), ((h3, m2, t2) : Sl), ((m3, k3, h2) : Sl)]) (k := 1) (sdat (y1 23 _ rfl) hx.ag).2 (by simp)).some_ rfl (by decide) gt) f3 (fun n2 x2 => ?_)
             refine dt 13 rfl p3 x2 (want_n rfl) (fun x hx => m_loadE (sy x2) x2 rfl rfl rfl 0 (1 * 1) (ss_elem (t := [((none, 0, []) : Sl), ((h3, m2, t2) : Sl), ((m3, k3, h2) : Sl)]) (k := 1) (sdat (y1 23 _ rfl) hx.ag).2 (by simp)) rfl rfl Tryd.underlying22 rfl (by decide) gt) f3 (fun n2 b3 => ?_)
             refine dt 14 rfl p3 b3 (want_n rfl) (fun x hx => m_build (ps := [(0, .tmp 162), (1, .tmp 165)]) (v := .agg #[.slice ((nthS b2 1).1) ((nthS b2 1).2.2.length) ((nthS b2 1).2.1), .slice h3 t2.length m2]) (sy b3) b3 rfl rfl rfl (fun _ => by kernel_rfl) (by decide) gt) f3 (fun n2 x2 => ?_)
             refine d1 15 ?_
             have n2 := y2.data (dAllC [((((nthS b2 2).1, (nthS b2 2).2.1, (nthS b2 2).2.2) : Sl), ((m3, k3, h2) : Sl)), ((((nthS b2 1).1, (nthS b2 1).2.1, (nthS b2 1).2.2) : Sl), ((h3, m2, t2) : Sl))]) (allC_cons (y2.get (i := 25) rfl) (y2.get (i := 21) rfl) (allC_cons (y2.get (i := 26) rfl) (y2.get (i := 19) rfl) allC_nil))
             refine mbs [(0, .tmp 159), (1, .tmp 166)] [.slice ((nthS b2 2).1) ((nthS b2 2).2.2.length) ((nthS b2 2).2.1), .slice m3 h2.length k3, .slice ((nthS b2 1).1) ((nthS b2 1).2.2.length) ((nthS b2 1).2.1), .slice h3 t2.length m2] (st_opV rfl (want_n rfl)) x2 n2 Tryd.underlying67 zi66 (fun y2 b3 f3 y1 d3 => ?_)
             have f3 := sWI d3 24 pn
             refine ⟨f3, ?_⟩
             refine d1 16 ?_
             refine m_appendF (f := encC) (i := 1) ((Ls).take (((Ls).length) - (1))) ([((((nthS b2 2).1, (nthS b2 2).2.1, (nthS b2 2).2.2) : Sl), ((m3, k3, h2) : Sl)), ((((nthS b2 1).1, (nthS b2 1).2.1, (nthS b2 1).2.2) : Sl), ((h3, m2, t2) : Sl))]) (st_opV rfl (want_n rfl)) y1 d3 rfl rfl rfl rfl rfl encC_len (encC_one _) Tryd.underlying67 zi66 rfl rfl (own_lnews (f := encC) (d3.res (i := 5) rfl)) rfl (by first | omega | (simp only [List.length_cons, List.length_nil]; omega)) (by decide) (fun f3 b3 y2 n2 x2 p2 u2 => ?_)
             have x2 : (((Ls).take (((Ls).length) - (1))) ++ ([((((nthS b2 2).1, (nthS b2 2).2.1, (nthS b2 2).2.2) : Sl), ((m3, k3, h2) : Sl)), ((((nthS b2 1).1, (nthS b2 1).2.1, (nthS b2 1).2.2) : Sl), ((h3, m2, t2) : Sl))]) : List Cp).length = ((Ls).take (((Ls).length) - (1))).length + 2 := by first | (simp only [List.length_append, List.length_take, List.length_cons, List.length_nil]; done) | (simp only [List.length_append, List.length_take, List.length_cons, List.length_nil]; omega)
             have x2 := u2.erase 5
             have u2 := x2.data (dAllC (((Ls).take (((Ls).length) - (1))) ++ ([((((nthS b2 2).1, (nthS b2 2).2.1, (nthS b2 2).2.2) : Sl), ((m3, k3, h2) : Sl)), ((((nthS b2 1).1, (nthS b2 1).2.1, (nthS b2 1).2.2) : Sl), ((h3, m2, t2) : Sl))]))) (allC_append (x2.get (i := 7) rfl) (x2.get (i := 27) rfl))
             have x2 := sWI u2 24 pn
             refine ⟨x2, ?_⟩
             refine dtA 17 p3 p2 x2 (fun b3 f3 => ?_)
             refine wpAnyH_done (by kernel_rfl) (o3 _ _ ?_) _
             refine x_then_n (z1 _ _ ?_)
             refine wp_exit ?_
             refine x_block_e rfl ?_
             refine x_then_e ?_
             refine x_block_eq ?_
             have hnx : CInv (treeOf a) (treeOf b) (bn + 1) (((Ls).take (((Ls).length) - (1))) ++ ([((((nthS b2 2).1, (nthS b2 2).2.1, (nthS b2 2).2.2) : Sl), ((m3, k3, h2) : Sl)), ((((nthS b2 1).1, (nthS b2 1).2.1, (nthS b2 1).2.2) : Sl), ((h3, m2, t2) : Sl))])) ∧ wgt (((Ls).take (((Ls).length) - (1))) ++ ([((((nthS b2 2).1, (nthS b2 2).2.1, (nthS b2 2).2.2) : Sl), ((m3, k3, h2) : Sl)), ((((nthS b2 1).1, (nthS b2 1).2.1, (nthS b2 1).2.2) : Sl), ((h3, m2, t2) : Sl))])) < wgt Ls := hinv.pair f0 hcb z0 k1 d0 x1 (.inl i3) ⟨hfa2, hfa4⟩ ⟨hfb2, hfb4⟩ ⟨hfa1, hfa3⟩ ⟨hfb1, hfb3⟩
             have z1 := u2.erase 4
             have u2 := z1.erase 3
             have z1 := u2.erase 2
             have u2 := z1.forget 27
             have z1 := u2.forget 26
             have u2 := z1.forget 25
             have z1 := u2.forget 24
             have u2 := z1.forget 23
             have z1 := u2.forget 22
             have u2 := z1.forget 21
             have z1 := u2.forget 20
             have u2 := z1.forget 19
             have z1 := u2.forget 18
             have u2 := z1.forget 17
             have z1 := u2.forget 16
             have u2 := z1.forget 15
             have z1 := u2.forget 14
             have u2 := z1.forget 13
             have z1 := u2.forget 12
             have u2 := z1.forget 11
             have z1 := u2.forget 10
             have u2 := z1.forget 9
             have z1 := u2.forget 8
             have u2 := z1.forget 7
             have z1 := u2.forget 6
             have u2 := z1.forget 5
             have z1 := u2.forget 4
             have u2 := (z1).nf
             refine ⟨wgt (((Ls).take (((Ls).length) - (1))) ++ ([((((nthS b2 2).1, (nthS b2 2).2.1, (nthS b2 2).2.2) : Sl), ((m3, k3, h2) : Sl)), ((((nthS b2 1).1, (nthS b2 1).2.1, (nthS b2 1).2.2) : Sl), ((h3, m2, t2) : Sl))])), by have := hnx.2; omega, ?_⟩
             refine ⟨((Ls).take (((Ls).length) - (1))) ++ ([((((nthS b2 2).1, (nthS b2 2).2.1, (nthS b2 2).2.2) : Sl), ((m3, k3, h2) : Sl)), ((((nthS b2 1).1, (nthS b2 1).2.1, (nthS b2 1).2.2) : Sl), ((h3, m2, t2) : Sl))]), ((brE ((nthC Ls (((Ls).length) - (1))).2.2.2))), y2, n2, ?_⟩
             exact ⟨(f3.sub (rc rfl (rc rfl (rc rfl rnl)))), u2, h0, hnx.1, rfl⟩
          ·
           have u2 := f2.setb (d := 123) (b := false) rfl (decide_eq_false i3)
           refine m_field (j' := 0) (st_listV_w (wt u2)) u2 rfl rfl rfl Tryd.underlying32 rfl sz3 rfl rfl (by decide) (fun f2 f3 => ?_)
           refine m_load (i := 4) (st_listV_w (wt f3)) f3 v1 rfl rfl rfl rfl rfl Tryd.underlying3 rfl (by decide) (fun f2 u2 => ?_)
           refine r_eql (st_listV_w (wt u2)) u2 rfl rfl rfl rfl (by decide) (fun f2 f3 => ?_)
           refine r_pick_f sv f3 rfl rfl rfl rfl (by decide) (fun f2 u2 => ?_)
           refine asg u2 (fun f2 f3 => ?_)
           refine wpList_nil (x_then_n (n3 _ _ ?_))
           rcases Decidable.em ((((nth u1 (u1.length - 1)).K)) = 7) with n3 | n3
           ·
            obtain ⟨hfb0, hfb1, hfb2, hfb3, hfb4⟩ := fs_list hgb1 n3 j2
            have f2 := f3.setb (d := 119) (b := true) rfl (decide_eq_true n3)
            refine wp_cond_true (f2.ev rfl) ?_
            refine wp_seq_k (fun u2 n2 => ?_)
            refine wsc (fun u2 y2 => ?_)
            refine m_field (j' := 0) sv f2 rfl rfl rfl Tryd.underlying32 rfl sz3 rfl rfl (by decide) (fun u2 h2 => ?_)
            refine m_load (i := 3) sv h2 v1 rfl rfl rfl rfl rfl Tryd.underlying3 rfl (by decide) (fun u2 f2 => ?_)
            refine r_neq sv f2 rfl rfl rfl rfl (by decide) (fun u2 h2 => ?_)
            refine wpList_nil (x_then_n (y2 _ _ ?_))
            have y2 := h2.setb (d := 130) (b := true) rfl (by rw [(decide_eq_false i3)]; rfl)
            refine wp_cond_true (y2.ev rfl) ?_
            obtain ⟨h2, u2, f2⟩ := v1.agree
            refine d_reg3 (n := 10) f2 15 (pB 2 0 pn) (pan_then (pan_block (pan_then (pan_block (pan_then (pan_block (pan_then (pan_scope pan_body)))))))) (fun u2 h2 k3 m3 t2 m2 => ?_)
            refine dtF 0 0 h2 y2 m2 Tryd.underlying66 sz22 (fun m3 u2 => ?_)
            refine dtC 1 0 h2 u2 m2 Tryd.underlying22 (fun m3 y2 => ?_)
            refine dtF 4 0 h2 y2 m2 Tryd.underlying66 sz22 (fun m3 u2 => ?_)
            refine dtC 5 0 h2 u2 m2 Tryd.underlying22 (fun m3 y2 => ?_)
            refine wpAnyH_all (rs := [2, 6]) (by kernel_rfl) (by simp) ?_
            rintro i m3
            simp only [List.mem_cons, List.not_mem_nil, or_false] at m3
            rcases m3 with rfl | rfl
            ·
             have m3 := t2.data (dAll [((n0, t0, u0) : Sl)]) (all_cons (t2.get (i := 8) rfl) all_nil)
             refine mbs [(0, .tmp 132)] [.slice n0 u0.length t0] (st_opV rfl (want_n rfl)) y2 m3 Tryd.underlying39 zi22 (fun u2 m2 f2 h3 z1 => ?_)
             have m2 := sWI z1 15 (pB 2 0 pn)
             refine ⟨m2, ?_⟩
             refine wpAnyH_all (rs := [3, 6]) (by kernel_rfl) (by simp) ?_
             rintro i m2
             simp only [List.mem_cons, List.not_mem_nil, or_false] at m2
             rcases m2 with rfl | rfl
             ·
              have m2 := z1.nf
              have u2 := own_cap (m2.res (i := 5) rfl)
              obtain ⟨m3, o3⟩ := m2.row_dataM (i := 5) rfl (j := 0) rfl (by decide)
              have m2 := m3.data (dRow 1 (some ⟨f2, 0, none⟩) 1 1 (encSs ([((n0, t0, u0) : Sl)]))) ⟨u2, o3⟩
              refine k_call (xs := [.const (.int .i64 8), .tmp 133]) (st_op rfl (want_n rfl)) h3 rfl rfl rfl (by decide) ok35 (vwith_calls _ _ m2.il 8 _ _ ([((n0, t0, u0) : Sl)]) (m2.g 17) (m2.g 16) (hl := (by simp)) (hb := (by simp [lsts]; omega))) ?_
              rintro o3 m3 ⟨u2, b3, x2, rfl, p2, p3, d3⟩
              have m3 := m2.below p2.below
              have p2 := m2.dN m3 p3
              refine ⟨_, rfl, fun m3 p3 => ?_⟩
              have hwa8 : x2 = u0 ++ [cN 8] := by rw [d3]; simp [lsts]
              have d3 := sWI p2 15 (pB 2 0 pn)
              refine ⟨d3, ?_⟩
              refine d1 6 ?_
              have d3 := p2.data (dAll [((n0, t0, u0) : Sl)]) (all_cons (p2.get (i := 8) rfl) all_nil)
              refine mbs [(0, .tmp 136)] [.slice n0 u0.length t0] (st_opV rfl (want_n rfl)) p3 d3 Tryd.underlying39 zi22 (fun p2 m3 m2 o3 y1 => ?_)
              have m3 := sWI y1 15 (pB 2 0 pn)
              refine ⟨m3, ?_⟩
              refine d1 7 ?_
              have m3 := y1.nf
              have y1 := own_cap (m3.res (i := 5) rfl)
              obtain ⟨p2, d3⟩ := m3.row_dataM (i := 5) rfl (j := 0) rfl (by decide)
              have m3 := p2.data (dRow 1 (some ⟨m2, 0, none⟩) 1 1 (encSs ([((n0, t0, u0) : Sl)]))) ⟨y1, d3⟩
              refine k_call (xs := [.const (.int .i64 9), .tmp 137]) (st_op rfl (want_n rfl)) o3 rfl rfl rfl (by decide) ok35 (vwith_calls _ _ m3.il 9 _ _ ([((n0, t0, u0) : Sl)]) (m3.g 20) (m3.g 19) (hl := (by simp)) (hb := (by simp [lsts]; omega))) ?_
              rintro o3 d3 ⟨p2, y1, m2, rfl, p3, z2, c3⟩
              have d3 := m3.below p3.below
              have p3 := m3.dN d3 z2
              refine ⟨_, rfl, fun d3 z2 => ?_⟩
              have hwa9 : m2 = u0 ++ [cN 9] := by rw [c3]; simp [lsts]
              obtain ⟨hfa1, hfa2, hfa3, hfa4⟩ := fs_made hga1 i3 hwa8 hwa9
              have c3 := sWI p3 15 (pB 2 0 pn)
              refine ⟨c3, ?_⟩
              refine d1 8 ?_
              have c3 := p3.data (dAll [((none, 0, []) : Sl), ((u2, b3, x2) : Sl), ((p2, y1, m2) : Sl)]) (all_cons ⟨Nat.le_refl _, RowI.nil _ _ _ _⟩ (all_cons (p3.get (i := 18) rfl) (all_cons (p3.get (i := 21) rfl) all_nil)))
              refine mbs [(0, .const (.slice none 0 0)), (1, .tmp 134), (2, .tmp 138)] [.slice none 0 0, .slice u2 x2.length b3, .slice p2 m2.length y1] (st_opV rfl (want_n rfl)) z2 c3 Tryd.underlying39 zi22 (fun p3 d3 m3 o3 i2 => ?_)
              have d3 := sWI i2 15 (pB 2 0 pn)
              refine ⟨d3, ?_⟩
              refine dtA 9 h2 o3 d3 (fun p3 c3 => ?_)
              refine wpAnyH_done (by kernel_rfl) (k3 _ _ ?_) _
              have p3 := own_cap (i2.res (i := 5) rfl)
              obtain ⟨d3, o3⟩ := i2.row_dataM (i := 5) rfl (j := 0) rfl (by decide)
              have i2 := d3.data (dRow 1 (some ⟨m3, 0, none⟩) 3 3 (encSs ([((none, 0, []) : Sl), ((u2, b3, x2) : Sl), ((p2, y1, m2) : Sl)]))) ⟨p3, o3⟩
              refine x_then_n (n2 _ _ ?_)
              refine wp_seq_k (fun o3 d3 => ?_)
              refine wsc (fun o3 p3 => ?_)
              refine m_field (j' := 0) sv c3 rfl rfl rfl Tryd.underlying32 rfl sz3 rfl rfl (by decide) (fun o3 m3 => ?_)
              refine m_load (i := 4) sv m3 i2 rfl rfl rfl rfl rfl Tryd.underlying3 rfl (by decide) (fun o3 c3 => ?_)
              refine r_neq sv c3 rfl rfl rfl rfl (by decide) (fun o3 m3 => ?_)
              refine wpList_nil (x_then_n (p3 _ _ ?_))
              have p3 := m3.setb (d := 142) (b := false) rfl (by rw [(decide_eq_true n3)]; rfl)
              refine wp_cond_false (p3.ev rfl) ?_
              refine wp_skip ?_
              refine x_then_n (d3 _ _ ?_)
              refine wp_seq_k (fun d3 m3 => ?_)
              obtain ⟨d3, o3, c3⟩ := i2.agree
              refine d_reg3 (n := 18) c3 24 pn (pan_then (pan_block (pan_then (pan_block (pan_then (pan_block (pan_then (pan_scope pan_body)))))))) (fun d3 i2 z2 q2 v2 o2 => ?_)
              refine dtM 0 i2 p3 o2 (fun q2 d3 => ?_)
              refine dtM 1 i2 d3 o2 (fun q2 p3 => ?_)
              refine dt 2 rfl i2 p3 (want_n rfl) (fun x hx => m_index (i := 2) (j := 2 * 1) (sy p3) p3 rfl rfl rfl rfl Tryd.underlying39 sz22 (by omega) (by simp) (ss_elem (t := [((none, 0, []) : Sl), ((u2, b3, x2) : Sl), ((p2, y1, m2) : Sl)]) (k := 2) (sdat (o3 23 _ rfl) hx.ag).2 (by simp)).some_ rfl (by decide) gt) o2 (fun q2 d3 => ?_)
              refine dt 3 rfl i2 d3 (want_n rfl) (fun x hx => m_loadE (sy d3) d3 rfl rfl rfl 0 (2 * 1) (ss_elem (t := [((none, 0, []) : Sl), ((u2, b3, x2) : Sl), ((p2, y1, m2) : Sl)]) (k := 2) (sdat (o3 23 _ rfl) hx.ag).2 (by simp)) rfl rfl Tryd.underlying22 rfl (by decide) gt) o2 (fun q2 p3 => ?_)
              refine dtM 4 i2 p3 o2 (fun q2 d3 => ?_)
              refine dt 5 rfl i2 d3 (want_n rfl) (fun x hx => m_index (i := 2) (j := 2 * 1) (sy d3) d3 rfl rfl rfl rfl Tryd.underlying39 sz22 (by omega) (by omega) (ss_elem (t := c2) (k := 2) (sdat (o3 13 _ rfl) hx.ag).2 (by omega)).some_ rfl (by decide) gt) o2 (fun q2 p3 => ?_)
              refine dt 6 rfl i2 p3 (want_n rfl) (fun x hx => m_loadE (sy p3) p3 rfl rfl rfl 0 (2 * 1) (ss_elem (t := c2) (k := 2) (sdat (o3 13 _ rfl) hx.ag).2 (by omega)) rfl rfl Tryd.underlying22 rfl (by decide) gt) o2 (fun q2 d3 => ?_)
              have q2 := v2.data (dRow 4 ((nthS c2 2).1) ((nthS c2 2).2.2.length) ((nthS c2 2).2.1) (encNs ((nthS c2 2).2.2))) (all_at (t := c2) (k := 2) (v2.get (i := 14) rfl) (by omega))
              refine dt 7 rfl i2 d3 (want_n rfl) (fun x hx => m_build (ps := [(0, .tmp 155), (1, .tmp 158)]) (v := .agg #[.slice p2 m2.length y1, .slice ((nthS c2 2).1) ((nthS c2 2).2.2.length) ((nthS c2 2).2.1)]) (sy d3) d3 rfl rfl rfl (fun _ => by kernel_rfl) (by decide) gt) o2 (fun v2 p3 => ?_)
              refine dtM 8 i2 p3 o2 (fun v2 d3 => ?_)
              refine dt 9 rfl i2 d3 (want_n rfl) (fun x hx => m_index (i := 1) (j := 1 * 1) (sy d3) d3 rfl rfl rfl rfl Tryd.underlying39 sz22 (by omega) (by simp) (ss_elem (t := [((none, 0, []) : Sl), ((u2, b3, x2) : Sl), ((p2, y1, m2) : Sl)]) (k := 1) (sdat (o3 23 _ rfl) hx.ag).2 (by simp)).some_ rfl (by decide) gt) o2 (fun v2 p3 => ?_)
              refine dt 10 rfl i2 p3 (want_n rfl) (fun x hx => m_loadE (sy p3) p3 rfl rfl rfl 0 (1 * 1) (ss_elem (t := [((none, 0, []) : Sl), ((u2, b3, x2) : Sl), ((p2, y1, m2) : Sl)]) (k := 1) (sdat (o3 23 _ rfl) hx.ag).2 (by simp)) rfl rfl Tryd.underlying22 rfl (by decide) gt) o2 (fun v2 d3 => ?_)
              refine dtM 11 i2 d3 o2 (fun v2 p3 => ?_)
              refine dt 12 rfl i2 p3 (want_n rfl) (fun x hx => m_index (i := 1) (j := 1 * 1) (sy p3) p3 rfl rfl rfl rfl Tryd.underlying39 sz22 (by omega) (by omega) (ss_elem (t := c2) (k := 1) (sdat (o3 13 _ rfl) hx.ag).2 (by omega)).some_ rfl (by decide) gt) o2 (fun v2 d3 => ?_)
              refine dt 13 rfl i2 d3 (want_n rfl) (fun x hx => m_loadE (sy d3) d3 rfl rfl rfl 0 (1 * 1) (ss_elem (t := c2) (k := 1) (sdat (o3 13 _ rfl) hx.ag).2 (by omega)) rfl rfl Tryd.underlying22 rfl (by decide) gt) o2 (fun v2 p3 => ?_)
              have v2 := q2.data (dRow 4 ((nthS c2 1).1) ((nthS c2 1).2.2.length) ((nthS c2 1).2.1) (encNs ((nthS c2 1).2.2))) (all_at (t := c2) (k := 1) (q2.get (i := 14) rfl) (by omega))
              refine dt 14 rfl i2 p3 (want_n rfl) (fun x hx => m_build (ps := [(0, .tmp 162), (1, .tmp 165)]) (v := .agg #[.slice u2 x2.length b3, .slice ((nthS c2 1).1) ((nthS c2 1).2.2.length) ((nthS c2 1).2.1)]) (sy p3) p3 rfl rfl rfl (fun _ => by kernel_rfl) (by decide) gt) o2 (fun q2 d3 => ?_)
              refine d1 15 ?_
              have q2 := v2.data (dAllC [(((p2, y1, m2) : Sl), (((nthS c2 2).1, (nthS c2 2).2.1, (nthS c2 2).2.2) : Sl)), (((u2, b3, x2) : Sl), (((nthS c2 1).1, (nthS c2 1).2.1, (nthS c2 1).2.2) : Sl))]) (allC_cons (v2.get (i := 21) rfl) (v2.get (i := 25) rfl) (allC_cons (v2.get (i := 18) rfl) (v2.get (i := 26) rfl) allC_nil))
              refine mbs [(0, .tmp 159), (1, .tmp 166)] [.slice p2 m2.length y1, .slice ((nthS c2 2).1) ((nthS c2 2).2.2.length) ((nthS c2 2).2.1), .slice u2 x2.length b3, .slice ((nthS c2 1).1) ((nthS c2 1).2.2.length) ((nthS c2 1).2.1)] (st_opV rfl (want_n rfl)) d3 q2 Tryd.underlying67 zi66 (fun v2 p3 o2 o3 c3 => ?_)
              have o2 := sWI c3 24 pn
              refine ⟨o2, ?_⟩
              refine d1 16 ?_
              refine m_appendF (f := encC) (i := 1) ((Ls).take (((Ls).length) - (1))) ([(((p2, y1, m2) : Sl), (((nthS c2 2).1, (nthS c2 2).2.1, (nthS c2 2).2.2) : Sl)), (((u2, b3, x2) : Sl), (((nthS c2 1).1, (nthS c2 1).2.1, (nthS c2 1).2.2) : Sl))]) (st_opV rfl (want_n rfl)) o3 c3 rfl rfl rfl rfl rfl encC_len (encC_one _) Tryd.underlying67 zi66 rfl rfl (own_lnews (f := encC) (c3.res (i := 5) rfl)) rfl (by first | omega | (simp only [List.length_cons, List.length_nil]; omega)) (by decide) (fun o2 p3 v2 q2 d3 k2 j3 => ?_)
              have d3 : (((Ls).take (((Ls).length) - (1))) ++ ([(((p2, y1, m2) : Sl), (((nthS c2 2).1, (nthS c2 2).2.1, (nthS c2 2).2.2) : Sl)), (((u2, b3, x2) : Sl), (((nthS c2 1).1, (nthS c2 1).2.1, (nthS c2 1).2.2) : Sl))]) : List Cp).length = ((Ls).take (((Ls).length) - (1))).length + 2 := by first | (simp only [List.length_append, List.length_take, List.length_cons, List.length_nil]; done) | (simp only [List.length_append, List.length_take, List.length_cons, List.length_nil]; omega)
              have d3 := j3.erase 5
              have j3 := d3.data (dAllC (((Ls).take (((Ls).length) - (1))) ++ ([(((p2, y1, m2) : Sl), (((nthS c2 2).1, (nthS c2 2).2.1, (nthS c2 2).2.2) : Sl)), (((u2, b3, x2) : Sl), (((nthS c2 1).1, (nthS c2 1).2.1, (nthS c2 1).2.2) : Sl))]))) (allC_append (d3.get (i := 7) rfl) (d3.get (i := 27) rfl))
              have d3 := sWI j3 24 pn
              refine ⟨d3, ?_⟩
              refine dtA 17 i2 k2 d3 (fun p3 o2 => ?_)
              refine wpAnyH_done (by kernel_rfl) (z2 _ _ ?_) _
              refine x_then_n (m3 _ _ ?_)
              refine wp_exit ?_
              refine x_block_e rfl ?_
              refine x_then_e ?_
              refine x_block_eq ?_
              have hnx : CInv (treeOf a) (treeOf b) (bn + 1) (((Ls).take (((Ls).length) - (1))) ++ ([(((p2, y1, m2) : Sl), (((nthS c2 2).1, (nthS c2 2).2.1, (nthS c2 2).2.2) : Sl)), (((u2, b3, x2) : Sl), (((nthS c2 1).1, (nthS c2 1).2.1, (nthS c2 1).2.2) : Sl))])) ∧ wgt (((Ls).take (((Ls).length) - (1))) ++ ([(((p2, y1, m2) : Sl), (((nthS c2 2).1, (nthS c2 2).2.1, (nthS c2 2).2.2) : Sl)), (((u2, b3, x2) : Sl), (((nthS c2 1).1, (nthS c2 1).2.1, (nthS c2 1).2.2) : Sl))])) < wgt Ls := hinv.pair f0 hcb z0 k1 d0 x1 (.inr n3) ⟨hfa2, hfa4⟩ ⟨hfb2, hfb4⟩ ⟨hfa1, hfa3⟩ ⟨hfb1, hfb3⟩
              have m3 := j3.erase 4
              have j3 := m3.erase 3
              have m3 := j3.erase 2
              have j3 := m3.forget 27
              have m3 := j3.forget 26
              have j3 := m3.forget 25
              have m3 := j3.forget 24
              have j3 := m3.forget 23
              have m3 := j3.forget 22
              have j3 := m3.forget 21
              have m3 := j3.forget 20
              have j3 := m3.forget 19
              have m3 := j3.forget 18
              have j3 := m3.forget 17
              have m3 := j3.forget 16
              have j3 := m3.forget 15
              have m3 := j3.forget 14
              have j3 := m3.forget 13
              have m3 := j3.forget 12
              have j3 := m3.forget 11
              have m3 := j3.forget 10
              have j3 := m3.forget 9
              have m3 := j3.forget 8
              have j3 := m3.forget 7
              have m3 := j3.forget 6
              have j3 := m3.forget 5
              have m3 := j3.forget 4
              have j3 := (m3).nf
              refine ⟨wgt (((Ls).take (((Ls).length) - (1))) ++ ([(((p2, y1, m2) : Sl), (((nthS c2 2).1, (nthS c2 2).2.1, (nthS c2 2).2.2) : Sl)), (((u2, b3, x2) : Sl), (((nthS c2 1).1, (nthS c2 1).2.1, (nthS c2 1).2.2) : Sl))])), by have := hnx.2; omega, ?_⟩
              refine ⟨((Ls).take (((Ls).length) - (1))) ++ ([(((p2, y1, m2) : Sl), (((nthS c2 2).1, (nthS c2 2).2.1, (nthS c2 2).2.2) : Sl)), (((u2, b3, x2) : Sl), (((nthS c2 1).1, (nthS c2 1).2.1, (nthS c2 1).2.2) : Sl))]), ((brE ((nthC Ls (((Ls).length) - (1))).2.2.2))), v2, q2, ?_⟩
              exact ⟨(o2.sub (rc rfl (rc rfl (rc rfl rnl)))), j3, h0, hnx.1, rfl⟩
             ·
              have j3 := z1.data (dAll [((n0, t0, u0) : Sl)]) (all_cons (z1.get (i := 8) rfl) all_nil)
              refine mbs [(0, .tmp 136)] [.slice n0 u0.length t0] (st_opV rfl (want_n rfl)) h3 j3 Tryd.underlying39 zi22 (fun z1 o2 q2 v2 m2 => ?_)
              have o2 := sWI m2 15 (pB 2 0 pn)
              refine ⟨o2, ?_⟩
              refine d1 3 ?_
              have o2 := m2.nf
              have m2 := own_cap (o2.res (i := 5) rfl)
              obtain ⟨z1, j3⟩ := o2.row_dataM (i := 5) rfl (j := 0) rfl (by decide)
              have o2 := z1.data (dRow 1 (some ⟨f2, 0, none⟩) 1 1 (encSs ([((n0, t0, u0) : Sl)]))) ⟨m2, j3⟩
              refine k_call (xs := [.const (.int .i64 8), .tmp 133]) (st_op rfl (want_n rfl)) v2 rfl rfl rfl (by decide) ok35 (vwith_calls _ _ o2.il 8 _ _ ([((n0, t0, u0) : Sl)]) (o2.g 18) (o2.g 16) (hl := (by simp)) (hb := (by simp [lsts]; omega))) ?_
              rintro v2 j3 ⟨z1, m2, f2, rfl, h3, y1, p2⟩
              have j3 := o2.below h3.below
              have h3 := o2.dN j3 y1
              refine ⟨_, rfl, fun j3 y1 => ?_⟩
              have hwa8 : f2 = u0 ++ [cN 8] := by rw [p2]; simp [lsts]
              have p2 := sWI h3 15 (pB 2 0 pn)
              refine ⟨p2, ?_⟩
              refine d1 7 ?_
              have p2 := h3.nf
              have h3 := own_cap (p2.res (i := 5) rfl)
              obtain ⟨j3, o2⟩ := p2.row_dataM (i := 5) rfl (j := 0) rfl (by decide)
              have p2 := j3.data (dRow 1 (some ⟨q2, 0, none⟩) 1 1 (encSs ([((n0, t0, u0) : Sl)]))) ⟨h3, o2⟩
              refine k_call (xs := [.const (.int .i64 9), .tmp 137]) (st_op rfl (want_n rfl)) y1 rfl rfl rfl (by decide) ok35 (vwith_calls _ _ p2.il 9 _ _ ([((n0, t0, u0) : Sl)]) (p2.g 20) (p2.g 17) (hl := (by simp)) (hb := (by simp [lsts]; omega))) ?_
              rintro y1 o2 ⟨j3, h3, q2, rfl, v2, x2, b3⟩
              have o2 := p2.below v2.below
              have v2 := p2.dN o2 x2
              refine ⟨_, rfl, fun o2 x2 => ?_⟩
              have hwa9 : q2 = u0 ++ [cN 9] := by rw [b3]; simp [lsts]
              obtain ⟨hfa1, hfa2, hfa3, hfa4⟩ := fs_made hga1 i3 hwa8 hwa9
              have b3 := sWI v2 15 (pB 2 0 pn)
              refine ⟨b3, ?_⟩
              refine d1 8 ?_
              have b3 := v2.data (dAll [((none, 0, []) : Sl), ((z1, m2, f2) : Sl), ((j3, h3, q2) : Sl)]) (all_cons ⟨Nat.le_refl _, RowI.nil _ _ _ _⟩ (all_cons (v2.get (i := 19) rfl) (all_cons (v2.get (i := 21) rfl) all_nil)))
              refine mbs [(0, .const (.slice none 0 0)), (1, .tmp 134), (2, .tmp 138)] [.slice none 0 0, .slice z1 f2.length m2, .slice j3 q2.length h3] (st_opV rfl (want_n rfl)) x2 b3 Tryd.underlying39 zi22 (fun v2 o2 p2 y1 u2 => ?_)
              have o2 := sWI u2 15 (pB 2 0 pn)
              refine ⟨o2, ?_⟩
              refine dtA 9 h2 y1 o2 (fun v2 b3 => ?_)
              refine wpAnyH_done (by kernel_rfl) (k3 _ _ ?_) _
              have v2 := own_cap (u2.res (i := 5) rfl)
              obtain ⟨o2, y1⟩ := u2.row_dataM (i := 5) rfl (j := 0) rfl (by decide)
              have u2 := o2.data (dRow 1 (some ⟨p2, 0, none⟩) 3 3 (encSs ([((none, 0, []) : Sl), ((z1, m2, f2) : Sl), ((j3, h3, q2) : Sl)]))) ⟨v2, y1⟩
              refine x_then_n (n2 _ _ ?_)
              refine wp_seq_k (fun y1 o2 => ?_)
              refine wsc (fun y1 v2 => ?_)
              refine m_field (j' := 0) sv b3 rfl rfl rfl Tryd.underlying32 rfl sz3 rfl rfl (by decide) (fun y1 p2 => ?_)
              refine m_load (i := 4) sv p2 u2 rfl rfl rfl rfl rfl Tryd.underlying3 rfl (by decide) (fun y1 b3 => ?_)
              refine r_neq sv b3 rfl rfl rfl rfl (by decide) (fun y1 p2 => ?_)
              refine wpList_nil (x_then_n (v2 _ _ ?_))
              have v2 := p2.setb (d := 142) (b := false) rfl (by rw [(decide_eq_true n3)]; rfl)
              refine wp_cond_false (v2.ev rfl) ?_
              refine wp_skip ?_
              refine x_then_n (o2 _ _ ?_)
              refine wp_seq_k (fun o2 p2 => ?_)
              obtain ⟨o2, y1, b3⟩ := u2.agree
              refine d_reg3 (n := 18) b3 24 pn (pan_then (pan_block (pan_then (pan_block (pan_then (pan_block (pan_then (pan_scope pan_body)))))))) (fun o2 u2 x2 m3 z2 p3 => ?_)
              refine dtM 0 u2 v2 p3 (fun m3 o2 => ?_)
              refine dtM 1 u2 o2 p3 (fun m3 v2 => ?_)
              refine dt 2 rfl u2 v2 (want_n rfl) (fun x hx => m_index (i := 2) (j := 2 * 1) (sy v2) v2 rfl rfl rfl rfl Tryd.underlying39 sz22 (by omega) (by simp) (ss_elem (t := [((none, 0, []) : Sl), ((z1, m2, f2) : Sl), ((j3, h3, q2) : Sl)]) (k := 2) (sdat (y1 23 _ rfl) hx.ag).2 (by simp)).some_ rfl (by decide) gt) p3 (fun m3 o2 => ?_)
              refine dt 3 rfl u2 o2 (want_n rfl) (fun x hx => m_loadE (sy o2) o2 rfl rfl rfl 0 (2 * 1) (ss_elem (t := [((none, 0, []) : Sl), ((z1, m2, f2) : Sl), ((j3, h3, q2) : Sl)]) (k := 2) (sdat (y1 23 _ rfl) hx.ag).2 (by simp)) rfl rfl Tryd.underlying22 rfl (by decide) gt) p3 (fun m3 v2 => ?_)
              refine dtM 4 u2 v2 p3 (fun m3 o2 => ?_)
              refine dt 5 rfl u2 o2 (want_n rfl) (fun x hx => m_index (i := 2) (j := 2 * 1) (sy o2) o2 rfl rfl rfl rfl Tryd.underlying39 sz22 (by omega) (by omega) (ss_elem (t := c2) (k := 2) (sdat (y1 13 _ rfl) hx.ag).2 (by omega)).some_ rfl (by decide) gt) p3 (fun m3 v2 => ?_)
              refine dt 6 rfl u2 v2 (want_n rfl) (fun x hx => m_loadE (sy v2) v2 rfl rfl rfl 0 (2 * 1) (ss_elem (t := c2) (k := 2) (sdat (y1 13 _ rfl) hx.ag).2 (by omega)) rfl rfl Tryd.underlying22 rfl (by decide) gt) p3 (fun m3 o2 => ?_)
              have m3 := z2.data (dRow 4 ((nthS c2 2).1) ((nthS c2 2).2.2.length) ((nthS c2 2).2.1) (encNs ((nthS c2 2).2.2))) (all_at (t := c2) (k := 2) (z2.get (i := 14) rfl) (by omega))
              refine dt 7 rfl u2 o2 (want_n rfl) (fun x hx => m_build (ps := [(0, .tmp 155), (1, .tmp 158)]) (v := .agg #[.slice j3 q2.length h3, .slice ((nthS c2 2).1) ((nthS c2 2).2.2.length) ((nthS c2 2).2.1)]) (sy o2) o2 rfl rfl rfl (fun _ => by kernel_rfl) (by decide) gt) p3 (fun z2 v2 => ?_)
              refine dtM 8 u2 v2 p3 (fun z2 o2 => ?_)
              refine dt 9 rfl u2 o2 (want_n rfl) (fun x hx => m_index (i := 1) (j := 1 * 1) (sy o2) o2 rfl rfl rfl rfl Tryd.underlying39 sz22 (by omega) (by simp) (ss_elem (t := [((none, 0, []) : Sl), ((z1, m2, f2) : Sl), ((j3, h3, q2) : Sl)]) (k := 1) (sdat (y1 23 _ rfl) hx.ag).2 (by simp)).some_ rfl (by decide) gt) p3 (fun z2 v2 => ?_)
              refine dt 10 rfl u2 v2 (want_n rfl) (fun x hx => m_loadE (sy v2) v2 rfl rfl rfl 0 (1 * 1) (ss_elem (t := [((none, 0, []) : Sl), ((z1, m2, f2) : Sl), ((j3, h3, q2) : Sl)]) (k := 1) (sdat (y1 23 _ rfl) hx.ag).2 (by simp)) rfl rfl Tryd.underlying22 rfl (by decide) gt) p3 (fun z2 o2 => ?_)
              refine dtM 11 u2 o2 p3 (fun z2 v2 => ?_)
              refine dt 12 rfl u2 v2 (want_n rfl) (fun x hx => m_index (i := 1) (j := 1 * 1) (sy v2) v2 rfl rfl rfl rfl Tryd.underlying39 sz22 (by omega) (by omega) (ss_elem (t := c2) (k := 1) (sdat (y1 13 _ rfl) hx.ag).2 (by omega)).some_ rfl (by decide) gt) p3 (fun z2 o2 => ?_)
              refine dt 13 rfl u2 o2 (want_n rfl) (fun x hx => m_loadE (sy o2) o2 rfl rfl rfl 0 (1 * 1) (ss_elem (t := c2) (k := 1) (sdat (y1 13 _ rfl) hx.ag).2 (by omega)) rfl rfl Tryd.underlying22 rfl (by decide) gt) p3 (fun z2 v2 => ?_)
              have z2 := m3.data (dRow 4 ((nthS c2 1).1) ((nthS c2 1).2.2.length) ((nthS c2 1).2.1) (encNs ((nthS c2 1).2.2))) (all_at (t := c2) (k := 1) (m3.get (i := 14) rfl) (by omega))
              refine dt 14 rfl u2 v2 (want_n rfl) (fun x hx => m_build (ps := [(0, .tmp 162), (1, .tmp 165)]) (v := .agg #[.slice z1 f2.length m2, .slice ((nthS c2 1).1) ((nthS c2 1).2.2.length) ((nthS c2 1).2.1)]) (sy v2) v2 rfl rfl rfl (fun _ => by kernel_rfl) (by decide) gt) p3 (fun m3 o2 => ?_)
              refine d1 15 ?_
              have m3 := z2.data (dAllC [(((j3, h3, q2) : Sl), (((nthS c2 2).1, (nthS c2 2).2.1, (nthS c2 2).2.2) : Sl)), (((z1, m2, f2) : Sl), (((nthS c2 1).1, (nthS c2 1).2.1, (nthS c2 1).2.2) : Sl))]) (allC_cons (z2.get (i := 21) rfl) (z2.get (i := 25) rfl) (allC_cons (z2.get (i := 19) rfl) (z2.get (i := 26) rfl) allC_nil))
              refine mbs [(0, .tmp 159), (1, .tmp 166)] [.slice j3 q2.length h3, .slice ((nthS c2 2).1) ((nthS c2 2).2.2.length) ((nthS c2 2).2.1), .slice z1 f2.length m2, .slice ((nthS c2 1).1) ((nthS c2 1).2.2.length) ((nthS c2 1).2.1)] (st_opV rfl (want_n rfl)) o2 m3 Tryd.underlying67 zi66 (fun z2 v2 p3 y1 b3 => ?_)
              have p3 := sWI b3 24 pn
              refine ⟨p3, ?_⟩
              refine d1 16 ?_
              refine m_appendF (f := encC) (i := 1) ((Ls).take (((Ls).length) - (1))) ([(((j3, h3, q2) : Sl), (((nthS c2 2).1, (nthS c2 2).2.1, (nthS c2 2).2.2) : Sl)), (((z1, m2, f2) : Sl), (((nthS c2 1).1, (nthS c2 1).2.1, (nthS c2 1).2.2) : Sl))]) (st_opV rfl (want_n rfl)) y1 b3 rfl rfl rfl rfl rfl encC_len (encC_one _) Tryd.underlying67 zi66 rfl rfl (own_lnews (f := encC) (b3.res (i := 5) rfl)) rfl (by first | omega | (simp only [List.length_cons, List.length_nil]; omega)) (by decide) (fun p3 v2 z2 m3 o2 d3 k2 => ?_)
              have o2 : (((Ls).take (((Ls).length) - (1))) ++ ([(((j3, h3, q2) : Sl), (((nthS c2 2).1, (nthS c2 2).2.1, (nthS c2 2).2.2) : Sl)), (((z1, m2, f2) : Sl), (((nthS c2 1).1, (nthS c2 1).2.1, (nthS c2 1).2.2) : Sl))]) : List Cp).length = ((Ls).take (((Ls).length) - (1))).length + 2 := by first | (simp only [List.length_append, List.length_take, List.length_cons, List.length_nil]; done) | (simp only [List.length_append, List.length_take, List.length_cons, List.length_nil]; omega)
              have o2 := k2.erase 5
              have k2 := o2.data (dAllC (((Ls).take (((Ls).length) - (1))) ++ ([(((j3, h3, q2) : Sl), (((nthS c2 2).1, (nthS c2 2).2.1, (nthS c2 2).2.2) : Sl)), (((z1, m2, f2) : Sl), (((nthS c2 1).1, (nthS c2 1).2.1, (nthS c2 1).2.2) : Sl))]))) (allC_append (o2.get (i := 7) rfl) (o2.get (i := 27) rfl))
              have o2 := sWI k2 24 pn
              refine ⟨o2, ?_⟩
              refine dtA 17 u2 d3 o2 (fun v2 p3 => ?_)
              refine wpAnyH_done (by kernel_rfl) (x2 _ _ ?_) _
              refine x_then_n (p2 _ _ ?_)
              refine wp_exit ?_
              refine x_block_e rfl ?_
              refine x_then_e ?_
              refine x_block_eq ?_
              have hnx : CInv (treeOf a) (treeOf b) (bn + 1) (((Ls).take (((Ls).length) - (1))) ++ ([(((j3, h3, q2) : Sl), (((nthS c2 2).1, (nthS c2 2).2.1, (nthS c2 2).2.2) : Sl)), (((z1, m2, f2) : Sl), (((nthS c2 1).1, (nthS c2 1).2.1, (nthS c2 1).2.2) : Sl))])) ∧ wgt (((Ls).take (((Ls).length) - (1))) ++ ([(((j3, h3, q2) : Sl), (((nthS c2 2).1, (nthS c2 2).2.1, (nthS c2 2).2.2) : Sl)), (((z1, m2, f2) : Sl), (((nthS c2 1).1, (nthS c2 1).2.1, (nthS c2 1).2.2) : Sl))])) < wgt Ls := hinv.pair f0 hcb z0 k1 d0 x1 (.inr n3) ⟨hfa2, hfa4⟩ ⟨hfb2, hfb4⟩ ⟨hfa1, hfa3⟩ ⟨hfb1, hfb3⟩
              have p2 := k2.erase 4
              have k2 := p2.erase 3
              have p2 := k2.erase 2
              have k2 := p2.forget 27
              have p2 := k2.forget 26
              have k2 := p2.forget 25
              have p2 := k2.forget 24
              have k2 := p2.forget 23
              have p2 := k2.forget 22
              have k2 := p2.forget 21
              have p2 := k2.forget 20
              have k2 := p2.forget 19
              have p2 := k2.forget 18
              have k2 := p2.forget 17
              have p2 := k2.forget 16
              have k2 := p2.forget 15
              have p2 := k2.forget 14
              have k2 := p2.forget 13
              have p2 := k2.forget 12
              have k2 := p2.forget 11
              have p2 := k2.forget 10
              have k2 := p2.forget 9
              have p2 := k2.forget 8
              have k2 := p2.forget 7
              have p2 := k2.forget 6
              have k2 := p2.forget 5
              have p2 := k2.forget 4
              have k2 := (p2).nf
              refine ⟨wgt (((Ls).take (((Ls).length) - (1))) ++ ([(((j3, h3, q2) : Sl), (((nthS c2 2).1, (nthS c2 2).2.1, (nthS c2 2).2.2) : Sl)), (((z1, m2, f2) : Sl), (((nthS c2 1).1, (nthS c2 1).2.1, (nthS c2 1).2.2) : Sl))])), by have := hnx.2; omega, ?_⟩
              refine ⟨((Ls).take (((Ls).length) - (1))) ++ ([(((j3, h3, q2) : Sl), (((nthS c2 2).1, (nthS c2 2).2.1, (nthS c2 2).2.2) : Sl)), (((z1, m2, f2) : Sl), (((nthS c2 1).1, (nthS c2 1).2.1, (nthS c2 1).2.2) : Sl))]), ((brE ((nthC Ls (((Ls).length) - (1))).2.2.2))), z2, m3, ?_⟩
              exact ⟨(p3.sub (rc rfl (rc rfl (rc rfl rnl)))), k2, h0, hnx.1, rfl⟩
            ·
             have k2 := t2.data (dAll [((n0, t0, u0) : Sl)]) (all_cons (t2.get (i := 8) rfl) all_nil)
             refine mbs [(0, .tmp 136)] [.slice n0 u0.length t0] (st_opV rfl (want_n rfl)) y2 k2 Tryd.underlying39 zi22 (fun t2 p3 m3 z2 q2 => ?_)
             have p3 := sWI q2 15 (pB 2 0 pn)
             refine ⟨p3, ?_⟩
             refine d1 2 ?_
             have p3 := q2.data (dAll [((n0, t0, u0) : Sl)]) (all_cons (q2.get (i := 8) rfl) all_nil)
             refine mbs [(0, .tmp 132)] [.slice n0 u0.length t0] (st_opV rfl (want_n rfl)) z2 p3 Tryd.underlying39 zi22 (fun q2 t2 k2 y2 h3 => ?_)
             have t2 := sWI h3 15 (pB 2 0 pn)
             refine ⟨t2, ?_⟩
             refine d1 3 ?_
             have t2 := h3.nf
             have h3 := own_cap (t2.res (i := 6) rfl)
             obtain ⟨q2, p3⟩ := t2.row_dataM (i := 6) rfl (j := 0) rfl (by decide)
             have t2 := q2.data (dRow 1 (some ⟨k2, 0, none⟩) 1 1 (encSs ([((n0, t0, u0) : Sl)]))) ⟨h3, p3⟩
             refine k_call (xs := [.const (.int .i64 8), .tmp 133]) (st_op rfl (want_n rfl)) y2 rfl rfl rfl (by decide) ok35 (vwith_calls _ _ t2.il 8 _ _ ([((n0, t0, u0) : Sl)]) (t2.g 18) (t2.g 17) (hl := (by simp)) (hb := (by simp [lsts]; omega))) ?_
             rintro y2 p3 ⟨q2, h3, k2, rfl, z2, j3, f2⟩
             have p3 := t2.below z2.below
             have z2 := t2.dN p3 j3
             refine ⟨_, rfl, fun p3 j3 => ?_⟩
             have hwa8 : k2 = u0 ++ [cN 8] := by rw [f2]; simp [lsts]
             have f2 := sWI z2 15 (pB 2 0 pn)
             refine ⟨f2, ?_⟩
             refine d1 7 ?_
             have f2 := z2.nf
             have z2 := own_cap (f2.res (i := 5) rfl)
             obtain ⟨p3, t2⟩ := f2.row_dataM (i := 5) rfl (j := 0) rfl (by decide)
             have f2 := p3.data (dRow 1 (some ⟨m3, 0, none⟩) 1 1 (encSs ([((n0, t0, u0) : Sl)]))) ⟨z2, t2⟩
             refine k_call (xs := [.const (.int .i64 9), .tmp 137]) (st_op rfl (want_n rfl)) j3 rfl rfl rfl (by decide) ok35 (vwith_calls _ _ f2.il 9 _ _ ([((n0, t0, u0) : Sl)]) (f2.g 20) (f2.g 16) (hl := (by simp)) (hb := (by simp [lsts]; omega))) ?_
             rintro j3 t2 ⟨p3, z2, m3, rfl, y2, m2, z1⟩
             have t2 := f2.below y2.below
             have y2 := f2.dN t2 m2
             refine ⟨_, rfl, fun t2 m2 => ?_⟩
             have hwa9 : m3 = u0 ++ [cN 9] := by rw [z1]; simp [lsts]
             obtain ⟨hfa1, hfa2, hfa3, hfa4⟩ := fs_made hga1 i3 hwa8 hwa9
             have z1 := sWI y2 15 (pB 2 0 pn)
             refine ⟨z1, ?_⟩
             refine d1 8 ?_
             have z1 := y2.data (dAll [((none, 0, []) : Sl), ((q2, h3, k2) : Sl), ((p3, z2, m3) : Sl)]) (all_cons ⟨Nat.le_refl _, RowI.nil _ _ _ _⟩ (all_cons (y2.get (i := 19) rfl) (all_cons (y2.get (i := 21) rfl) all_nil)))
             refine mbs [(0, .const (.slice none 0 0)), (1, .tmp 134), (2, .tmp 138)] [.slice none 0 0, .slice q2 k2.length h3, .slice p3 m3.length z2] (st_opV rfl (want_n rfl)) m2 z1 Tryd.underlying39 zi22 (fun y2 t2 f2 j3 p2 => ?_)
             have t2 := sWI p2 15 (pB 2 0 pn)
             refine ⟨t2, ?_⟩
             refine dtA 9 h2 j3 t2 (fun y2 z1 => ?_)
             refine wpAnyH_done (by kernel_rfl) (k3 _ _ ?_) _
             have k3 := own_cap (p2.res (i := 5) rfl)
             obtain ⟨y2, t2⟩ := p2.row_dataM (i := 5) rfl (j := 0) rfl (by decide)
             have p2 := y2.data (dRow 1 (some ⟨f2, 0, none⟩) 3 3 (encSs ([((none, 0, []) : Sl), ((q2, h3, k2) : Sl), ((p3, z2, m3) : Sl)]))) ⟨k3, t2⟩
             refine x_then_n (n2 _ _ ?_)
             refine wp_seq_k (fun n2 t2 => ?_)
             refine wsc (fun n2 y2 => ?_)
             refine m_field (j' := 0) sv z1 rfl rfl rfl Tryd.underlying32 rfl sz3 rfl rfl (by decide) (fun n2 k3 => ?_)
             refine m_load (i := 4) sv k3 p2 rfl rfl rfl rfl rfl Tryd.underlying3 rfl (by decide) (fun n2 z1 => ?_)
             refine r_neq sv z1 rfl rfl rfl rfl (by decide) (fun n2 k3 => ?_)
             refine wpList_nil (x_then_n (y2 _ _ ?_))
             have y2 := k3.setb (d := 142) (b := false) rfl (by rw [(decide_eq_true n3)]; rfl)
             refine wp_cond_false (y2.ev rfl) ?_
             refine wp_skip ?_
             refine x_then_n (t2 _ _ ?_)
             refine wp_seq_k (fun t2 k3 => ?_)
             obtain ⟨t2, n2, z1⟩ := p2.agree
             refine d_reg3 (n := 18) z1 24 pn (pan_then (pan_block (pan_then (pan_block (pan_then (pan_block (pan_then (pan_scope pan_body)))))))) (fun t2 p2 f2 j3 h2 m2 => ?_)
             refine dtM 0 p2 y2 m2 (fun j3 t2 => ?_)
             refine dtM 1 p2 t2 m2 (fun j3 y2 => ?_)
             refine dt 2 rfl p2 y2 (want_n rfl) (fun x hx => m_index (i := 2) (j := 2 * 1) (sy y2) y2 rfl rfl rfl rfl Tryd.underlying39 sz22 (by omega) (by simp) (ss_elem (t := [((none, 0, []) : Sl), ((q2, h3, k2) : Sl), ((p3, z2, m3) : Sl)]) (k := 2) (sdat (n2 23 _ rfl) hx.ag).2 (by simp)).some_ rfl (by decide) gt) m2 (fun j3 t2 => ?_)
             refine dt 3 rfl p2 t2 (want_n rfl) (fun x hx => m_loadE (sy t2) t2 rfl rfl rfl 0 (2 * 1) (ss_elem (t := [((none, 0, []) : Sl), ((q2, h3, k2) : Sl), ((p3, z2, m3) : Sl)]) (k := 2) (sdat (n2 23 _ rfl) hx.ag).2 (by simp)) rfl rfl Tryd.underlying22 rfl (by decide) gt) m2 (fun j3 y2 => ?_)
             refine dtM 4 p2 y2 m2 (fun j3 t2 => ?_)
             refine dt 5 rfl p2 t2 (want_n rfl) (fun x hx => m_index (i := 2) (j := 2 * 1) (sy t2) t2 rfl rfl rfl rfl Tryd.underlying39 sz22 (by omega) (by omega) (ss_elem (t := c2) (k := 2) (sdat (n2 13 _ rfl) hx.ag).2 (by omega)).some_ rfl (by decide) gt) m2 (fun j3 y2 => ?_)
             refine dt 6 rfl p2 y2 (want_n rfl) (fun x hx => m_loadE (sy y2) y2 rfl rfl rfl 0 (2 * 1) (ss_elem (t := c2) (k := 2) (sdat (n2 13 _ rfl) hx.ag).2 (by omega)) rfl rfl Tryd.underlying22 rfl (by decide) gt) m2 (fun j3 t2 => ?_)
             have j3 := h2.data (dRow 4 ((nthS c2 2).1) ((nthS c2 2).2.2.length) ((nthS c2 2).2.1) (encNs ((nthS c2 2).2.2))) (all_at (t := c2) (k := 2) (h2.get (i := 14) rfl) (by omega))
             refine dt 7 rfl p2 t2 (want_n rfl) (fun x hx => m_build (ps := [(0, .tmp 155), (1, .tmp 158)]) (v := .agg #[.slice p3 m3.length z2, .slice ((nthS c2 2).1) ((nthS c2 2).2.2.length) ((nthS c2 2).2.1)]) (sy t2) t2 rfl rfl rfl (fun _ => by kernel_rfl) (by decide) gt) m2 (fun h2 y2 => ?_)
             refine dtM 8 p2 y2 m2 (fun h2 t2 => ?_)
             refine dt 9 rfl p2 t2 (want_n rfl) (fun x hx => m_index (i := 1) (j := 1 * 1) (sy t2) t2 rfl rfl rfl rfl Tryd.underlying39 sz22 (by omega) (by simp) (ss_elem (t := [((none, 0, []) : Sl), ((q2, h3, k2) : Sl), ((p3, z2, m3) : Sl)]) (k := 1) (sdat (n2 23 _ rfl) hx.ag).2 (by simp)).some_ rfl (by decide) gt) m2 (fun h2 y2 => ?_)
             refine dt 10 rfl p2 y2 (want_n rfl) (fun x hx => m_loadE (sy y2) y2 rfl rfl rfl 0 (1 * 1) (ss_elem (t := [((none, 0, []) : Sl), ((q2, h3, k2) : Sl), ((p3, z2, m3) : Sl)]) (k := 1) (sdat (n2 23 _ rfl) hx.ag).2 (by simp)) rfl rfl Tryd.underlying22 rfl (by decide) gt) m2 (fun h2 t2 => ?_)
             refine dtM 11 p2 t2 m2 (fun h2 y2 => ?_)
             refine dt 12 rfl p2 y2 (want_n rfl) (fun x hx => m_index (i := 1) (j := 1 * 1) (sy y2) y2 rfl rfl rfl rfl Tryd.underlying39 sz22 (by omega) (by omega) (ss_elem (t := c2) (k := 1) (sdat (n2 13 _ rfl) hx.ag).2 (by omega)).some_ rfl (by decide) gt) m2 (fun h2 t2 => ?_)
             refine dt 13 rfl p2 t2 (want_n rfl) (fun x hx => m_loadE (sy t2) t2 rfl rfl rfl 0 (1 * 1) (ss_elem (t := c2) (k := 1) (sdat (n2 13 _ rfl) hx.ag).2 (by omega)) rfl rfl Tryd.underlying22 rfl (by decide) gt) m2 (fun h2 y2 => ?_)
             have h2 := j3.data (dRow 4 ((nthS c2 1).1) ((nthS c2 1).2.2.length) ((nthS c2 1).2.1) (encNs ((nthS c2 1).2.2))) (all_at (t := c2) (k := 1) (j3.get (i := 14) rfl) (by omega))
             refine dt 14 rfl p2 y2 (want_n rfl) (fun x hx => m_build (ps := [(0, .tmp 162), (1, .tmp 165)]) (v := .agg #[.slice q2 k2.length h3, .slice ((nthS c2 1).1) ((nthS c2 1).2.2.length) ((nthS c2 1).2.1)]) (sy y2) y2 rfl rfl rfl (fun _ => by kernel_rfl) (by decide) gt) m2 (fun j3 t2 => ?_)
             refine d1 15 ?_
             have j3 := h2.data (dAllC [(((p3, z2, m3) : Sl), (((nthS c2 2).1, (nthS c2 2).2.1, (nthS c2 2).2.2) : Sl)), (((q2, h3, k2) : Sl), (((nthS c2 1).1, (nthS c2 1).2.1, (nthS c2 1).2.2) : Sl))]) (allC_cons (h2.get (i := 21) rfl) (h2.get (i := 25) rfl) (allC_cons (h2.get (i := 19) rfl) (h2.get (i := 26) rfl) allC_nil))
             refine mbs [(0, .tmp 159), (1, .tmp 166)] [.slice p3 m3.length z2, .slice ((nthS c2 2).1) ((nthS c2 2).2.2.length) ((nthS c2 2).2.1), .slice q2 k2.length h3, .slice ((nthS c2 1).1) ((nthS c2 1).2.2.length) ((nthS c2 1).2.1)] (st_opV rfl (want_n rfl)) t2 j3 Tryd.underlying67 zi66 (fun h2 y2 m2 n2 z1 => ?_)
             have m2 := sWI z1 24 pn
             refine ⟨m2, ?_⟩
             refine d1 16 ?_
             refine m_appendF (f := encC) (i := 1) ((Ls).take (((Ls).length) - (1))) ([(((p3, z2, m3) : Sl), (((nthS c2 2).1, (nthS c2 2).2.1, (nthS c2 2).2.2) : Sl)), (((q2, h3, k2) : Sl), (((nthS c2 1).1, (nthS c2 1).2.1, (nthS c2 1).2.2) : Sl))]) (st_opV rfl (want_n rfl)) n2 z1 rfl rfl rfl rfl rfl encC_len (encC_one _) Tryd.underlying67 zi66 rfl rfl (own_lnews (f := encC) (z1.res (i := 5) rfl)) rfl (by first | omega | (simp only [List.length_cons, List.length_nil]; omega)) (by decide) (fun m2 y2 h2 j3 t2 x2 v2 => ?_)
             have t2 : (((Ls).take (((Ls).length) - (1))) ++ ([(((p3, z2, m3) : Sl), (((nthS c2 2).1, (nthS c2 2).2.1, (nthS c2 2).2.2) : Sl)), (((q2, h3, k2) : Sl), (((nthS c2 1).1, (nthS c2 1).2.1, (nthS c2 1).2.2) : Sl))]) : List Cp).length = ((Ls).take (((Ls).length) - (1))).length + 2 := by first | (simp only [List.length_append, List.length_take, List.length_cons, List.length_nil]; done) | (simp only [List.length_append, List.length_take, List.length_cons, List.length_nil]; omega)
             have t2 := v2.erase 5
             have v2 := t2.data (dAllC (((Ls).take (((Ls).length) - (1))) ++ ([(((p3, z2, m3) : Sl), (((nthS c2 2).1, (nthS c2 2).2.1, (nthS c2 2).2.2) : Sl)), (((q2, h3, k2) : Sl), (((nthS c2 1).1, (nthS c2 1).2.1, (nthS c2 1).2.2) : Sl))]))) (allC_append (t2.get (i := 7) rfl) (t2.get (i := 27) rfl))
             have t2 := sWI v2 24 pn
             refine ⟨t2, ?_⟩
             refine dtA 17 p2 x2 t2 (fun y2 m2 => ?_)
             refine wpAnyH_done (by kernel_rfl) (f2 _ _ ?_) _
             refine x_then_n (k3 _ _ ?_)
             refine wp_exit ?_
             refine x_block_e rfl ?_
             refine x_then_e ?_
             refine x_block_eq ?_
             have hnx : CInv (treeOf a) (treeOf b) (bn + 1) (((Ls).take (((Ls).length) - (1))) ++ ([(((p3, z2, m3) : Sl), (((nthS c2 2).1, (nthS c2 2).2.1, (nthS c2 2).2.2) : Sl)), (((q2, h3, k2) : Sl), (((nthS c2 1).1, (nthS c2 1).2.1, (nthS c2 1).2.2) : Sl))])) ∧ wgt (((Ls).take (((Ls).length) - (1))) ++ ([(((p3, z2, m3) : Sl), (((nthS c2 2).1, (nthS c2 2).2.1, (nthS c2 2).2.2) : Sl)), (((q2, h3, k2) : Sl), (((nthS c2 1).1, (nthS c2 1).2.1, (nthS c2 1).2.2) : Sl))])) < wgt Ls := hinv.pair f0 hcb z0 k1 d0 x1 (.inr n3) ⟨hfa2, hfa4⟩ ⟨hfb2, hfb4⟩ ⟨hfa1, hfa3⟩ ⟨hfb1, hfb3⟩
             have k3 := v2.erase 4
             have v2 := k3.erase 3
             have k3 := v2.erase 2
             have v2 := k3.forget 27
             have k3 := v2.forget 26
             have v2 := k3.forget 25
             have k3 := v2.forget 24
             have v2 := k3.forget 23
             have k3 := v2.forget 22
             have v2 := k3.forget 21
             have k3 := v2.forget 20
             have v2 := k3.forget 19
             have k3 := v2.forget 18
             have v2 := k3.forget 17
             have k3 := v2.forget 16
             have v2 := k3.forget 15
             have k3 := v2.forget 14
             have v2 := k3.forget 13
             have k3 := v2.forget 12
             have v2 := k3.forget 11
             have k3 := v2.forget 10
             have v2 := k3.forget 9
             have k3 := v2.forget 8
             have v2 := k3.forget 7
             have k3 := v2.forget 6
             have v2 := k3.forget 5
             have k3 := v2.forget 4
             have v2 := (k3).nf
             refine ⟨wgt (((Ls).take (((Ls).length) - (1))) ++ ([(((p3, z2, m3) : Sl), (((nthS c2 2).1, (nthS c2 2).2.1, (nthS c2 2).2.2) : Sl)), (((q2, h3, k2) : Sl), (((nthS c2 1).1, (nthS c2 1).2.1, (nthS c2 1).2.2) : Sl))])), by have := hnx.2; omega, ?_⟩
             refine ⟨((Ls).take (((Ls).length) - (1))) ++ ([(((p3, z2, m3) : Sl), (((nthS c2 2).1, (nthS c2 2).2.1, (nthS c2 2).2.2) : Sl)), (((q2, h3, k2) : Sl), (((nthS c2 1).1, (nthS c2 1).2.1, (nthS c2 1).2.2) : Sl))]), ((brE ((nthC Ls (((Ls).length) - (1))).2.2.2))), h2, j3, ?_⟩
             exact ⟨(m2.sub (rc rfl (rc rfl (rc rfl rnl)))), v2, h0, hnx.1, rfl⟩
           ·
            have v2 := f3.setb (d := 119) (b := false) rfl (decide_eq_false n3)
            refine wp_cond_false (v2.ev rfl) ?_
            refine wsc (fun f3 m2 => ?_)
            refine m_loadN (i := 3) (vs := [.int .i64 (((nth u0 (u0.length - 1)).K)), .int .i64 (((nth u0 (u0.length - 1)).N)), .int .i64 (((nth u0 (u0.length - 1)).M)), .string ((nth u0 (u0.length - 1)).S)]) sv v2 v1 rfl rfl rfl rfl rfl Tryd.underlying32 rfl sz32 (by decide) (fun f3 j3 => ?_)
            refine m_loadN (i := 4) (vs := [.int .i64 (((nth u1 (u1.length - 1)).K)), .int .i64 (((nth u1 (u1.length - 1)).N)), .int .i64 (((nth u1 (u1.length - 1)).M)), .string ((nth u1 (u1.length - 1)).S)]) sv j3 v1 rfl rfl rfl rfl rfl Tryd.underlying32 rfl sz32 (by decide) (fun f3 v2 => ?_)
            refine r_neqN (m := (nth u0 (u0.length - 1))) (n := (nth u1 (u1.length - 1))) sv v2 rfl rfl rfl rfl (by decide) (fun f3 j3 => ?_)
            refine asg j3 (fun f3 v2 => ?_)
            refine wpList_nil (x_then_n (m2 _ _ ?_))
            rcases Decidable.em ((nth u0 (u0.length - 1)) = (nth u1 (u1.length - 1))) with m2 | m2
            ·
             have hmn := m2
             obtain ⟨hps1, hps2, hps3⟩ := parts_same hga1 hgb1 f1 j2 hmn
             have f3 := v2.setb (d := 169) (b := false) rfl (by rw [(decide_eq_true m2)]; rfl)
             refine wp_cond_false (f3.ev rfl) ?_
             refine wp_skip ?_
             refine x_block_n ?_
             refine x_then_n (h1 _ _ ?_)
             refine wsc (fun h1 j3 => ?_)
             refine mv f3 (fun h1 h2 => ?_)
             refine r_len sv h2 rfl rfl rfl rfl Tryd.underlying39 (by decide) (fun h1 f3 => ?_)
             refine r_sub (z := (((b2.length : Nat) : Int) - 1)) sv f3 rfl rfl rfl rfl (by decide) (by omega) (by omega) (by omega) (fun h1 h2 => ?_)
             refine asg h2 (fun h1 f3 => ?_)
             refine wpList_nil (x_then_n (j3 _ _ ?_))
             refine wp_block ?_
             refine wp_loop_ghost (fun gn ga gw => ∃ i : Nat, ∃ Ks : List Cp, ∃ Lr : List Cp, ∃ Ai : Option Addr, ∃ ci : Nat, (Reg ga 202 [(1000000, .bool false), (0, .pointer (some ⟨cg, 0, none⟩)), (9, .pointer (some ⟨i1, 0, none⟩)), (11, .slice n1 b2.length m1), (12, .slice d2 c2.length j1), (14, .int .i64 (((i : Nat) : Int) - 1)), (7, .slice Ai ((Lr).length) ci)]) ∧ (St w0 Z (· = cg) gw [.box cg 55 [.map (some cb), .int .i64 ((brE ((nthC Ls (((Ls).length) - (1))).2.2.2)))], .row Ai ((Lr).length) ci 66 2 (encCs Lr), .box o0 66 [.slice n0 u0.length t0, .slice t1 u1.length p1], .box i1 32 [.int .i64 (((nth u0 (u0.length - 1)).K)), .int .i64 (((nth u0 (u0.length - 1)).N)), .int .i64 (((nth u0 (u0.length - 1)).M)), .string ((nth u0 (u0.length - 1)).S)], .box c1 32 [.int .i64 (((nth u1 (u1.length - 1)).K)), .int .i64 (((nth u1 (u1.length - 1)).N)), .int .i64 (((nth u1 (u1.length - 1)).M)), .string ((nth u1 (u1.length - 1)).S)]] [dShapes, dIdle cb cq, dRow 4 aA a.length ac (encNs a), dRow 4 bA b.length bc (encNs b), dAllC Ls, dRow 4 ((nthC Ls (((Ls).length) - (1))).1.1) ((nthC Ls (((Ls).length) - (1))).1.2.2.length) ((nthC Ls (((Ls).length) - (1))).1.2.1) (encNs ((nthC Ls (((Ls).length) - (1))).1.2.2)), dRow 4 ((nthC Ls (((Ls).length) - (1))).2.1) ((nthC Ls (((Ls).length) - (1))).2.2.2.length) ((nthC Ls (((Ls).length) - (1))).2.2.1) (encNs ((nthC Ls (((Ls).length) - (1))).2.2.2)), dAllC Lr, dRow 4 n0 u0.length t0 (encNs u0), dRow 4 t1 u1.length p1 (encNs u1), dAg s1 x0, dRow 1 n1 b2.length m1 (encSs b2), dAll b2, dRow 1 d2 c2.length j1 (encSs c2), dAll c2]) ∧ (i ≤ b2.length) ∧ (Lr = ((Ls).take (((Ls).length) - (1))) ++ Ks) ∧ (Ks.reverse.map trC = kidsF (treeOf u0) (treeOf u1) i) ∧ (∀ y ∈ Ks, goC y) ∧ (Ks.length + i ≤ b2.length) ∧ (i) = gn) _ ⟨b2.length, [], (Ls).take (((Ls).length) - (1)), Al, cl, (f3.sub (rc rfl (rc rfl (rc rfl (rc rfl (rc rfl (rc rfl (rc rfl rnl)))))))), v1, Nat.le_refl _, (List.append_nil _).symm, (by rw [hps3, kids_end]; rfl), (by intro y hy; cases hy), (by simp), rfl⟩ ?_
             rintro f3 j1 d2 ⟨i, Ks, Lr, Ai, ci, m1, n1, hi, hLr, hKs, hKo, hKl, x0⟩
             have hLrl := congrArg List.length hLr
             rw [List.length_append, List.length_take] at hLrl
             refine wp_seq_k (fun x0 d2 => ?_)
             refine wsc (fun x0 j1 => ?_)
             refine mv m1 (fun x0 f3 => ?_)
             refine r_geq sv f3 rfl rfl rfl rfl (by decide) (fun x0 m1 => ?_)
             refine wpList_nil (x_then_n (j1 _ _ ?_))
             rcases Decidable.em (0 ≤ (((i : Nat) : Int) - 1)) with j1 | j1
             ·
              have x0 := m1.setb (d := 177) (b := true) rfl (decide_eq_true j1)
              refine wp_cond_true (x0.ev rfl) ?_
              refine wp_skip ?_
              refine x_then_n (d2 _ _ ?_)
              refine wp_seq_k (fun d2 f3 => ?_)
              refine wp_block ?_
              refine wp_seq_k (fun d2 s1 => ?_)
              obtain ⟨d2, u1, p1⟩ := n1.agree
              refine d_reg3 (n := 10) p1 15 (pB 0 0 (pB 3 0 pn)) (pan_then (pan_block (pan_then (pan_then (pan_block (pan_block (pan_then (pan_block (pan_then (pan_scope pan_body)))))))))) (fun d2 t1 c1 i1 t0 n0 => ?_)
              refine dtM 0 t1 x0 n0 (fun i1 d2 => ?_)
              refine dtN 1 t1 d2 n0 (fun i1 x0 => ?_)
              refine dtF 2 0 t1 x0 n0 Tryd.underlying55 sz52 (fun i1 d2 => ?_)
              refine dtC 3 0 t1 d2 n0 Tryd.underlying52 (fun i1 x0 => ?_)
              refine dtF 4 0 t1 x0 n0 Tryd.underlying32 sz3 (fun i1 d2 => ?_)
              refine dtC 5 2 t1 d2 n0 Tryd.underlying3 (fun i1 x0 => ?_)
              refine dt 6 rfl t1 x0 (want_n rfl) (fun x hx => m_lkO (sy x0) x0 rfl rfl rfl rfl (sdat (u1 1 _ rfl) hx.ag) Tryd.underlying52 Tryd.underlying3 ze64 (by decide) gt) n0 (fun i1 d2 => ?_)
              refine dtM 7 t1 d2 n0 (fun i1 x0 => ?_)
              refine dt 8 rfl t1 x0 (want_n rfl) (fun x hx => m_lkI (K := (((nth u0 (u0.length - 1)).K))) (i := (i) - (1)) (sy x0) x0 rfl rfl rfl rfl (by omega) (sdat (u1 1 _ rfl) hx.ag) Tryd.underlying64 Tryd.underlying3 ze3 (by decide) gt) n0 (fun i1 d2 => ?_)
              refine dt 9 rfl t1 d2 (want_n rfl) (fun x hx => r_eql (sy d2) d2 rfl rfl rfl rfl (by decide) gt) n0 (fun i1 x0 => ?_)
              refine wpAnyH_done (by kernel_rfl) (c1 _ _ ?_) _
              refine x_then_n (s1 _ _ ?_)
              rcases Decidable.em (((idI (((nth u0 (u0.length - 1)).K)) ((i) - (1)))) = 0) with s1 | s1
              ·
               obtain ⟨hkp1, hkp2⟩ := ks_push hga1 hgb1 f1 j2 hmn (by omega) (by omega) hKs s1
               have j2 := x0.setb (d := 189) (b := true) rfl (decide_eq_true s1)
               refine wp_cond_true (j2.ev rfl) ?_
               obtain ⟨f1, u0, c1⟩ := t0.agree
               refine d_reg3 (n := 13) c1 16 pn (pan_block (pan_then (pan_then (pan_block (pan_block (pan_then (pan_block (pan_then (pan_scope pan_body))))))))) (fun f1 i1 d2 n0 t1 u1 => ?_)
               refine dtM 0 i1 j2 u1 (fun n0 f1 => ?_)
               refine dtM 1 i1 f1 u1 (fun n0 j2 => ?_)
               refine dtM 2 i1 j2 u1 (fun n0 f1 => ?_)
               refine dt 3 rfl i1 f1 (want_n rfl) (fun x hx => m_index (i := (i) - (1)) (j := ((i) - (1)) * 1) (sy f1) f1 rfl rfl rfl rfl Tryd.underlying39 sz22 (by omega) (by omega) (ss_elem (t := b2) (k := (i) - (1)) (sdat (u0 11 _ rfl) hx.ag).2 (by omega)).some_ rfl (by decide) gt) u1 (fun n0 j2 => ?_)
               refine dt 4 rfl i1 j2 (want_n rfl) (fun x hx => m_loadE (sy j2) j2 rfl rfl rfl 0 (((i) - (1)) * 1) (ss_elem (t := b2) (k := (i) - (1)) (sdat (u0 11 _ rfl) hx.ag).2 (by omega)) rfl rfl Tryd.underlying22 rfl (by decide) gt) u1 (fun n0 f1 => ?_)
               have n0 := t1.data (dRow 4 ((nthS b2 ((i) - (1))).1) ((nthS b2 ((i) - (1))).2.2.length) ((nthS b2 ((i) - (1))).2.1) (encNs ((nthS b2 ((i) - (1))).2.2))) (all_at (t := b2) (k := (i) - (1)) (t1.get (i := 12) rfl) (by omega))
               refine dtM 5 i1 f1 u1 (fun t1 j2 => ?_)
               refine dtM 6 i1 j2 u1 (fun t1 f1 => ?_)
               refine dt 7 rfl i1 f1 (want_n rfl) (fun x hx => m_index (i := (i) - (1)) (j := ((i) - (1)) * 1) (sy f1) f1 rfl rfl rfl rfl Tryd.underlying39 sz22 (by omega) (by omega) (ss_elem (t := c2) (k := (i) - (1)) (sdat (u0 13 _ rfl) hx.ag).2 (by omega)).some_ rfl (by decide) gt) u1 (fun t1 j2 => ?_)
               refine dt 8 rfl i1 j2 (want_n rfl) (fun x hx => m_loadE (sy j2) j2 rfl rfl rfl 0 (((i) - (1)) * 1) (ss_elem (t := c2) (k := (i) - (1)) (sdat (u0 13 _ rfl) hx.ag).2 (by omega)) rfl rfl Tryd.underlying22 rfl (by decide) gt) u1 (fun t1 f1 => ?_)
               have t1 := n0.data (dRow 4 ((nthS c2 ((i) - (1))).1) ((nthS c2 ((i) - (1))).2.2.length) ((nthS c2 ((i) - (1))).2.1) (encNs ((nthS c2 ((i) - (1))).2.2))) (all_at (t := c2) (k := (i) - (1)) (n0.get (i := 14) rfl) (by omega))
               refine dt 9 rfl i1 f1 (want_n rfl) (fun x hx => m_build (ps := [(0, .tmp 194), (1, .tmp 198)]) (v := .agg #[.slice ((nthS b2 ((i) - (1))).1) ((nthS b2 ((i) - (1))).2.2.length) ((nthS b2 ((i) - (1))).2.1), .slice ((nthS c2 ((i) - (1))).1) ((nthS c2 ((i) - (1))).2.2.length) ((nthS c2 ((i) - (1))).2.1)]) (sy f1) f1 rfl rfl rfl (fun _ => by kernel_rfl) (by decide) gt) u1 (fun n0 j2 => ?_)
               refine d1 10 ?_
               have n0 := t1.data (dAllC [((((nthS b2 ((i) - (1))).1, (nthS b2 ((i) - (1))).2.1, (nthS b2 ((i) - (1))).2.2) : Sl), (((nthS c2 ((i) - (1))).1, (nthS c2 ((i) - (1))).2.1, (nthS c2 ((i) - (1))).2.2) : Sl))]) (allC_cons (t1.get (i := 17) rfl) (t1.get (i := 18) rfl) allC_nil)
               refine mbs [(0, .tmp 199)] [.slice ((nthS b2 ((i) - (1))).1) ((nthS b2 ((i) - (1))).2.2.length) ((nthS b2 ((i) - (1))).2.1), .slice ((nthS c2 ((i) - (1))).1) ((nthS c2 ((i) - (1))).2.2.length) ((nthS c2 ((i) - (1))).2.1)] (st_opV rfl (want_n rfl)) j2 n0 Tryd.underlying67 zi66 (fun t1 f1 u1 u0 c1 => ?_)
               have u1 := sWI c1 16 pn
               refine ⟨u1, ?_⟩
               refine d1 11 ?_
               refine m_appendF (f := encC) (i := 1) (Lr) ([((((nthS b2 ((i) - (1))).1, (nthS b2 ((i) - (1))).2.1, (nthS b2 ((i) - (1))).2.2) : Sl), (((nthS c2 ((i) - (1))).1, (nthS c2 ((i) - (1))).2.1, (nthS c2 ((i) - (1))).2.2) : Sl))]) (st_opV rfl (want_n rfl)) u0 c1 rfl rfl rfl rfl rfl encC_len (encC_one _) Tryd.underlying67 zi66 rfl rfl (own_lnews (f := encC) (c1.res (i := 5) rfl)) rfl (by first | omega | (simp only [List.length_cons, List.length_nil]; omega)) (by decide) (fun u1 f1 t1 n0 j2 p1 o0 => ?_)
               have j2 : (Lr ++ ([((((nthS b2 ((i) - (1))).1, (nthS b2 ((i) - (1))).2.1, (nthS b2 ((i) - (1))).2.2) : Sl), (((nthS c2 ((i) - (1))).1, (nthS c2 ((i) - (1))).2.1, (nthS c2 ((i) - (1))).2.2) : Sl))]) : List Cp).length = (Lr).length + 1 := by first | (simp only [List.length_append, List.length_take, List.length_cons, List.length_nil]; done) | (simp only [List.length_append, List.length_take, List.length_cons, List.length_nil]; omega)
               have j2 := o0.erase 5
               have o0 := j2.data (dAllC (Lr ++ ([((((nthS b2 ((i) - (1))).1, (nthS b2 ((i) - (1))).2.1, (nthS b2 ((i) - (1))).2.2) : Sl), (((nthS c2 ((i) - (1))).1, (nthS c2 ((i) - (1))).2.1, (nthS c2 ((i) - (1))).2.2) : Sl))]))) (allC_append (j2.get (i := 7) rfl) (j2.get (i := 19) rfl))
               have j2 := sWI o0 16 pn
               refine ⟨j2, ?_⟩
               refine dtA 12 i1 p1 j2 (fun f1 u1 => ?_)
               refine wpAnyH_done (by kernel_rfl) (d2 _ _ ?_) _
               refine x_block_n ?_
               refine x_then_n (f3 _ _ ?_)
               refine c_region ?_
               refine mv u1 (fun d2 f1 => ?_)
               refine r_sub (z := (((i : Nat) : Int) - 2)) sv f1 rfl rfl rfl rfl (by decide) (by omega) (by omega) (by omega) (fun d2 u1 => ?_)
               refine asg u1 (fun d2 f1 => ?_)
               refine wpList_nil ?_
               have d2 := o0.sub (sub_cons (i := 0) rfl (sub_cons (i := 1) rfl (sub_cons (i := 2) rfl (sub_cons (i := 3) rfl (sub_cons (i := 4) rfl (sub_cons (i := 5) rfl (sub_cons (i := 6) rfl (sub_cons (i := 20) rfl (sub_cons (i := 8) rfl (sub_cons (i := 9) rfl (sub_cons (i := 10) rfl (sub_cons (i := 11) rfl (sub_cons (i := 12) rfl (sub_cons (i := 13) rfl (sub_cons (i := 14) rfl sub_nil)))))))))))))))
               have o0 := (d2).nf
               refine ⟨(i - 1), by omega, ?_⟩
               refine ⟨i - 1, Ks ++ [(nthS b2 (i - 1), nthS c2 (i - 1))], Lr ++ ([((((nthS b2 ((i) - (1))).1, (nthS b2 ((i) - (1))).2.1, (nthS b2 ((i) - (1))).2.2) : Sl), (((nthS c2 ((i) - (1))).1, (nthS c2 ((i) - (1))).2.1, (nthS c2 ((i) - (1))).2.2) : Sl))]), t1, n0, ?_⟩
               exact ⟨(f1.sub (rc rfl (rc rfl (rc rfl (rc rfl (rc rfl (rc (ri rfl (by omega)) (rc rfl rnl)))))))), o0, by omega, (by rw [hLr, List.append_assoc]), hkp1, goC_snoc hKo hkp2, by rw [List.length_append, List.length_singleton]; omega, rfl⟩
              ·
               have hki := ks_idle (by omega) (by omega) hKs (by rw [root_tr hga1]; exact s1)
               have o0 := x0.setb (d := 189) (b := false) rfl (decide_eq_false s1)
               refine wp_cond_false (o0.ev rfl) ?_
               refine wp_skip ?_
               refine x_block_n ?_
               refine x_then_n (f3 _ _ ?_)
               refine c_region ?_
               refine mv o0 (fun f3 s1 => ?_)
               refine r_sub (z := (((i : Nat) : Int) - 2)) sv s1 rfl rfl rfl rfl (by decide) (by omega) (by omega) (by omega) (fun f3 o0 => ?_)
               refine asg o0 (fun f3 s1 => ?_)
               refine wpList_nil ?_
               have f3 := t0.forget 15
               have t0 := (f3).nf
               refine ⟨(i - 1), by omega, ?_⟩
               refine ⟨i - 1, Ks, Lr, Ai, ci, ?_⟩
               exact ⟨(s1.sub (rc rfl (rc rfl (rc rfl (rc rfl (rc rfl (rc (ri rfl (by omega)) (rc rfl rnl)))))))), t0, by omega, hLr, hki, hKo, by omega, rfl⟩
             ·
              have t0 : i = 0 := by omega
              have s1 := m1.setb (d := 177) (b := false) rfl (decide_eq_false j1)
              refine wp_cond_false (s1.ev rfl) ?_
              refine wp_exit ?_
              refine x_then_e ?_
              refine x_then_e ?_
              refine x_block_eq ?_
              refine x_block_n ?_
              have hnx : CInv (treeOf a) (treeOf b) (bn + 1) (Lr) ∧ wgt (Lr) < wgt Ls := hinv.kids f0 hcb z0 k1 d0 x1 i3 n3 hmn (by rw [hKs, t0]) hKo (by omega) hLr
              have t0 := n1.erase 4
              have n1 := t0.erase 3
              have t0 := n1.erase 2
              have n1 := t0.forget 14
              have t0 := n1.forget 13
              have n1 := t0.forget 12
              have t0 := n1.forget 11
              have n1 := t0.forget 10
              have t0 := n1.forget 9
              have n1 := t0.forget 8
              have t0 := n1.forget 6
              have n1 := t0.forget 5
              have t0 := n1.forget 4
              have n1 := (t0).nf
              refine ⟨wgt (Lr), by have := hnx.2; omega, ?_⟩
              refine ⟨Lr, ((brE ((nthC Ls (((Ls).length) - (1))).2.2.2))), Ai, ci, ?_⟩
              exact ⟨(s1.sub (rc rfl (rc rfl (rc rfl rnl)))), n1, h0, hnx.1, rfl⟩
            ·
             have hfin := hinv.differ f0 hcb z0 k1 d0 x1 i3 n3 m2
             have n3 := v2.setb (d := 169) (b := true) rfl (by rw [(decide_eq_false m2)]; rfl)
             refine wp_cond_true (n3.ev rfl) ?_
             refine wsc (fun m2 v2 => ?_)
             refine asg n3 (fun m2 i3 => ?_)
             refine wpList_nil (x_then_n (v2 _ _ ?_))
             refine wp_ret ?_
             refine x_block_r ?_
             refine x_then_r ?_
             refine x_block_r ?_
             refine x_then_r ?_
             refine x_block_r ?_
             refine x_then_r ?_
             refine x_scope_r ?_
             refine e_ret1 i3 rfl rfl rfl ?_
             refine ⟨?_, v1.fr, (by rw [show ((cv (treeOf a) (treeOf b)).1 : Int) = ((brE ((nthC Ls (((Ls).length) - (1))).2.2.2))) by (rw [hfin]; exact h0.symm)]; exact v1.res (i := 0) rfl)⟩
             exact congrArg Ending.returned (ret_b (by rw [hfin]))
      ·
       have hfin := hinv.stop f0 (c_e2' hxo q0 m0 i0 z0 b1 h0)
       have b1 := q1.setb (d := 71) (b := true) rfl (by rw [(decide_eq_false h0)]; rfl)
       refine wp_cond_true (b1.ev rfl) ?_
       refine wsc (fun h0 q1 => ?_)
       refine asg b1 (fun h0 z0 => ?_)
       refine wpList_nil (x_then_n (q1 _ _ ?_))
       refine wp_ret ?_
       refine x_then_r ?_
       refine x_block_r ?_
       refine x_then_r ?_
       refine x_block_r ?_
       refine x_then_r ?_
       refine x_scope_r ?_
       refine e_ret1 z0 rfl rfl rfl ?_
       refine ⟨?_, o1.fr, (by rw [show ((cv (treeOf a) (treeOf b)).1 : Int) = ((brE ((nthC Ls (((Ls).length) - (1))).2.2.2))) by (rw [hfin])]; exact o1.res (i := 0) rfl)⟩
       exact congrArg Ending.returned (ret_b (by rw [hfin]))
    ·
     have hfin := hinv.stop f0 (c_e1 hxo q0 m0 i0)
     have m0 := v0.setb (d := 55) (b := false) rfl (decide_eq_false i0)
     refine sps m0 (wff m0) (fun v0 q0 => ?_)
     refine sps q0 (wff q0) (fun v0 m0 => ?_)
     refine sps m0 (wff m0) (fun v0 q0 => ?_)
     refine sps q0 (wff q0) (fun v0 m0 => ?_)
     refine sps m0 (wff m0) (fun v0 q0 => ?_)
     refine r_pick_f sv q0 rfl rfl rfl rfl (by decide) (fun v0 m0 => ?_)
     refine wpList_nil (x_then_n (y0 _ _ ?_))
     refine wp_cond_false (m0.ev rfl) ?_
     refine wp_skip ?_
     refine x_then_n (p0 _ _ ?_)
     refine wp_seq_k (fun p0 y0 => ?_)
     refine wsc (fun y0 p0 => ?_)
     refine mv m0 (fun y0 v0 => ?_)
     refine r_nilCheck sv v0 rfl rfl rfl (by decide) (fun y0 m0 => ?_)
     refine m_field (j' := 1) sv m0 rfl rfl rfl Tryd.underlying55 rfl sz26 rfl rfl (by decide) (fun y0 v0 => ?_)
     refine m_load (i := 0) sv v0 s0 rfl rfl rfl rfl rfl Tryd.underlying26 rfl (by decide) (fun y0 m0 => ?_)
     refine r_neq sv m0 rfl rfl rfl rfl (by decide) (fun y0 v0 => ?_)
     refine wpList_nil (x_then_n (p0 _ _ ?_))
     have p0 := v0.setb (d := 71) (b := true) rfl (by rw [(decide_eq_false i0)]; rfl)
     refine wp_cond_true (p0.ev rfl) ?_
     refine wsc (fun v0 i0 => ?_)
     refine asg p0 (fun v0 y0 => ?_)
     refine wpList_nil (x_then_n (i0 _ _ ?_))
     refine wp_ret ?_
     refine x_then_r ?_
     refine x_block_r ?_
     refine x_then_r ?_
     refine x_block_r ?_
     refine x_then_r ?_
     refine x_scope_r ?_
     refine e_ret1 y0 rfl rfl rfl ?_
     refine ⟨?_, s0.fr, (by rw [show ((cv (treeOf a) (treeOf b)).1 : Int) = ((brE ((nthC Ls (((Ls).length) - (1))).1.2.2))) by (rw [hfin])]; exact s0.res (i := 0) rfl)⟩
     exact congrArg Ending.returned (ret_b (by rw [hfin]))
 ·
  have hfin := hinv.done (by omega)
  have s0 := b0.setb (d := 21) (b := false) rfl (decide_eq_false k0)
  refine wp_cond_false (s0.ev rfl) ?_
  refine wp_exit ?_
  refine x_then_e ?_
  refine x_then_e ?_
  refine x_block_eq ?_
  refine x_then_n (c0 _ _ ?_)
  refine wsc (fun c0 k0 => ?_)
  refine asg s0 (fun c0 b0 => ?_)
  refine wpList_nil (x_then_n (k0 _ _ ?_))
  refine wp_ret ?_
  refine x_scope_r ?_
  refine e_ret1 b0 rfl rfl rfl ?_
  refine ⟨?_, j0.fr, (by rw [show ((cv (treeOf a) (treeOf b)).1 : Int) = (ev) by (rw [hfin]; exact hev.symm)]; exact j0.res (i := 0) rfl)⟩
  exact congrArg Ending.returned (ret_b (by rw [hfin]))
end Go.Proofs.YthdemmcfnpmmiaaDoor
