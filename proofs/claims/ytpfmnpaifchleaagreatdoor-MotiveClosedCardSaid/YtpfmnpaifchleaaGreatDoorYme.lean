import Derived.Test.YtpfmnpaifchleaaGreatDoorYmd
namespace Go.Proofs.YtpfmnpaifchleaaGreatDoor
open Go Go.RowKit
set_option linter.unusedSimpArgs false
set_option linter.unusedVariables false
set_option maxRecDepth 100000
set_option maxHeartbeats 1000000
theorem nodes_yields (w0 : World) (Z : Nat → Prop) (tg : Nat) (tA : Option Addr) (tc : Nat) (t : List Nd) (hShp : Shapes w0 Z) (ht : (dRow 4 tA t.length tc (encNs t)).φ w0 Z) (htb : (dBox tg [.slice tA t.length tc]).φ w0 Z) (hl : t.length ≤ 1000000) (hsm : sml t) (hc : chk t = 0) :
    Yields Tryz.prog 161 [.pointer (some ⟨tg, 0, none⟩)].toArray (fun x : Int × Int => #[.int .i64 x.1, .int .i64 x.2]) (nodesL t) Z w0 := by
 refine yields_of Tryz.func161 rfl Tryz.ntmps161 rfl [dShapes, dRow 4 tA t.length tc (encNs t), dBox tg [.slice tA t.length tc]] (by
  intro d hd
  simp only [List.mem_cons, List.not_mem_nil, or_false] at hd
  rcases hd with rfl | rfl | rfl
  · exact hShp
  · exact ht
  · exact htb
  ) (fun lp jf jx w0 C0 M0 hY hds b0 c0 d0 => ?_)
 refine wsc fun b0 f0 => bsl c0 d0 fun b0 h0 i0 j0 k0 => ?_
 refine aw j0 f0 fun h0 b0 => ?_
 refine wsc fun f0 h0 => m_loadC sv b0 rfl rfl rfl (dbox_cell (k0.get (i := 3) rfl) rfl) Tryz.underlying22 rfl (by decide) fun f0 j0 => ?_
 refine lR j0 fun f0 b0 => ?_
 refine sbi (((t.length : Nat) : Int) - 1) b0 fun f0 j0 => ?_
 refine aw j0 h0 fun f0 b0 => ?_
 refine wp_block ?_
 refine wp_loop_ghost (fun gn ga gw => ∃ k : Nat, ∃ Ts : List T, ∃ us : List Int, ∃ Ao : Option Addr, ∃ co : Nat, (Reg ga 55 [(1000000, .bool false), (0, .func (.yield lp) #[] #[]), (1, .pointer (some ⟨tg, 0, none⟩)), (4, .int .i64 (((t.length : Nat) : Int) - ((k : Nat) : Int) - 1)), (3, .slice Ao ((us).length) co)]) ∧ (St w0 (oldB w0) M0 gw [.row Ao ((us).length) co 3 1 (encIs us)] [dJ jf ((nodesL t).take k) C0 M0 w0.heap.size, dShapes, dRow 4 tA t.length tc (encNs t), dBox tg [.slice tA t.length tc]]) ∧ (k ≤ t.length) ∧ (VInv t k Ts us) ∧ (t.length - k) = gn) _ ⟨0, [treeOf t], [0], (some ⟨i0, 0, none⟩), 1, (b0.sub (rc4 (rc rfl rnl))), k0, by omega, VInv.zero hc, rfl⟩ ?_
 rintro b0 k0 i0 ⟨k, Ts, us, Ao, co, h0, f0, hk, hv, j0⟩
 refine wp_seq_k fun j0 i0 => wsc fun j0 k0 => lR h0 fun j0 b0 => ?_
 refine wn k0 ?_
 rcases Decidable.em (0 ≤ (((t.length : Nat) : Int) - ((k : Nat) : Int) - 1)) with k0 | k0
 ·
  obtain ⟨hvr, hu0, hul, hub, hpre, Ts', hv'⟩ := hv.step (by omega)
  refine wct b0 (decide_eq_true k0) fun j0 => ?_
  refine wp_skip <| xn i0 <| wp_seq_k fun i0 h0 => wp_block ?_
  refine wsc fun i0 d0 => lR j0 fun i0 c0 => ?_
  refine sbi ((((us).length : Nat) : Int) - 1) c0 fun i0 j0 => ?_
  refine ix (((us).length) - (1)) ((((us).length) - (1)) * 1) j0 (own_ints (t := us) (k := ((us).length) - (1)) (f0.res (i := 0) rfl) (by omega)).some_ fun i0 c0 => ?_
  refine lde 0 ((((us).length) - (1)) * 1) c0 (own_ints (t := us) (k := ((us).length) - (1)) (f0.res (i := 0) rfl) (by omega)) fun i0 j0 => ?_
  refine aw j0 d0 fun i0 c0 => ?_
  refine wsc fun d0 i0 => lR c0 fun d0 j0 => ?_
  refine sbi ((((us).length : Nat) : Int) - 1) j0 fun d0 c0 => ?_
  have d0 := own_cap (f0.res (i := 0) rfl)
  refine m_sliceP (q := ((us).length) - (1)) sv c0 rfl rfl rfl rfl (by omega) Tryz.underlying57 sz3 (by omega) (by decide) fun d0 j0 => ?_
  refine aw j0 i0 fun d0 c0 => ?_
  refine wp_seq_k fun i0 d0 => wp_seq_k fun i0 j0 => cy_region ?_
  refine r_move (st_listInV rfl rfl) c0 rfl rfl rfl (by decide) fun i0 m0 => ?_
  refine r_move (st_listInV rfl rfl) m0 rfl rfl rfl (by decide) fun i0 c0 => ?_
  refine r_move (st_listInV rfl rfl) c0 rfl rfl rfl (by decide) fun i0 m0 => ?_
  have i0 := f0.nf
  refine y_call (t := .tmp 29) (xs := [.tmp 30, .tmp 31]) (pre := (nodesL t).take k) (i := 0) (ds0 := [dShapes, dRow 4 tA t.length tc (encNs t), dBox tg [.slice tA t.length tc]]) hY rfl m0 i0 rfl rfl rfl rfl (by decide) ((((((t.length : Nat) : Int) - ((k : Nat) : Int) - 1), ((nthI us (((us).length) - (1))))) : Int × Int)) rfl rfl (hpre.symm ▸ List.take_prefix _ _) hds (fun c0 n0 o0 p0 => ?_) fun c0 n0 o0 p0 => ?_
  ·
   refine r_not (st_listInV rfl rfl) o0 rfl rfl rfl (by decide) fun n0 c0 => ?_
   refine li_nil ?_
   refine xn j0 <| wp_cond_false (c0.ev rfl) ?_
   refine wp_skip <| xn d0 <| wsc fun d0 n0 => m_loadC sv c0 rfl rfl rfl (dbox_cell (p0.get (i := 3) rfl) rfl) Tryz.underlying22 rfl (by decide) fun d0 i0 => ?_
   refine mv i0 fun d0 c0 => ?_
   refine ix ((t.length) - (k + 1)) (((t.length) - (k + 1)) * 4) c0 (nds_elem (t := t) (k := (t.length) - (k + 1)) (p0.row (i := 2) rfl).2 (by omega)).some_ fun d0 i0 => ?_
   refine m_loadEN sv i0 rfl rfl rfl (nds_elem (t := t) (k := (t.length) - (k + 1)) (p0.row (i := 2) rfl).2 (by omega)) Tryz.underlying30 rfl sz30 (by decide) fun d0 c0 => ?_
   have d0 := p0.nf
   refine kcl c0 ok89 (binds_calls _ _ d0.il (nth t ((t.length) - (k + 1))) (d0.g 1) (hs := (hsm _ (by omega)))) ?_
   rintro c0 i0 ⟨m0, q0, rfl, s0, t0⟩
   have i0 := d0.below s0.below
   have s0 := d0.dN i0 t0
   refine ⟨_, rfl, fun i0 t0 => ?_⟩
   refine lR t0 fun i0 d0 => ?_
   refine wn n0 <| wsc fun n0 i0 => lR d0 fun n0 t0 => ?_
   refine wn i0 <| wp_block ?_
   have i0 := s0.trim encI_len (i := 0) (L := us) rfl (us.length - 1) (by omega)
   have s0 : (us).take (us.length - 1) = us.take (us.length - 1) ++ ((bindsR (nth t (t.length - (k + 1)))).take 0).map (nthI us (us.length - 1) + ·) := by simp
   have n0 := i0
   simp only [List.set_cons_zero, List.set_cons_succ, List.set_nil] at n0
   rw [s0] at n0
   refine wp_loop_ghost (fun gn ga gw => ∃ j : Nat, ∃ Al : Option Addr, ∃ cl : Nat, (Reg ga 55 [(1000000, .bool false), (0, .func (.yield lp) #[] #[]), (1, .pointer (some ⟨tg, 0, none⟩)), (4, .int .i64 (((t.length : Nat) : Int) - ((k : Nat) : Int) - 1)), (5, .int .i64 ((nthI us (((us).length) - (1))))), (42, .slice m0 ((bindsR (nth t ((t.length) - (k + 1)))).length) q0), (43, .int .i64 (((bindsR (nth t ((t.length) - (k + 1)))).length : Nat) : Int)), (44, .int .i64 ((j : Nat) : Int)), (3, .slice Al ((us.take (us.length - 1) ++ ((bindsR (nth t (t.length - (k + 1)))).take j).map (nthI us (us.length - 1) + ·)).length) cl)]) ∧ (St w0 (oldB w0) M0 gw [.row Al ((us.take (us.length - 1) ++ ((bindsR (nth t (t.length - (k + 1)))).take j).map (nthI us (us.length - 1) + ·)).length) cl 3 1 (encIs (us.take (us.length - 1) ++ ((bindsR (nth t (t.length - (k + 1)))).take j).map (nthI us (us.length - 1) + ·)))] [dJ jf ((nodesL t).take k ++ [((((((t.length : Nat) : Int) - ((k : Nat) : Int) - 1), ((nthI us (((us).length) - (1))))) : Int × Int))]) C0 M0 w0.heap.size, dShapes, dRow 4 tA t.length tc (encNs t), dBox tg [.slice tA t.length tc], dRow 1 m0 ((bindsR (nth t ((t.length) - (k + 1)))).length) q0 (encIs (bindsR (nth t ((t.length) - (k + 1)))))]) ∧ (j ≤ (bindsR (nth t (t.length - (k + 1)))).length) ∧ ((bindsR (nth t (t.length - (k + 1)))).length - j) = gn) _ ⟨0, Ao, co, (t0.sub (rc4 (rc4 (rc (rs rfl (by simp)) rnl)))), n0, by omega, rfl⟩ ?_
   rintro n0 t0 q0 ⟨j, Al, cl, m0, s0, hj, i0⟩
   have hbl := bindsR_le (nth t (t.length - (k + 1)))
   have hbj := bindsR_nth (n := nth t (t.length - (k + 1))) j
   have hjl : (us.take (us.length - 1) ++ ((bindsR (nth t (t.length - (k + 1)))).take j).map (nthI us (us.length - 1) + ·)).length ≤ t.length + 8 := by have := bindsR_le (nth t (t.length - (k + 1))); rw [List.length_append, List.length_take, List.length_map, List.length_take]; omega
   refine wsc fun i0 q0 => lR m0 fun i0 t0 => ?_
   refine wn q0 <| wp_seq_k fun q0 i0 => ?_
   rcases Decidable.em (((j : Nat) : Int) < (((bindsR (nth t ((t.length) - (k + 1)))).length : Nat) : Int)) with q0 | q0
   ·
    refine wct t0 (decide_eq_true q0) fun m0 => ?_
    refine wp_skip <| xn i0 <| wp_seq_k fun i0 n0 => wp_block ?_
    refine wsc fun i0 d0 => ix j (j * 1) m0 (ints_elem (t := bindsR (nth t ((t.length) - (k + 1)))) (k := j) (s0.row (i := 4) rfl).2 (by omega)).some_ fun i0 c0 => ?_
    refine lde 0 (j * 1) c0 (ints_elem (t := bindsR (nth t ((t.length) - (k + 1)))) (k := j) (s0.row (i := 4) rfl).2 (by omega)) fun i0 m0 => ?_
    refine asg m0 fun i0 c0 => ?_
    refine wpList_nil (x_then_n (d0 _ _ (c_region ?_)))
    refine lR c0 fun d0 i0 => ?_
    refine adi ((nthI us (((us).length) - (1))) + (nthI (bindsR (nth t ((t.length) - (k + 1)))) j)) i0 fun d0 c0 => ?_
    refine bsl c0 s0 fun d0 i0 m0 u0 v0 => ?_
    refine m_appendF (f := encI) (i := 0) (us.take (us.length - 1) ++ ((bindsR (nth t (t.length - (k + 1)))).take j).map (nthI us (us.length - 1) + ·)) ([((nthI us (((us).length) - (1))) + (nthI (bindsR (nth t ((t.length) - (k + 1)))) j))]) sv u0 v0 rfl rfl rfl rfl rfl encI_len (encI_one _) Tryz.underlying57 zi3 rfl rfl (own_lnews (f := encI) (v0.res (i := 1) rfl)) rfl (by (simp only [List.length_cons, List.length_nil]; omega)) (by decide) fun m0 i0 d0 c0 x0 y0 z0 => ?_
    have x0 : ((us.take (us.length - 1) ++ ((bindsR (nth t (t.length - (k + 1)))).take j).map (nthI us (us.length - 1) + ·)) ++ ([((nthI us (((us).length) - (1))) + (nthI (bindsR (nth t ((t.length) - (k + 1)))) j))]) : List Int).length = (us.take (us.length - 1) ++ ((bindsR (nth t (t.length - (k + 1)))).take j).map (nthI us (us.length - 1) + ·)).length + 1 := by (simp only [List.length_append, List.length_take, List.length_cons, List.length_nil]; done)
    have x0 := z0.erase 1
    refine asg y0 fun z0 i0 => ?_
    refine wpList_nil ?_
    refine x_block_n <| xn n0 <| c_region ?_
    refine adi ((j + 1 : Nat) : Int) i0 fun n0 z0 => ?_
    refine mv z0 fun n0 i0 => ?_
    refine wpList_nil ?_
    have n0 : (us.take (us.length - 1) ++ ((bindsR (nth t (t.length - (k + 1)))).take j).map (nthI us (us.length - 1) + ·)) ++ ([((nthI us (((us).length) - (1))) + (nthI (bindsR (nth t ((t.length) - (k + 1)))) j))]) = us.take (us.length - 1) ++ ((bindsR (nth t (t.length - (k + 1)))).take (j + 1)).map (nthI us (us.length - 1) + ·) := by rw [map_step (by omega), ← List.append_assoc]
    have z0 := i0
    have i0 := x0
    rw [n0] at z0 i0
    exact ⟨_, by omega, j + 1, d0, c0, (z0.sub (rc4 (rc4 (rc rfl rnl)))), i0, by omega, rfl⟩
   refine wcf t0 (decide_eq_false q0) fun i0 => ?_
   refine wp_exit ?_
   refine x_then_e ?_
   refine x_then_e ?_
   refine x_block_eq ?_
   refine x_block_n <| xn h0 <| c_region ?_
   refine mv i0 fun h0 q0 => ?_
   refine sbi (((t.length : Nat) : Int) - ((k : Nat) : Int) - 2) q0 fun h0 i0 => ?_
   refine asg i0 fun h0 q0 => ?_
   refine wpList_nil ?_
   have h0 : us.take (us.length - 1) ++ ((bindsR (nth t (t.length - (k + 1)))).take j).map (nthI us (us.length - 1) + ·) = us.take (us.length - 1) ++ (bindsR (nth t (t.length - (k + 1)))).map (nthI us (us.length - 1) + ·) := by rw [show j = (bindsR (nth t (t.length - (k + 1)))).length by omega, List.take_length]
   have i0 := q0
   have q0 := s0
   rw [h0] at i0 q0
   have h0 : (nodesL t).take k ++ [((((((t.length : Nat) : Int) - ((k : Nat) : Int) - 1), ((nthI us (((us).length) - (1))))) : Int × Int))] = (nodesL t).take (k + 1) := hpre
   have s0 := q0
   rw [h0] at s0
   have h0 := s0.forget 4
   exact ⟨_, by omega, k + 1, Ts', _, Al, cl, (i0.sub (rc2 (rc rfl (rc (ri rfl (by omega)) (rc rfl rnl))))), h0, by omega, hv', rfl⟩
  refine r_not (st_listInV rfl rfl) o0 rfl rfl rfl (by decide) fun h0 i0 => ?_
  refine li_nil ?_
  refine xn j0 <| wp_cond_true (i0.ev rfl) ?_
  refine wp_ret <| x_then_r <| x_block_r <| x_then_r <| x_then_r <| x_block_r <| e_ret0 i0 rfl rfl ?_
  exact it_stop p0 (i := 0) rfl (hpre.symm ▸ List.take_prefix _ _)
 refine wcf b0 (decide_eq_false k0) fun p0 => ?_
 refine wp_exit ?_
 refine x_then_e ?_
 refine x_then_e ?_
 refine x_block_eq ?_
 refine e_end0 p0 rfl rfl ?_
 exact it_all f0 (i := 0) rfl (hv.all (by omega))
theorem proofs_yields (w0 : World) (Z : Nat → Prop) (tg : Nat) (tA : Option Addr) (tc : Nat) (t : List Nd) (hShp : Shapes w0 Z) (ht : (dRow 4 tA t.length tc (encNs t)).φ w0 Z) (htb : (dBox tg [.slice tA t.length tc]).φ w0 Z) (hl : t.length ≤ 1000000) (hsm : sml t) :
    Yields Tryz.prog 88 [.pointer (some ⟨tg, 0, none⟩)].toArray (fun x : Int × Int => #[.int .i64 x.1, .int .i64 x.2]) (prfL t) Z w0 := by
 refine yields_of Tryz.func88 rfl Tryz.ntmps88 rfl [dShapes, dRow 4 tA t.length tc (encNs t), dBox tg [.slice tA t.length tc]] (by
  intro d hd
  simp only [List.mem_cons, List.not_mem_nil, or_false] at hd
  rcases hd with rfl | rfl | rfl
  · exact hShp
  · exact ht
  · exact htb
  ) (fun lp jf jx w0 C0 M0 hY hds b0 c0 d0 => ?_)
 refine wp_scope_straight ?_
 refine wsc fun b0 f0 => aw c0 f0 fun b0 h0 => ?_
 refine wsc fun f0 b0 => aw h0 b0 fun f0 c0 => ?_
 refine wp_seq_k fun b0 f0 => wp_label ?_
 refine xn f0 <| wsc fun f0 b0 => m_loadC sv c0 rfl rfl rfl (dbox_cell (d0.get (i := 3) rfl) rfl) Tryz.underlying22 rfl (by decide) fun f0 h0 => ?_
 refine lR h0 fun f0 c0 => ?_
 refine sbi (((t.length : Nat) : Int) - 1) c0 fun f0 h0 => ?_
 refine aw h0 b0 fun f0 c0 => ?_
 refine wp_block ?_
 refine wp_loop_ghost (fun gn ga gw => ∃ k : Nat, (Reg ga 44 [(1000000, .bool false), (0, .func (.yield lp) #[] #[]), (1, .pointer (some ⟨tg, 0, none⟩)), (3, .int .i64 (((prS t k).2.2))), (4, .int .i64 (((prS t k).2.1))), (5, .int .i64 (((t.length : Nat) : Int) - ((k : Nat) : Int) - 1))]) ∧ (St w0 (oldB w0) M0 gw [] [dJ jf ((prS t k).1) C0 M0 w0.heap.size, dShapes, dRow 4 tA t.length tc (encNs t), dBox tg [.slice tA t.length tc]]) ∧ (k ≤ t.length) ∧ (t.length - k) = gn) _ ⟨0, (c0.sub (rc4 (rc rfl (rc rfl rnl)))), d0, by omega, rfl⟩ ?_
 rintro c0 d0 b0 ⟨k, f0, h0, hk, i0⟩
 obtain ⟨hpb1, hpb2, hpb3, hpb4⟩ := prS_bound t k (by omega)
 have hbl := bindsR_le (nth t (t.length - (k + 1)))
 refine wp_seq_k fun i0 b0 => wsc fun i0 d0 => lR f0 fun i0 c0 => ?_
 refine wn d0 ?_
 rcases Decidable.em (0 ≤ (((t.length : Nat) : Int) - ((k : Nat) : Int) - 1)) with d0 | d0
 ·
  refine wct c0 (decide_eq_true d0) fun i0 => ?_
  refine wp_skip <| xn b0 <| wp_seq_k fun b0 f0 => wp_block ?_
  refine wp_seq_k fun b0 j0 => wsc fun b0 k0 => lR i0 fun b0 m0 => ?_
  refine wn k0 ?_
  rcases Decidable.em ((((prS t k).2.1)) < 0) with k0 | k0
  ·
   refine wct m0 (decide_eq_true k0) fun b0 => ?_
   refine wp_seq_k fun i0 n0 => wsc fun i0 o0 => m_loadC sv b0 rfl rfl rfl (dbox_cell (h0.get (i := 3) rfl) rfl) Tryz.underlying22 rfl (by decide) fun i0 p0 => ?_
   refine mv p0 fun i0 b0 => ?_
   refine ix ((t.length) - (k + 1)) (((t.length) - (k + 1)) * 4) b0 (nds_elem (t := t) (k := (t.length) - (k + 1)) (h0.row (i := 2) rfl).2 (by omega)).some_ fun i0 p0 => ?_
   refine m_fieldE (j' := ((t.length) - (k + 1)) * 4) sv p0 rfl rfl rfl (nds_elem (t := t) (k := (t.length) - (k + 1)) (h0.row (i := 2) rfl).2 (by omega)).some_ Tryz.underlying30 rfl sz3 rfl rfl (by decide) fun i0 b0 => ?_
   refine lde 0 (((t.length) - (k + 1)) * 4) b0 (nds_elem (t := t) (k := (t.length) - (k + 1)) (h0.row (i := 2) rfl).2 (by omega)) fun i0 p0 => ?_
   refine lR p0 fun i0 b0 => ?_
   refine wn o0 ?_
   rcases Decidable.em ((((nth t ((t.length) - (k + 1))).K)) = 28) with o0 | o0
   ·
    refine wcfb b0 rfl (by rw [(decide_eq_true o0)]; rfl) fun i0 => ?_
    refine wp_skip <| xn n0 <| c_region ?_
    refine lR i0 fun n0 p0 => ?_
    refine wn j0 <| wsc fun n0 i0 => m_loadC sv p0 rfl rfl rfl (dbox_cell (h0.get (i := 3) rfl) rfl) Tryz.underlying22 rfl (by decide) fun n0 q0 => ?_
    refine mv q0 fun n0 p0 => ?_
    refine ix ((t.length) - (k + 1)) (((t.length) - (k + 1)) * 4) p0 (nds_elem (t := t) (k := (t.length) - (k + 1)) (h0.row (i := 2) rfl).2 (by omega)).some_ fun n0 q0 => ?_
    refine m_loadEN sv q0 rfl rfl rfl (nds_elem (t := t) (k := (t.length) - (k + 1)) (h0.row (i := 2) rfl).2 (by omega)) Tryz.underlying30 rfl sz30 (by decide) fun n0 p0 => ?_
    have n0 := h0.nf
    refine kcl p0 ok89 (binds_calls _ _ n0.il (nth t ((t.length) - (k + 1))) (n0.g 1) (hs := (hsm _ (by omega)))) ?_
    rintro p0 q0 ⟨s0, t0, rfl, u0, v0⟩
    have t0 := n0.below u0.below
    have u0 := n0.dN t0 v0
    refine ⟨_, rfl, fun t0 v0 => ?_⟩
    refine lR v0 fun t0 n0 => ?_
    refine wn i0 <| wp_seq_k fun i0 t0 => wsc fun i0 v0 => lR n0 fun i0 s0 => ?_
    refine sbi ((((bindsR (nth t ((t.length) - (k + 1)))).length : Nat) : Int) - 1) s0 fun i0 n0 => ?_
    refine adi (((bindsR (nth t ((t.length) - (k + 1)))).length : Nat) : Int) n0 fun i0 s0 => ?_
    refine aw s0 v0 fun i0 n0 => ?_
    refine wsc fun v0 i0 => lR n0 fun v0 s0 => ?_
    refine wn i0 ?_
    rcases Decidable.em (0 < (((bindsR (nth t ((t.length) - (k + 1)))).length : Nat) : Int)) with i0 | i0
    ·
     refine wct s0 (decide_eq_true i0) fun v0 => ?_
     refine wp_exit ?_
     refine x_then_e ?_
     refine x_block_eq ?_
     refine xn f0 <| c_region ?_
     refine mv v0 fun n0 q0 => ?_
     refine sbi (((t.length : Nat) : Int) - ((k : Nat) : Int) - 2) q0 fun n0 v0 => ?_
     refine asg v0 fun n0 q0 => ?_
     refine wpList_nil ?_
     have hst := prS_new1 (t := t) (k := k) (n := (((bindsR (nth t ((t.length) - (k + 1)))).length : Nat) : Int)) (r := ((t.length : Nat) : Int) - ((k : Nat) : Int) - 1) (by omega) (by omega) (by omega) (by omega) (by omega)
     have n0 : (prS t k).1 = (prS t (k + 1)).1 := by rw [hst]
     have v0 := u0
     rw [n0] at v0
     have n0 := v0.forget 4
     exact ⟨_, by omega, k + 1, (q0.sub (rc2 (rc rfl (rc (ri rfl (by simp only [hst])) (rc (ri rfl (by simp only [hst])) (rc (ri rfl (by omega)) rnl)))))), n0, by omega, rfl⟩
    refine wcf s0 (decide_eq_false i0) fun n0 => ?_
    refine wp_skip <| xn t0 <| wp_seq_k fun t0 i0 => wp_seq_k fun t0 s0 => cy_region ?_
    refine r_move (st_listInV rfl rfl) n0 rfl rfl rfl (by decide) fun t0 q0 => ?_
    refine r_move (st_listInV rfl rfl) q0 rfl rfl rfl (by decide) fun t0 n0 => ?_
    refine r_move (st_listInV rfl rfl) n0 rfl rfl rfl (by decide) fun t0 q0 => ?_
    have t0 := u0.nf
    refine y_call (t := .tmp 39) (xs := [.tmp 40, .tmp 41]) (pre := (prS t k).1) (i := 0) (ds0 := [dShapes, dRow 4 tA t.length tc (encNs t), dBox tg [.slice tA t.length tc]]) hY rfl q0 t0 rfl rfl rfl rfl (by decide) ((((((t.length : Nat) : Int) - ((k : Nat) : Int) - 1), (((t.length : Nat) : Int) - ((k : Nat) : Int) - 1)) : Int × Int)) rfl rfl ((by have hst := prS_new0 (t := t) (k := k) (n := (((bindsR (nth t ((t.length) - (k + 1)))).length : Nat) : Int)) (r := ((t.length : Nat) : Int) - ((k : Nat) : Int) - 1) (by omega) (by omega) (by omega) (by omega) (by omega); have hpp := prS_prfL (t := t) (k := k + 1) (by omega); rw [hst] at hpp; exact hpp)) hds (fun u0 n0 v0 p0 => ?_) fun u0 n0 v0 p0 => ?_
    ·
     refine r_not (st_listInV rfl rfl) v0 rfl rfl rfl (by decide) fun n0 u0 => ?_
     refine li_nil ?_
     refine xn s0 <| wp_cond_false (u0.ev rfl) ?_
     refine wp_skip <| xn i0 <| c_region ?_
     refine asg u0 fun i0 n0 => ?_
     refine wpList_nil ?_
     refine x_block_n <| xn f0 <| c_region ?_
     refine mv n0 fun i0 u0 => ?_
     refine sbi (((t.length : Nat) : Int) - ((k : Nat) : Int) - 2) u0 fun i0 n0 => ?_
     refine asg n0 fun i0 u0 => ?_
     refine wpList_nil ?_
     have hst := prS_new0 (t := t) (k := k) (n := (((bindsR (nth t ((t.length) - (k + 1)))).length : Nat) : Int)) (r := ((t.length : Nat) : Int) - ((k : Nat) : Int) - 1) (by omega) (by omega) (by omega) (by omega) (by omega)
     have i0 : (prS t k).1 ++ [((((((t.length : Nat) : Int) - ((k : Nat) : Int) - 1), (((t.length : Nat) : Int) - ((k : Nat) : Int) - 1)) : Int × Int))] = (prS t (k + 1)).1 := by rw [hst]
     have n0 := p0
     rw [i0] at n0
     exact ⟨_, by omega, k + 1, (u0.sub (rc2 (rc rfl (rc (ri rfl (by simp only [hst])) (rc (ri rfl (by simp only [hst])) (rc (ri rfl (by omega)) rnl)))))), n0, by omega, rfl⟩
    refine r_not (st_listInV rfl rfl) v0 rfl rfl rfl (by decide) fun n0 u0 => ?_
    refine li_nil ?_
    refine xn s0 <| wp_cond_true (u0.ev rfl) ?_
    refine wp_ret <| x_then_r <| x_block_r <| x_then_r <| x_then_r <| x_block_r <| x_scope_r ?_
    refine e_ret0 u0 rfl rfl ?_
    exact it_stop p0 (i := 0) rfl ((by have hst := prS_new0 (t := t) (k := k) (n := (((bindsR (nth t ((t.length) - (k + 1)))).length : Nat) : Int)) (r := ((t.length : Nat) : Int) - ((k : Nat) : Int) - 1) (by omega) (by omega) (by omega) (by omega) (by omega); have hpp := prS_prfL (t := t) (k := k + 1) (by omega); rw [hst] at hpp; exact hpp))
   refine wctb b0 rfl (by rw [(decide_eq_false o0)]; rfl) fun p0 => ?_
   refine wp_exit ?_
   refine x_then_e ?_
   refine x_then_e ?_
   refine x_block_eq ?_
   refine xn f0 <| c_region ?_
   refine mv p0 fun o0 b0 => ?_
   refine sbi (((t.length : Nat) : Int) - ((k : Nat) : Int) - 2) b0 fun o0 p0 => ?_
   refine asg p0 fun o0 b0 => ?_
   refine wpList_nil ?_
   have hst := prS_same (t := t) (k := k) (by omega) (by omega)
   have o0 : (prS t k).1 = (prS t (k + 1)).1 := by rw [hst]
   have p0 := h0
   rw [o0] at p0
   exact ⟨_, by omega, k + 1, (b0.sub (rc2 (rc rfl (rc (ri rfl (by simp only [hst])) (rc (ri rfl (by simp only [hst])) (rc (ri rfl (by omega)) rnl)))))), p0, by omega, rfl⟩
  refine wcf m0 (decide_eq_false k0) fun p0 => ?_
  refine wp_skip <| xn j0 <| wsc fun j0 k0 => m_loadC sv p0 rfl rfl rfl (dbox_cell (h0.get (i := 3) rfl) rfl) Tryz.underlying22 rfl (by decide) fun j0 m0 => ?_
  refine mv m0 fun j0 p0 => ?_
  refine ix ((t.length) - (k + 1)) (((t.length) - (k + 1)) * 4) p0 (nds_elem (t := t) (k := (t.length) - (k + 1)) (h0.row (i := 2) rfl).2 (by omega)).some_ fun j0 m0 => ?_
  refine m_loadEN sv m0 rfl rfl rfl (nds_elem (t := t) (k := (t.length) - (k + 1)) (h0.row (i := 2) rfl).2 (by omega)) Tryz.underlying30 rfl sz30 (by decide) fun j0 p0 => ?_
  have j0 := h0.nf
  refine kcl p0 ok89 (binds_calls _ _ j0.il (nth t ((t.length) - (k + 1))) (j0.g 1) (hs := (hsm _ (by omega)))) ?_
  rintro p0 m0 ⟨b0, o0, rfl, u0, s0⟩
  have o0 := j0.below u0.below
  have u0 := j0.dN o0 s0
  refine ⟨_, rfl, fun o0 s0 => ?_⟩
  refine lR s0 fun o0 j0 => ?_
  refine wn k0 <| wp_seq_k fun k0 o0 => wsc fun k0 s0 => lR j0 fun k0 b0 => ?_
  refine sbi ((((bindsR (nth t ((t.length) - (k + 1)))).length : Nat) : Int) - 1) b0 fun k0 j0 => ?_
  refine adi (((prS t k).2.2) + (((bindsR (nth t ((t.length) - (k + 1)))).length : Nat) : Int) - 1) j0 fun k0 b0 => ?_
  refine aw b0 s0 fun k0 j0 => ?_
  refine wsc fun s0 k0 => lR j0 fun s0 b0 => ?_
  refine wn k0 ?_
  rcases Decidable.em (0 < (((prS t k).2.2) + (((bindsR (nth t ((t.length) - (k + 1)))).length : Nat) : Int) - 1)) with k0 | k0
  ·
   refine wct b0 (decide_eq_true k0) fun s0 => ?_
   refine wp_exit ?_
   refine x_then_e ?_
   refine x_block_eq ?_
   refine xn f0 <| c_region ?_
   refine mv s0 fun j0 m0 => ?_
   refine sbi (((t.length : Nat) : Int) - ((k : Nat) : Int) - 2) m0 fun j0 s0 => ?_
   refine asg s0 fun j0 m0 => ?_
   refine wpList_nil ?_
   have hst := prS_on (t := t) (k := k) (n := (((prS t k).2.2) + (((bindsR (nth t ((t.length) - (k + 1)))).length : Nat) : Int) - 1)) (by omega) (by omega) (by omega)
   have j0 : (prS t k).1 = (prS t (k + 1)).1 := by rw [hst]
   have s0 := u0
   rw [j0] at s0
   have j0 := s0.forget 4
   exact ⟨_, by omega, k + 1, (m0.sub (rc2 (rc rfl (rc (ri rfl (by simp only [hst])) (rc (ri rfl (by simp only [hst])) (rc (ri rfl (by omega)) rnl)))))), j0, by omega, rfl⟩
  refine wcf b0 (decide_eq_false k0) fun j0 => ?_
  refine wp_skip <| xn o0 <| wp_seq_k fun o0 k0 => wp_seq_k fun o0 b0 => cy_region ?_
  refine r_move (st_listInV rfl rfl) j0 rfl rfl rfl (by decide) fun o0 m0 => ?_
  refine r_move (st_listInV rfl rfl) m0 rfl rfl rfl (by decide) fun o0 j0 => ?_
  refine r_move (st_listInV rfl rfl) j0 rfl rfl rfl (by decide) fun o0 m0 => ?_
  have o0 := u0.nf
  refine y_call (t := .tmp 39) (xs := [.tmp 40, .tmp 41]) (pre := (prS t k).1) (i := 0) (ds0 := [dShapes, dRow 4 tA t.length tc (encNs t), dBox tg [.slice tA t.length tc]]) hY rfl m0 o0 rfl rfl rfl rfl (by decide) ((((((t.length : Nat) : Int) - ((k : Nat) : Int) - 1), (((prS t k).2.1))) : Int × Int)) rfl rfl ((by have hst := prS_end (t := t) (k := k) (n := (((prS t k).2.2) + (((bindsR (nth t ((t.length) - (k + 1)))).length : Nat) : Int) - 1)) (i := ((t.length : Nat) : Int) - ((k : Nat) : Int) - 1) (by omega) (by omega) (by omega) (by omega); have hpp := prS_prfL (t := t) (k := k + 1) (by omega); rw [hst] at hpp; exact hpp)) hds (fun u0 j0 s0 p0 => ?_) fun u0 j0 s0 p0 => ?_
  ·
   refine r_not (st_listInV rfl rfl) s0 rfl rfl rfl (by decide) fun j0 u0 => ?_
   refine li_nil ?_
   refine xn b0 <| wp_cond_false (u0.ev rfl) ?_
   refine wp_skip <| xn k0 <| c_region ?_
   refine asg u0 fun k0 j0 => ?_
   refine wpList_nil ?_
   refine x_block_n <| xn f0 <| c_region ?_
   refine mv j0 fun f0 k0 => ?_
   refine sbi (((t.length : Nat) : Int) - ((k : Nat) : Int) - 2) k0 fun f0 j0 => ?_
   refine asg j0 fun f0 k0 => ?_
   refine wpList_nil ?_
   have hst := prS_end (t := t) (k := k) (n := (((prS t k).2.2) + (((bindsR (nth t ((t.length) - (k + 1)))).length : Nat) : Int) - 1)) (i := ((t.length : Nat) : Int) - ((k : Nat) : Int) - 1) (by omega) (by omega) (by omega) (by omega)
   have f0 : (prS t k).1 ++ [((((((t.length : Nat) : Int) - ((k : Nat) : Int) - 1), (((prS t k).2.1))) : Int × Int))] = (prS t (k + 1)).1 := by rw [hst]
   have j0 := p0
   rw [f0] at j0
   exact ⟨_, by omega, k + 1, (k0.sub (rc2 (rc rfl (rc (ri rfl (by simp only [hst])) (rc (ri rfl (by simp only [hst])) (rc (ri rfl (by omega)) rnl)))))), j0, by omega, rfl⟩
  refine r_not (st_listInV rfl rfl) s0 rfl rfl rfl (by decide) fun j0 k0 => ?_
  refine li_nil ?_
  refine xn b0 <| wp_cond_true (k0.ev rfl) ?_
  refine wp_ret <| x_then_r <| x_block_r <| x_then_r <| x_then_r <| x_block_r <| x_scope_r ?_
  refine e_ret0 k0 rfl rfl ?_
  exact it_stop p0 (i := 0) rfl ((by have hst := prS_end (t := t) (k := k) (n := (((prS t k).2.2) + (((bindsR (nth t ((t.length) - (k + 1)))).length : Nat) : Int) - 1)) (i := ((t.length : Nat) : Int) - ((k : Nat) : Int) - 1) (by omega) (by omega) (by omega) (by omega); have hpp := prS_prfL (t := t) (k := k + 1) (by omega); rw [hst] at hpp; exact hpp))
 refine wcf c0 (decide_eq_false d0) fun p0 => ?_
 refine wp_exit ?_
 refine x_then_e ?_
 refine x_then_e ?_
 refine x_block_eq ?_
 refine x_scope_n ?_
 refine e_end0 p0 rfl rfl ?_
 exact it_all h0 (i := 0) rfl ((by rw [show k = t.length by omega]; rfl))
theorem proofsMk_calls (w0 : World) (Z : Nat → Prop) (hZ : ∀ k, Z k → k < w0.heap.size) (tA : Option Addr) (tc : Nat) (t : List Nd) (ht : (dRow 4 tA t.length tc (encNs t)).φ w0 Z) (hl : t.length ≤ 1000000 := by first | assumption | omega | (simp <;> omega)) :
    Calls Tryz.prog 54 [.slice tA t.length tc].toArray w0 (fun e w' => ∃ q0_0 : Nat, e = .returned (.func (.func 88) #[] #[.pointer (some ⟨q0_0, 0, none⟩)]) ∧ Fr none_ w0 w' ∧ (dBox q0_0 [.slice tA t.length tc]).φ w' (nxt Z w0 w')) := by
 have b0 := s0 (M := none_) hZ (zc ht zn)
 refine c_enter Tryz.func54 rfl Tryz.ntmps54 rfl fun c0 d0 => ?_
 refine wsc fun c0 f0 => bxx d0 b0 fun c0 h0 i0 j0 k0 => ?_
 refine aw j0 f0 fun h0 c0 => ?_
 refine wsc fun f0 h0 => r_makeFunc sv c0 rfl rfl rfl (by decide) fun f0 j0 => ?_
 refine aw j0 h0 fun f0 c0 => ?_
 refine wp_ret <| er1 c0 ?_
 obtain ⟨c0, h0⟩ := k0.box_data (i := 0) rfl (fun _ h => h)
 have k0 := c0.data (dBox i0 [.slice tA t.length tc]) h0
 refine ⟨i0, ?_, k0.fr, ((k0.get (i := 1) rfl).imp imm_nxt id)⟩
 exact cre rfl
theorem nodesMk_calls (w0 : World) (Z : Nat → Prop) (hZ : ∀ k, Z k → k < w0.heap.size) (tA : Option Addr) (tc : Nat) (t : List Nd) (ht : (dRow 4 tA t.length tc (encNs t)).φ w0 Z) (hl : t.length ≤ 1000000 := by first | assumption | omega | (simp <;> omega)) :
    Calls Tryz.prog 154 [.slice tA t.length tc].toArray w0 (fun e w' => ∃ q0_0 : Nat, e = .returned (.func (.func 161) #[] #[.pointer (some ⟨q0_0, 0, none⟩)]) ∧ Fr none_ w0 w' ∧ (dBox q0_0 [.slice tA t.length tc]).φ w' (nxt Z w0 w')) := by
 have b0 := s0 (M := none_) hZ (zc ht zn)
 refine c_enter Tryz.func154 rfl Tryz.ntmps154 rfl fun c0 d0 => ?_
 refine wsc fun c0 f0 => bxx d0 b0 fun c0 h0 i0 j0 k0 => ?_
 refine aw j0 f0 fun h0 c0 => ?_
 refine wsc fun f0 h0 => r_makeFunc sv c0 rfl rfl rfl (by decide) fun f0 j0 => ?_
 refine aw j0 h0 fun f0 c0 => ?_
 refine wp_ret <| er1 c0 ?_
 obtain ⟨c0, h0⟩ := k0.box_data (i := 0) rfl (fun _ h => h)
 have k0 := c0.data (dBox i0 [.slice tA t.length tc]) h0
 refine ⟨i0, ?_, k0.fr, ((k0.get (i := 1) rfl).imp imm_nxt id)⟩
 exact cre rfl
theorem unless_calls (w0 : World) (Z : Nat → Prop) (hZ : ∀ k, Z k → k < w0.heap.size) (b : Bool) (x : Int)  :
    Calls Tryz.prog 80 [.bool b, .int .i64 x].toArray w0 (fun e w' => ∃ q0_0 : Nat, ∃ q0_1 : Nat, e = .returned (.func (.func 114) #[] #[.pointer (some ⟨q0_0, 0, none⟩), .pointer (some ⟨q0_1, 0, none⟩)]) ∧ Fr none_ w0 w' ∧ (dBox q0_0 [.bool b]).φ w' (nxt Z w0 w') ∧ (dBox q0_1 [.int .i64 (x)]).φ w' (nxt Z w0 w')) := by
 have b0 := s0 (M := none_) hZ zn
 refine c_enter Tryz.func80 rfl Tryz.ntmps80 rfl fun c0 d0 => ?_
 refine wsc fun c0 f0 => bxx d0 b0 fun c0 h0 i0 j0 k0 => ?_
 refine bxx j0 k0 fun h0 c0 d0 b0 m0 => ?_
 refine aw b0 f0 fun c0 h0 => ?_
 refine wsc fun f0 c0 => r_makeFunc sv h0 rfl rfl rfl (by decide) fun f0 b0 => ?_
 refine aw b0 c0 fun f0 h0 => ?_
 refine wp_ret <| er1 h0 ?_
 obtain ⟨h0, c0⟩ := m0.box_data (i := 0) rfl (fun _ h => h)
 have m0 := h0.data (dBox i0 [.bool b]) c0
 obtain ⟨c0, h0⟩ := m0.box_data (i := 0) rfl (fun _ h => h)
 have m0 := c0.data (dBox d0 [.int .i64 (x)]) h0
 refine ⟨i0, d0, ?_, m0.fr, ((m0.get (i := 0) rfl).imp imm_nxt id), ((m0.get (i := 1) rfl).imp imm_nxt id)⟩
 exact cre rfl
theorem unless1_calls (w0 : World) (Z : Nat → Prop) (hZ : ∀ k, Z k → k < w0.heap.size) (pg : Nat) (pb : Bool) (qg : Nat) (qe : Int) (hpQ : (dBox pg [.bool pb]).φ w0 Z) (hqQ : (dBox qg [.int .i64 (qe)]).φ w0 Z) :
    Calls Tryz.prog 114 [.pointer (some ⟨pg, 0, none⟩), .pointer (some ⟨qg, 0, none⟩)].toArray w0 (fun e w' => e = .returned (.int .i64 (mkI (!pb) qe)) ∧ Fr none_ w0 w') := by
 have b0 := s0 (M := none_) hZ (zc hpQ (zc hqQ zn))
 refine c_enter Tryz.func114 rfl Tryz.ntmps114 rfl fun c0 d0 => ?_
 refine wsc fun c0 f0 => aw d0 f0 fun c0 h0 => ?_
 refine wp_seq_k fun f0 c0 => wsc fun f0 d0 => m_loadC sv h0 rfl rfl rfl (dbox_cell (b0.get (i := 0) rfl) rfl) Tryz.underlying4 rfl (by decide) fun f0 i0 => ?_
 refine wn d0 ?_
 rcases Bool.eq_false_or_eq_true (pb) with d0 | d0
 ·
  refine wct i0 d0 fun f0 => ?_
  refine wsc fun h0 j0 => aw f0 j0 fun h0 k0 => ?_
  refine wp_ret <| x_then_r <| er1 k0 ?_
  refine ⟨?_, b0.fr⟩
  exact cre (ret_i (by (unfold mkI; simp [d0])))
 refine wcf i0 d0 fun k0 => ?_
 refine wp_skip <| xn c0 <| wsc fun c0 i0 => m_loadC sv k0 rfl rfl rfl (dbox_cell (b0.get (i := 1) rfl) rfl) Tryz.underlying31 rfl (by decide) fun c0 j0 => ?_
 refine aw j0 i0 fun c0 k0 => ?_
 refine wp_ret <| er1 k0 ?_
 refine ⟨?_, b0.fr⟩
 exact cre (ret_i (by (unfold mkI; simp [d0])))
theorem closed_calls (w0 : World) (Z : Nat → Prop) (hZ : ∀ k, Z k → k < w0.heap.size) (dK : Int) (dL : Int) (dS : ByteArray) (dTA : Option Addr) (dTc : Nat) (dT : List Nd) (dBA : Option Addr) (dBc : Nat) (dB : List Nd) (dCA : Option Addr) (dCc : Nat) (dC : List Tl) (hdT : (dRow 4 dTA dT.length dTc (encNs dT)).φ w0 Z) (hdB : (dRow 4 dBA dB.length dBc (encNs dB)).φ w0 Z) (hdC : (dRow 1 dCA dC.length dCc (encTs dC)).φ w0 Z) (hdCs : (dAllT dC).φ w0 Z) :
    Calls Tryz.prog 82 [.agg #[.int .i64 (dK), .int .i64 (dL), .string dS, .slice dTA dT.length dTc, .slice dBA dB.length dBc, .slice dCA dC.length dCc]].toArray w0 (fun e w' => ∃ q0_0 : Nat, e = .returned (.func (.func 117) #[] #[.pointer (some ⟨q0_0, 0, none⟩)]) ∧ Fr none_ w0 w' ∧ (dBox q0_0 [.int .i64 (dK), .int .i64 (dL), .string dS, .slice dTA dT.length dTc, .slice dBA dB.length dBc, .slice dCA dC.length dCc]).φ w' (nxt Z w0 w')) := by
 have b0 := s0 (M := none_) hZ (zc hdT (zc hdB (zc hdC (zc hdCs zn))))
 refine c_enter Tryz.func82 rfl Tryz.ntmps82 rfl fun c0 d0 => ?_
 refine wsc fun c0 f0 => bxx d0 b0 fun c0 h0 i0 j0 k0 => ?_
 refine aw j0 f0 fun h0 c0 => ?_
 refine wsc fun f0 h0 => r_makeFunc sv c0 rfl rfl rfl (by decide) fun f0 j0 => ?_
 refine aw j0 h0 fun f0 c0 => ?_
 refine wp_ret <| er1 c0 ?_
 obtain ⟨c0, h0⟩ := k0.box_data (i := 0) rfl (fun _ h => h)
 have k0 := c0.data (dBox i0 [.int .i64 (dK), .int .i64 (dL), .string dS, .slice dTA dT.length dTc, .slice dBA dB.length dBc, .slice dCA dC.length dCc]) h0
 refine ⟨i0, ?_, k0.fr, ((k0.get (i := 4) rfl).imp imm_nxt id)⟩
 exact cre rfl
theorem growS_calls (w0 : World) (Z : Nat → Prop) (hZ : ∀ k, Z k → k < w0.heap.size) (n : Nat) (hn : n ≤ 1000000 := by first | assumption | omega | (simp <;> omega)) :
    Calls Tryz.prog 158 [.slice none 0 0, .int .i64 ((n : Nat) : Int)].toArray w0 (fun e w' => ∃ (rA0 : Option Addr) (rc0 : Nat), e = .returned (.slice rA0 (([] : List Sl)).length rc0) ∧ Fr none_ w0 w' ∧ (Res.row rA0 (([] : List Sl)).length rc0 22 1 (encSs ([] : List Sl))).holds w' ∧ (∀ k, (Res.row rA0 (([] : List Sl)).length rc0 22 1 (encSs ([] : List Sl))).blk = some k → w0.heap.size ≤ k)) := by
 have b0 := s0 (M := none_) hZ zn
 refine c_enter Tryz.func158 rfl Tryz.ntmps158 rfl fun c0 d0 => ?_
 refine wsc fun c0 f0 => aw d0 f0 fun c0 h0 => ?_
 refine wp_seq_k fun f0 c0 => wsc fun f0 d0 => lR h0 fun f0 i0 => ?_
 refine wn d0 ?_
 rcases Decidable.em (((n : Nat) : Int) < 0) with d0 | d0
 ·
  exfalso; omega
 refine wcf i0 (decide_eq_false d0) fun f0 => ?_
 refine wp_skip <| xn c0 <| wp_seq_k fun c0 d0 => wsc fun c0 i0 => lR f0 fun c0 h0 => ?_
 refine r_cap sv h0 rfl rfl rfl rfl Tryz.underlying37 (by decide) fun c0 f0 => ?_
 refine lR f0 fun c0 h0 => ?_
 refine sbi ((0 : Nat) : Int) h0 fun c0 f0 => ?_
 refine sbi (((n : Nat) : Int) - ((0 : Nat) : Int)) f0 fun c0 h0 => ?_
 refine aw h0 i0 fun c0 f0 => ?_
 refine wsc fun i0 c0 => lR f0 fun i0 h0 => ?_
 refine wn c0 ?_
 rcases Decidable.em (0 < (((n : Nat) : Int) - ((0 : Nat) : Int))) with c0 | c0
 ·
  refine wct h0 (decide_eq_true c0) fun i0 => ?_
  refine c_region ?_
  refine lR i0 fun f0 j0 => ?_
  refine r_cap sv j0 rfl rfl rfl rfl Tryz.underlying37 (by decide) fun f0 i0 => ?_
  refine m_sliceP (q := 0) sv i0 rfl rfl rfl rfl (by omega) Tryz.underlying37 sz22 (by omega) (by decide) fun f0 j0 => ?_
  refine mv j0 fun f0 i0 => ?_
  have f0 : (((n : Nat) : Int) - ((0 : Nat) : Int)) = (((n) - (0) : Nat) : Int) := by omega
  refine m_appendS0 ((n) - (0)) sv i0 b0 rfl rfl rfl rfl f0 (by omega) (by omega) Tryz.underlying37 Tryz.underlying3 zi22 (by decide) fun j0 k0 m0 n0 o0 p0 => ?_
  have k0 : (List.replicate ((n) - (0)) slz).length = (n) - (0) := List.length_replicate
  refine lR o0 fun k0 j0 => ?_
  have k0 := own_cap (p0.res (i := 0) rfl)
  refine m_sliceP (q := 0) sv j0 rfl rfl rfl rfl (by omega) Tryz.underlying37 sz22 (by omega) (by decide) fun k0 o0 => ?_
  refine aw o0 d0 fun k0 j0 => ?_
  refine wsc fun k0 o0 => lR j0 fun k0 f0 => ?_
  refine wn o0 <| wp_ret <| er1 f0 ?_
  have f0 : ([] : List Sl) = (List.replicate ((n) - (0)) slz).take (0) := (by rfl)
  rw [f0]
  have f0 := p0.trim encS_len (i := 0) (L := (List.replicate ((n) - (0)) slz)) rfl (0) (by omega)
  refine ⟨m0, n0, ?_, f0.fr, (f0.res (i := 0) rfl), (f0.fresh (i := 0) rfl)⟩
  exact cre rfl
 refine wcf h0 (decide_eq_false c0) fun f0 => ?_
 refine wp_skip <| xn d0 <| wsc fun d0 c0 => lR f0 fun d0 h0 => ?_
 refine wn c0 <| wp_ret <| er1 h0 ?_
 have h0 : ([] : List Sl) = [] := (by rfl)
 rw [h0]
 refine ⟨none, 0, ?_, b0.fr, nil_row1, nil_row2⟩
 exact cre rfl
theorem free1_calls (w0 : World) (Z : Nat → Prop) (hZ : ∀ k, Z k → k < w0.heap.size) (x : Int) (cg : Nat) (cn : Int) (hc : (Res.box cg 3 [.int .i64 (cn)]).holds w0) (hcz : ¬ Z cg) (hx : -1000000 ≤ x ∧ x ≤ 1000000 := by first | assumption | omega | (simp <;> omega)) :
    Calls Tryz.prog 144 [.int .i64 x, .pointer (some ⟨cg, 0, none⟩)].toArray w0 (fun e w' => e = .returned (.tuple #[]) ∧ Fr (· = cg) w0 w' ∧ (Res.box cg 3 [.int .i64 ((max cn (x + 1)))]).holds w') := by
 have b0 := sM hc hcz hZ zn
 refine c_enter Tryz.func144 rfl Tryz.ntmps144 rfl fun c0 d0 => ?_
 refine c_region ?_
 refine lR d0 fun c0 f0 => ?_
 refine adi (x + 1) f0 fun c0 d0 => ?_
 refine r_max sv d0 rfl rfl rfl rfl rfl (by decide) fun c0 f0 => ?_
 refine sto 0 f0 b0 fun c0 d0 h0 i0 => ?_
 refine wpList_nil ?_
 refine e_end0 h0 rfl rfl ?_
 refine ⟨?_, i0.fr, (by rw [show (max cn (x + 1) : Int) = ((max (cn) (x + 1))) by rfl]; exact i0.res (i := 0) rfl)⟩
 rfl
theorem each_calls (w0 : World) (Z : Nat → Prop) (hZ : ∀ k, Z k → k < w0.heap.size) (tA : Option Addr) (tc : Nat) (t : List Nd) (cg : Nat) (cn : Int) (hShp : Shapes w0 Z) (ht : (dRow 4 tA t.length tc (encNs t)).φ w0 Z) (hc : (Res.box cg 3 [.int .i64 (cn)]).holds w0) (hcz : ¬ Z cg) (hsm : sml t := by first | assumption | omega | (simp <;> omega)) (hl : t.length ≤ 1000000 := by first | assumption | omega | (simp <;> omega)) :
    Calls Tryz.prog 143 [.slice tA t.length tc, .func (.func 144) #[] #[.pointer (some ⟨cg, 0, none⟩)]].toArray w0 (fun e w' => e = .returned (.int .i64 (chk t)) ∧ Fr (· = cg) w0 w' ∧ (Res.box cg 3 [.int .i64 ((if chk t = 0 then mxS t cn (nodesL t) else cn))]).holds w') := by
 have b0 := sM hc hcz hZ (zc (d := dShapes) hShp (zc ht zn))
 refine c_enterM Tryz.func143 rfl Tryz.ntmps143 rfl fun c0 d0 => ?_
 refine wsc fun c0 f0 => bxx d0 b0 fun c0 h0 i0 j0 k0 => ?_
 refine bxx j0 k0 fun h0 c0 d0 b0 m0 => ?_
 refine aw b0 f0 fun c0 h0 => ?_
 refine wp_seq_k fun f0 c0 => wsc fun f0 b0 => lR h0 fun f0 k0 => ?_
 have f0 := m0.nf
 refine kcl k0 ok20 (check_calls _ _ f0.il _ _ _ (f0.g 0) (f0.g 1)) ?_
 rintro k0 m0 ⟨rfl, h0⟩
 have m0 := f0.below h0.below
 refine ⟨_, rfl, fun h0 f0 => ?_⟩
 refine aw f0 b0 fun h0 k0 => ?_
 refine wsc fun b0 h0 => lR k0 fun b0 f0 => ?_
 refine wn h0 ?_
 rcases Decidable.em (((chk t)) = 0) with h0 | h0
 ·
  have hc := h0
  refine wcfb f0 rfl (by rw [(decide_eq_true h0)]; rfl) fun b0 => ?_
  refine wp_skip <| xn c0 <| wp_seq_k fun c0 k0 => wsc fun c0 j0 => lR b0 fun c0 n0 => ?_
  have c0 := m0.nf
  refine kcl n0 ok154 (nodesMk_calls _ _ c0.il _ _ _ (c0.g 1)) ?_
  rintro n0 b0 ⟨o0, rfl, p0, q0⟩
  have b0 := c0.below p0.below
  have p0 := c0.dN b0 q0
  refine ⟨_, rfl, fun b0 q0 => ?_⟩
  refine wn j0 <| wp_block ?_
  have j0 := p0.nf
  have p0 : Reg b0 37 [(1000000, .bool false), (2, .pointer (some ⟨i0, 0, none⟩)), (3, .pointer (some ⟨d0, 0, none⟩)), (4, .int .i64 0), (15, .func (.func 161) #[] #[.pointer (some ⟨o0, 0, none⟩)])] := (q0.sub (rc4 (rc rfl rnl)))
  refine w_range (xs := nodesL t) (encs := (fun x : Int × Int => #[.int .i64 x.1, .int .i64 x.2])) (p0.ev rfl) ok161 (nodes_yields _ (imm Z w0 [.box cg 3 [.int .i64 (cn)], .box i0 22 [.slice tA t.length tc], .box d0 167 [.func (.func 144) #[] #[.pointer (some ⟨cg, 0, none⟩)]]] _) o0 tA tc t (j0.get (i := 0) rfl) (j0.get (i := 1) rfl) (j0.get (i := 2) rfl) (by assumption) (by assumption) (by assumption)) (fun _ => rfl) j0 (fun _ h => h) (fun (pre : List (Int × Int)) (mm : List Res) => ∃ dm : Nat, mm = [.box cg 3 [.int .i64 ((mxS t cn pre))], .box i0 22 [.slice tA t.length tc], .box d0 167 [.func (.func 144) #[] #[.pointer (some ⟨cg, 0, none⟩)]]]) (fun _ _ _ => False) ⟨0, rfl⟩ ?_ ?_ ?_
  ·
   rintro j0 pre x q0 m1 hp ⟨dm, rfl⟩ b0
   obtain ⟨xi, xj, rfl, hxi, hxj⟩ := nodesL_nat hc hp
   refine (?_ : ∀ c0, Reg c0 37 [(17, .int .i64 ((xj : Nat) : Int)), (16, .int .i64 ((xi : Nat) : Int)), (1000000, .bool false), (2, .pointer (some ⟨i0, 0, none⟩)), (3, .pointer (some ⟨d0, 0, none⟩)), (4, .int .i64 0), (15, .func (.func 161) #[] #[.pointer (some ⟨o0, 0, none⟩)])] → Code.wpIn (rI j0) 0 _ _ _ c0 q0) _ (Reg.round2n p0 (by decide) (by decide) rfl)
   intro c0 q0
   have hrx := right_at (meas_chk hc) hxi
   have hvx : (nth t xi).K = 0 → 0 ≤ (nth t xi).N ∧ (nth t xi).N ≤ 99 := fun h => (var_node hrx h).2
   refine wpIn_seq_k fun c0 j0 => ?_
   refine ci_region (by kernel_rfl) (out_then (out_then (fun _ _ h => h))) ?_
   refine aw q0 j0 fun c0 o0 => ?_
   refine ci_region (by kernel_rfl) (out_then (fun _ _ h => h)) ?_
   refine asg o0 fun j0 c0 => ?_
   refine wpList_nil ?_
   have j0 := b0.nf
   refine x_then_n ⟨_, _, 3, j0, rfl, (fun _ h => ⟨_, List.mem_cons_self, by rw [h]; rfl⟩), (fun _ h => ⟨_, List.mem_cons_self, by rw [h]; rfl⟩), fun b0 o0 => ?_⟩
   refine wpIn_block ?_
   refine wpIn_seq_k fun b0 j0 => ?_
   refine ci_region (by kernel_rfl) (out_then (out_block out_rPost)) ?_
   refine lR c0 fun b0 q0 => ?_
   refine ix xi (xi * 4) q0 (nds_elem (t := t) (k := xi) (o0.row (i := 1) rfl).2 (by omega)).some_ fun b0 c0 => ?_
   refine m_loadEN sv c0 rfl rfl rfl (nds_elem (t := t) (k := xi) (o0.row (i := 1) rfl).2 (by omega)) Tryz.underlying30 rfl sz30 (by decide) fun b0 q0 => ?_
   refine alc q0 o0 fun b0 c0 d0 i0 n0 => ?_
   refine sto 3 i0 n0 fun d0 c0 b0 q0 => ?_
   refine wn j0 <| wpIn_seq_k fun j0 c0 => ?_
   refine ci_region (by kernel_rfl) (out_then (out_block out_rPost)) ?_
   refine lR b0 fun j0 d0 => ?_
   refine lAn 4 (decide (((xj : Nat) : Int) ≤ (((nth t xi).N)))) d0 fun j0 b0 => ?_
   refine wn c0 ?_
   rcases Bool.eq_false_or_eq_true (((decide ((((nth t xi).K)) = 0)) && (decide (((xj : Nat) : Int) ≤ (((nth t xi).N)))))) with c0 | c0
   ·
    have j0 := and_tl c0
    have d0 := of_decide_eq_true j0
    have d0 := and_tr c0
    have j0 := of_decide_eq_true d0
    have j0 := b0.setb (d := 30) (b := true) rfl c0
    refine wpIn_cond_true (j0.ev rfl) ?_
    refine ci_region (by kernel_rfl) (out_block out_rPost) ?_
    refine lR j0 fun d0 n0 => ?_
    refine sbi (((nth t xi).N) - ((xj : Nat) : Int)) n0 fun d0 j0 => ?_
    have d0 := q0.nf
    refine k_callV (xs := [.tmp 35]) se j0 rfl rfl rfl rfl (by decide) ok144 (free1_calls _ _ d0.il (((nth t xi).N) - ((xj : Nat) : Int)) _ _ (d0.z 0) (imm_box (i := 0) rfl)) ?_
    rintro j0 n0 ⟨rfl, i0, o0⟩
    have n0 := d0.callM (i := 0) rfl i0 o0
    refine ⟨_, rfl, fun o0 i0 => ?_⟩
    refine wpList_nil ?_
    refine x_block_n ?_
    have i0 := n0.nf
    have n0 := i0.erase 3
    exact ⟨_, _, 3, n0, rfl, 0, (by rw [mxS_snoc]; first | (rw [mxF_yes (by omega) (by omega)]; first | done | rfl) | (rw [mxF_no (by omega)]; first | done | rfl))⟩
   have n0 := c0
   try simp only [bz] at n0
   have n0 := b0.setb (d := 30) (b := false) rfl c0
   refine wpIn_cond_false (n0.ev rfl) ?_
   refine wpIn_skip ?_
   refine x_block_n ?_
   have n0 := q0.nf
   have q0 := n0.erase 3
   exact ⟨_, _, 3, q0, rfl, 0, (by rw [mxS_snoc]; first | (rw [mxF_yes (by omega) (by omega)]; first | done | rfl) | (rw [mxF_no (by omega)]; first | done | rfl))⟩
  ·
   rintro q0 m1 n0 ⟨dm, rfl⟩ c0
   have n0 := Reg.marked p0 q0
   refine x_block_n <| xn k0 <| wsc fun k0 q0 => aw n0 q0 fun k0 p0 => ?_
   refine wp_ret ?_
   have q0 := c0.nf
   obtain ⟨c0, k0⟩ := q0.shut (i := 3) rfl [] (fun _ h => by cases h)
   refine m_mark (.inl rfl) p0 rfl c0 (res1 p0 rfl rfl _) ?_
   refine ⟨?_, k0.fr, (by rw [show (if chk t = 0 then mxS t cn (nodesL t) else cn : Int) = (((mxS t cn (nodesL t)))) by (simp [h0])]; exact k0.res (i := 0) rfl)⟩
   exact cre (ret_i (by omega))
  rintro _ _ _ _ _ _ h _
  exact h.elim
 refine wctb f0 rfl (by rw [(decide_eq_false h0)]; rfl) fun k0 => ?_
 refine wsc fun f0 c0 => lR k0 fun f0 p0 => ?_
 refine wn c0 <| wp_ret <| x_then_r <| m_none (.inl rfl) p0 rfl (res1 p0 rfl rfl _) ?_
 refine ⟨?_, m0.fr, (by rw [show (if chk t = 0 then mxS t cn (nodesL t) else cn : Int) = (cn) by (simp [h0])]; exact m0.res (i := 0) rfl)⟩
 exact cre (ret_i (by rfl))
theorem pfree_calls (w0 : World) (Z : Nat → Prop) (hZ : ∀ k, Z k → k < w0.heap.size) (tA : Option Addr) (tc : Nat) (t : List Nd) (hShp : Shapes w0 Z) (ht : (dRow 4 tA t.length tc (encNs t)).φ w0 Z) (hsm : sml t := by first | assumption | omega | (simp <;> omega)) (hl : t.length ≤ 1000000 := by first | assumption | omega | (simp <;> omega)) :
    Calls Tryz.prog 119 [.slice tA t.length tc].toArray w0 (fun e w' => e = .returned (.tuple #[.int .i64 (frF t), .int .i64 (chk t)]) ∧ Fr none_ w0 w') := by
 have b0 := s0 (M := none_) hZ (zc (d := dShapes) hShp (zc ht zn))
 refine c_enter Tryz.func119 rfl Tryz.ntmps119 rfl fun c0 d0 => ?_
 refine wsc fun c0 f0 => lR d0 fun c0 h0 => ?_
 refine wn f0 <| wsc fun f0 c0 => alc h0 b0 fun f0 d0 i0 j0 k0 => ?_
 refine sto 0 j0 k0 fun i0 d0 f0 h0 => ?_
 refine wn c0 <| wsc fun c0 d0 => mv f0 fun c0 i0 => ?_
 refine r_makeFunc sv i0 rfl rfl rfl (by decide) fun c0 f0 => ?_
 have c0 := h0.nf
 refine kcl f0 ok143 (each_calls _ _ c0.il _ _ _ _ _ (c0.g 0) (c0.g 1) (c0.z 0) (imm_box (i := 0) rfl)) ?_
 rintro f0 h0 ⟨rfl, i0, k0⟩
 have h0 := c0.callM (i := 0) rfl i0 k0
 refine ⟨_, rfl, fun k0 i0 => ?_⟩
 refine aw i0 d0 fun k0 c0 => ?_
 refine wsc fun d0 k0 => lR c0 fun d0 i0 => ?_
 refine wn k0 <| wp_ret <| er2 i0 ?_
 refine ⟨?_, h0.fr⟩
 exact ret_t2 (ret_i (by (by_cases hc : chk t = 0 <;> simp [hc, mx_all, frF]; done))) (ret_i (by rfl))
theorem tback_yields (w0 : World) (Z : Nat → Prop) (tg : Nat) (tA : Option Addr) (tc : Nat) (t : List Nd) (msg : Nat) (msA : Option Addr) (msc : Nat) (ms : List (Int × Int)) (hShp : Shapes w0 Z) (ht : (dRow 4 tA t.length tc (encNs t)).φ w0 Z) (htb : (dBox tg [.slice tA t.length tc]).φ w0 Z) (hms : (dRow 2 msA ms.length msc (encMs ms)).φ w0 Z) (hmsb : (dBox msg [.slice msA ms.length msc]).φ w0 Z) (hl : t.length ≤ 1000000) (hsm : sml t) (hc : chk t = 0) (hmq : ms = measL t) :
    Yields Tryz.prog 145 [.pointer (some ⟨tg, 0, none⟩), .pointer (some ⟨msg, 0, none⟩)].toArray (fun x : Int × Sl => #[.int .i64 x.1, .slice x.2.1 x.2.2.2.length x.2.2.1]) (bkS tA tc t) Z w0 := by
 refine yields_of Tryz.func145 rfl Tryz.ntmps145 rfl [dShapes, dRow 4 tA t.length tc (encNs t), dBox tg [.slice tA t.length tc], dRow 2 msA ms.length msc (encMs ms), dBox msg [.slice msA ms.length msc]] (by
  intro d hd
  simp only [List.mem_cons, List.not_mem_nil, or_false] at hd
  rcases hd with rfl | rfl | rfl | rfl | rfl
  · exact hShp
  · exact ht
  · exact htb
  · exact hms
  · exact hmsb
  ) (fun lp jf jx w0 C0 M0 hY hds b0 c0 d0 => ?_)
 have hb := meas_chk hc
 have hp0 := meas_pos hb
 have hrt := right_at hb (show t.length - 1 < t.length by omega)
 have hm8 := many_le hrt
 have hml : ms.length = t.length := by rw [hmq]; exact measL_length hb
 refine wsc fun b0 f0 => m_loadC sv c0 rfl rfl rfl (dbox_cell (d0.get (i := 3) rfl) rfl) Tryz.underlying22 rfl (by decide) fun b0 h0 => ?_
 refine lR h0 fun b0 c0 => ?_
 refine sbi (((t.length : Nat) : Int) - 1) c0 fun b0 h0 => ?_
 refine aw h0 f0 fun b0 c0 => ?_
 refine wsc fun f0 b0 => m_loadC sv c0 rfl rfl rfl (dbox_cell (d0.get (i := 3) rfl) rfl) Tryz.underlying22 rfl (by decide) fun f0 h0 => ?_
 refine mv h0 fun f0 c0 => ?_
 refine ix ((t.length) - (1)) (((t.length) - (1)) * 4) c0 (nds_elem (t := t) (k := (t.length) - (1)) (d0.row (i := 2) rfl).2 (by omega)).some_ fun f0 h0 => ?_
 refine m_loadEN sv h0 rfl rfl rfl (nds_elem (t := t) (k := (t.length) - (1)) (d0.row (i := 2) rfl).2 (by omega)) Tryz.underlying30 rfl sz30 (by decide) fun f0 c0 => ?_
 have f0 := d0.nf
 refine kcl c0 ok120 (many_calls _ _ f0.il (nth t ((t.length) - (1))) (f0.g 1)) ?_
 rintro c0 d0 ⟨rfl, h0⟩
 have d0 := f0.below h0.below
 refine ⟨_, rfl, fun h0 f0 => ?_⟩
 refine sbi (((many (nth t ((t.length) - (1))) : Nat) : Int) - 1) f0 fun h0 c0 => ?_
 refine aw c0 b0 fun h0 f0 => ?_
 refine wp_block ?_
 refine wp_loop_ghost (fun gn ga gw => ∃ k : Nat, (Reg ga 35 [(1000000, .bool false), (0, .func (.yield lp) #[] #[]), (1, .pointer (some ⟨tg, 0, none⟩)), (2, .pointer (some ⟨msg, 0, none⟩)), (4, .int .i64 ((posL t (t.length - 1) k : Nat) : Int)), (5, .int .i64 (((many (nth t (t.length - 1)) : Nat) : Int) - ((k : Nat) : Int) - 1))]) ∧ (St w0 (oldB w0) M0 gw [] [dJ jf ((bkS tA tc t).take k) C0 M0 w0.heap.size, dShapes, dRow 4 tA t.length tc (encNs t), dBox tg [.slice tA t.length tc], dRow 2 msA ms.length msc (encMs ms), dBox msg [.slice msA ms.length msc]]) ∧ (k ≤ many (nth t (t.length - 1))) ∧ (many (nth t (t.length - 1)) - k) = gn) _ ⟨0, (f0.sub (rc4 (rc (ri rfl (by rw [posL_zero hb (by omega)]; omega)) (rc (ri rfl (by omega)) rnl)))), d0, by omega, rfl⟩ ?_
 rintro f0 d0 b0 ⟨k, h0, c0, hk, i0⟩
 refine wp_seq_k fun i0 b0 => wsc fun i0 d0 => lR h0 fun i0 f0 => ?_
 refine wn d0 ?_
 rcases Decidable.em (0 ≤ (((many (nth t (t.length - 1)) : Nat) : Int) - ((k : Nat) : Int) - 1)) with d0 | d0
 ·
  obtain ⟨hps1, hps2, hps3, hps4⟩ := ps_step hb (show k < many (nth t (t.length - 1)) by omega)
  rw [← hmq] at hps3
  refine wct f0 (decide_eq_true d0) fun i0 => ?_
  refine wp_skip <| xn b0 <| wp_seq_k fun b0 h0 => wp_block ?_
  refine wsc fun b0 j0 => m_loadC sv i0 rfl rfl rfl (dbox_cell (c0.get (i := 5) rfl) rfl) Tryz.underlying92 rfl (by decide) fun b0 k0 => ?_
  refine mv k0 fun b0 i0 => ?_
  refine sbi (((posL t (t.length - 1) k : Nat) : Int) - 1) i0 fun b0 k0 => ?_
  refine ix ((posL t (t.length - 1) k) - (1)) (((posL t (t.length - 1) k) - (1)) * 2) k0 (ms_elem (t := ms) (k := (posL t (t.length - 1) k) - (1)) (c0.row (i := 4) rfl).2 (by omega)).some_ fun b0 i0 => ?_
  refine m_fieldE (j' := ((posL t (t.length - 1) k) - (1)) * 2) sv i0 rfl rfl rfl (ms_elem (t := ms) (k := (posL t (t.length - 1) k) - (1)) (c0.row (i := 4) rfl).2 (by omega)).some_ Tryz.underlying126 rfl sz3 rfl rfl (by decide) fun b0 k0 => ?_
  refine lde 0 (((posL t (t.length - 1) k) - (1)) * 2) k0 (ms_elem (t := ms) (k := (posL t (t.length - 1) k) - (1)) (c0.row (i := 4) rfl).2 (by omega)) fun b0 i0 => ?_
  refine asg i0 fun b0 k0 => ?_
  have b0 := Reg.cons k0 k0 (ri (i := 6) (b := ((posL t (t.length - 1) (k + 1) : Nat) : Int)) rfl (hps3.symm))
  refine wn j0 <| wp_seq_k fun j0 k0 => wp_seq_k fun j0 i0 => cy_region ?_
  refine r_move (st_listInV rfl rfl) b0 rfl rfl rfl (by decide) fun j0 m0 => ?_
  refine r_move (st_listInV rfl rfl) m0 rfl rfl rfl (by decide) fun j0 b0 => ?_
  refine m_loadC (st_listInV rfl rfl) b0 rfl rfl rfl (dbox_cell (c0.get (i := 3) rfl) rfl) Tryz.underlying22 rfl (by decide) fun j0 m0 => ?_
  refine r_move (st_listInV rfl rfl) m0 rfl rfl rfl (by decide) fun j0 b0 => ?_
  refine r_move (st_listInV rfl rfl) b0 rfl rfl rfl (by decide) fun j0 m0 => ?_
  have j0 : (((t).drop (posL t (t.length - 1) (k + 1))).take ((posL t (t.length - 1) k) - (posL t (t.length - 1) (k + 1)))).length = (posL t (t.length - 1) k) - (posL t (t.length - 1) (k + 1)) := by simp only [List.length_drop, List.length_take]; omega
  have j0 := c0.data (dRow 4 (if tc = posL t (t.length - 1) (k + 1) then tA else (tA).map (·.add ((posL t (t.length - 1) (k + 1)) * 4))) ((((t).drop (posL t (t.length - 1) (k + 1))).take ((posL t (t.length - 1) k) - (posL t (t.length - 1) (k + 1)))).length) (tc - (posL t (t.length - 1) (k + 1))) (encNs (((t).drop (posL t (t.length - 1) (k + 1))).take ((posL t (t.length - 1) k) - (posL t (t.length - 1) (k + 1)))))) (cut_row (f := encN) (L := t) (c0.get (i := 2) rfl) encN_len (by omega))
  have b0 := (j0.get (i := 2) rfl).1
  refine m_sliceA (lo := some (.tmp 29)) (hi := some (.tmp 30)) (vlo := (some (.int .i64 ((posL t (t.length - 1) (k + 1) : Nat) : Int)))) (vhi := (some (.int .i64 ((posL t (t.length - 1) k : Nat) : Int)))) (kd := .i64) (kd' := .i64) (st_listInV rfl rfl) m0 rfl rfl rfl rfl rfl (posL t (t.length - 1) (k + 1)) ((((t).drop (posL t (t.length - 1) (k + 1))).take ((posL t (t.length - 1) k) - (posL t (t.length - 1) (k + 1)))).length) (.inl (by rfl)) (.inl (by (congr 2; omega))) Tryz.underlying22 sz30 (by omega) (by decide) fun b0 n0 => ?_
  have b0 := j0.nf
  refine y_call (t := .tmp 26) (xs := [.tmp 27, .tmp 31]) (pre := (bkS tA tc t).take k) (i := 0) (ds0 := [dShapes, dRow 4 tA t.length tc (encNs t), dBox tg [.slice tA t.length tc], dRow 2 msA ms.length msc (encMs ms), dBox msg [.slice msA ms.length msc]]) hY rfl n0 b0 rfl rfl rfl rfl (by decide) ((((((many (nth t (t.length - 1)) : Nat) : Int) - ((k : Nat) : Int) - 1), (((if tc = posL t (t.length - 1) (k + 1) then tA else (tA).map (·.add ((posL t (t.length - 1) (k + 1)) * 4))), (tc - (posL t (t.length - 1) (k + 1))), ((t).drop (posL t (t.length - 1) (k + 1))).take ((posL t (t.length - 1) k) - (posL t (t.length - 1) (k + 1)))) : Sl)) : Int × Sl)) rfl rfl (bkS_pre (k := k) (by omega) (bk_eq (k := k) (by omega) rfl)) hds (fun j0 m0 o0 p0 => ?_) fun j0 m0 o0 p0 => ?_
  ·
   refine r_not (st_listInV rfl rfl) o0 rfl rfl rfl (by decide) fun m0 j0 => ?_
   refine li_nil ?_
   refine xn i0 <| wp_cond_false (j0.ev rfl) ?_
   refine wp_skip <| xn k0 <| c_region ?_
   refine lR j0 fun k0 m0 => ?_
   refine wpList_nil ?_
   refine x_block_n <| xn h0 <| c_region ?_
   refine mv m0 fun h0 k0 => ?_
   refine sbi (((many (nth t (t.length - 1)) : Nat) : Int) - ((k : Nat) : Int) - 2) k0 fun h0 m0 => ?_
   refine asg m0 fun h0 k0 => ?_
   refine wpList_nil ?_
   have h0 : (bkS tA tc t).take k ++ [((((((many (nth t (t.length - 1)) : Nat) : Int) - ((k : Nat) : Int) - 1), (((if tc = posL t (t.length - 1) (k + 1) then tA else (tA).map (·.add ((posL t (t.length - 1) (k + 1)) * 4))), (tc - (posL t (t.length - 1) (k + 1))), ((t).drop (posL t (t.length - 1) (k + 1))).take ((posL t (t.length - 1) k) - (posL t (t.length - 1) (k + 1)))) : Sl)) : Int × Sl))] = (bkS tA tc t).take (k + 1) := by rw [← bkS_step (show k < many (nth t (t.length - 1)) by omega)]; exact congrArg (fun z => (bkS tA tc t).take k ++ [z]) (bk_eq (k := k) (by omega) rfl)
   have m0 := p0
   rw [h0] at m0
   exact ⟨_, by omega, k + 1, (k0.sub (rc4 (rc rfl (rc (ri rfl (by omega)) rnl)))), m0, by omega, rfl⟩
  refine r_not (st_listInV rfl rfl) o0 rfl rfl rfl (by decide) fun m0 k0 => ?_
  refine li_nil ?_
  refine xn i0 <| wp_cond_true (k0.ev rfl) ?_
  refine wp_ret <| x_then_r <| x_block_r <| x_then_r <| x_then_r <| x_block_r <| e_ret0 k0 rfl rfl ?_
  exact it_stop p0 (i := 0) rfl (bkS_pre (k := k) (by omega) (bk_eq (k := k) (by omega) rfl))
 refine wcf f0 (decide_eq_false d0) fun p0 => ?_
 refine wp_exit ?_
 refine x_then_e ?_
 refine x_then_e ?_
 refine x_block_eq ?_
 refine e_end0 p0 rfl rfl ?_
 exact it_all c0 (i := 0) rfl (bkS_all (by omega))
theorem tbackMk_calls (w0 : World) (Z : Nat → Prop) (hZ : ∀ k, Z k → k < w0.heap.size) (tA : Option Addr) (tc : Nat) (t : List Nd) (msA : Option Addr) (msc : Nat) (ms : List (Int × Int)) (ht : (dRow 4 tA t.length tc (encNs t)).φ w0 Z) (hms : (dRow 2 msA ms.length msc (encMs ms)).φ w0 Z) (hl : t.length ≤ 1000000 := by first | assumption | omega | (simp <;> omega)) :
    Calls Tryz.prog 121 [.slice tA t.length tc, .slice msA ms.length msc].toArray w0 (fun e w' => ∃ q0_0 : Nat, ∃ q0_1 : Nat, e = .returned (.func (.func 145) #[] #[.pointer (some ⟨q0_0, 0, none⟩), .pointer (some ⟨q0_1, 0, none⟩)]) ∧ Fr none_ w0 w' ∧ (dBox q0_0 [.slice tA t.length tc]).φ w' (nxt Z w0 w') ∧ (dBox q0_1 [.slice msA ms.length msc]).φ w' (nxt Z w0 w')) := by
 have b0 := s0 (M := none_) hZ (zc ht (zc hms zn))
 refine c_enter Tryz.func121 rfl Tryz.ntmps121 rfl fun c0 d0 => ?_
 refine wsc fun c0 f0 => bxx d0 b0 fun c0 h0 i0 j0 k0 => ?_
 refine bxx j0 k0 fun h0 c0 d0 b0 m0 => ?_
 refine aw b0 f0 fun c0 h0 => ?_
 refine wsc fun f0 c0 => r_makeFunc sv h0 rfl rfl rfl (by decide) fun f0 b0 => ?_
 refine aw b0 c0 fun f0 h0 => ?_
 refine wp_ret <| er1 h0 ?_
 obtain ⟨h0, c0⟩ := m0.box_data (i := 0) rfl (fun _ h => h)
 have m0 := h0.data (dBox i0 [.slice tA t.length tc]) c0
 obtain ⟨c0, h0⟩ := m0.box_data (i := 0) rfl (fun _ h => h)
 have m0 := c0.data (dBox d0 [.slice msA ms.length msc]) h0
 refine ⟨i0, d0, ?_, m0.fr, ((m0.get (i := 2) rfl).imp imm_nxt id), ((m0.get (i := 3) rfl).imp imm_nxt id)⟩
 exact cre rfl
theorem args_calls (w0 : World) (Z : Nat → Prop) (hZ : ∀ k, Z k → k < w0.heap.size) (tA : Option Addr) (tc : Nat) (t : List Nd) (hShp : Shapes w0 Z) (ht : (dRow 4 tA t.length tc (encNs t)).φ w0 Z) (hsm : sml t := by first | assumption | omega | (simp <;> omega)) (hl : t.length ≤ 1000000 := by first | assumption | omega | (simp <;> omega)) :
    Calls Tryz.prog 84 [.slice tA t.length tc].toArray w0 (fun e w' => ∃ (rA0 : Option Addr) (rc0 : Nat) (rL0 : List Sl), e = .returned (.tuple #[.slice rA0 rL0.length rc0, .int .i64 (chk t)]) ∧ Fr none_ w0 w' ∧ (dRow 1 rA0 rL0.length rc0 (encSs rL0)).φ w' (nxt Z w0 w') ∧ (dAll rL0).φ w' (nxt Z w0 w') ∧ lsts rL0 = agA t) := by
 have b0 := s0 (M := none_) hZ (zc (d := dShapes) hShp (zc ht zn))
 refine c_enterM Tryz.func84 rfl Tryz.ntmps84 rfl fun c0 d0 => ?_
 refine wsc fun c0 f0 => lR d0 fun c0 h0 => ?_
 refine wn f0 <| wsc fun f0 c0 => mv h0 fun f0 d0 => ?_
 have f0 := b0.nf
 refine kcl d0 ok52 (look_calls _ _ f0.il _ _ _ (f0.g 0) (f0.g 1)) ?_
 rintro d0 b0 ⟨h0, i0, rfl, j0, k0⟩
 have b0 := f0.below j0.below
 have j0 := f0.dN b0 k0
 refine ⟨_, rfl, fun b0 k0 => ?_⟩
 refine lR k0 fun b0 f0 => ?_
 refine wn c0 <| wp_seq_k fun c0 b0 => wsc fun c0 k0 => lR f0 fun c0 d0 => ?_
 refine wn k0 ?_
 rcases Decidable.em (((chk t)) = 0) with k0 | k0
 ·
  have hc := k0
  have hb := meas_chk hc
  have hp0 := meas_pos hb
  have hrt := right_at hb (show t.length - 1 < t.length by omega)
  have hm8 := many_le hrt
  refine wcfb d0 rfl (by rw [(decide_eq_true k0)]; rfl) fun c0 => ?_
  refine wp_skip <| xn b0 <| wsc fun b0 f0 => lR c0 fun b0 m0 => ?_
  refine sbi (((t.length : Nat) : Int) - 1) m0 fun b0 c0 => ?_
  refine ix ((t.length) - (1)) (((t.length) - (1)) * 4) c0 (nds_elem (t := t) (k := (t.length) - (1)) (j0.row (i := 1) rfl).2 (by omega)).some_ fun b0 m0 => ?_
  refine m_loadEN sv m0 rfl rfl rfl (nds_elem (t := t) (k := (t.length) - (1)) (j0.row (i := 1) rfl).2 (by omega)) Tryz.underlying30 rfl sz30 (by decide) fun b0 c0 => ?_
  have b0 := j0.nf
  refine kcl c0 ok120 (many_calls _ _ b0.il (nth t ((t.length) - (1))) (b0.g 0) (hr := hrt)) ?_
  rintro c0 m0 ⟨rfl, n0⟩
  have m0 := b0.below n0.below
  refine ⟨_, rfl, fun n0 b0 => ?_⟩
  have n0 : ((many (nth t ((t.length) - (1))) : Nat) : Int) = ((many (nth t ((t.length) - (1))) : Nat) : Int) := by omega
  refine m_makeSs (n := many (nth t ((t.length) - (1)))) sv b0 m0 rfl rfl rfl rfl n0 n0 Tryz.underlying37 zi22 (by decide) (by omega) (by decide) fun c0 o0 p0 q0 t0 => ?_
  have o0 : (List.replicate (many (nth t ((t.length) - (1)))) slz).length = many (nth t ((t.length) - (1))) := by simp
  refine alc q0 t0 fun o0 c0 n0 b0 m0 => ?_
  refine sto 1 b0 m0 fun c0 o0 t0 q0 => ?_
  refine wn f0 <| wp_seq_k fun f0 o0 => wsc fun f0 c0 => lR t0 fun f0 m0 => ?_
  have f0 := q0.nf
  refine kcl m0 ok121 (tbackMk_calls _ _ f0.il _ _ _ _ _ (lookL t) (f0.g 1) (f0.g 2)) ?_
  rintro m0 q0 ⟨t0, b0, rfl, u0, v0, x0⟩
  have q0 := f0.below u0.below
  have u0 := f0.dN q0 v0
  have q0 := f0.dN u0 x0
  refine ⟨_, rfl, fun u0 x0 => ?_⟩
  refine wn c0 <| wp_block ?_
  have c0 := q0.nf
  have q0 : Reg u0 36 [(1000000, .bool false), (2, .slice none 0 0), (3, .int .i64 0), (6, .pointer (some ⟨n0, 0, none⟩)), (27, .func (.func 145) #[] #[.pointer (some ⟨t0, 0, none⟩), .pointer (some ⟨b0, 0, none⟩)])] := (x0.sub (rc4 (rc rfl rnl)))
  refine w_range (xs := bkS tA tc t) (encs := (fun x : Int × Sl => #[.int .i64 x.1, .slice x.2.1 x.2.2.2.length x.2.2.1])) (q0.ev rfl) ok145 (tback_yields _ (imm Z w0 [.row (some ⟨p0, 0, none⟩) ((List.replicate (many (nth t ((t.length) - (1)))) slz).length) ((List.replicate (many (nth t ((t.length) - (1)))) slz).length) 22 1 (encSs (List.replicate (many (nth t ((t.length) - (1)))) slz)), .box n0 37 [.slice (some ⟨p0, 0, none⟩) ((List.replicate (many (nth t ((t.length) - (1)))) slz).length) ((List.replicate (many (nth t ((t.length) - (1)))) slz).length)]] _) t0 tA tc t b0 h0 i0 (lookL t) (c0.get (i := 0) rfl) (c0.get (i := 1) rfl) (c0.get (i := 3) rfl) (c0.get (i := 2) rfl) (c0.get (i := 4) rfl) hl hsm hc (lookL_good hc)) (fun _ => rfl) c0 (fun _ h => h) (fun (pre : List (Int × Sl)) (mm : List Res) => ∃ k : Nat, ∃ Ao : Option Addr, ∃ co : Nat, ∃ Ls : List Sl, mm = ([.row Ao ((List.replicate (many (nth t (t.length - 1)) - k) slz ++ Ls.reverse).length) co 22 1 (encSs (List.replicate (many (nth t (t.length - 1)) - k) slz ++ Ls.reverse)), .box n0 37 [.slice Ao ((List.replicate (many (nth t (t.length - 1)) - k) slz ++ Ls.reverse).length) co]] ++ (Ls).map (rowOf 30)) ∧ (k ≤ many (nth t (t.length - 1))) ∧ (pre.length = k) ∧ (Ls.length = k) ∧ (lsts Ls.reverse = ptD t k)) (fun _ _ _ => False) ⟨0, (some ⟨p0, 0, none⟩), (List.replicate (many (nth t ((t.length) - (1)))) slz).length, [], (by rw [List.reverse_nil, List.append_nil, Nat.sub_zero]; rfl), by omega, rfl, rfl, (ptD_zero t).symm⟩ ?_ ?_ ?_
  ·
   rintro c0 pre x p0 m1 hp ⟨k, Ao, co, Ls, rfl, hk, hpk, hLn, hL⟩ x0
   obtain ⟨hkm, rfl⟩ := bkS_next hpk hp
   have hal : (bkAt tA tc t k).2.2.2.length ≤ t.length := by show ((t.drop _).take _).length ≤ t.length; rw [List.length_take, List.length_drop]; omega
   have hrl : (List.replicate (many (nth t (t.length - 1)) - k) slz ++ Ls.reverse).length = many (nth t (t.length - 1)) := by simp; omega
   refine (?_ : ∀ u0, Reg u0 36 [(29, .slice ((bkAt tA tc t k).2.1) ((bkAt tA tc t k).2.2.2.length) ((bkAt tA tc t k).2.2.1)), (28, .int .i64 ((many (nth t (t.length - 1)) - 1 - k : Nat) : Int)), (1000000, .bool false), (2, .slice none 0 0), (3, .int .i64 0), (6, .pointer (some ⟨n0, 0, none⟩)), (27, .func (.func 145) #[] #[.pointer (some ⟨t0, 0, none⟩), .pointer (some ⟨b0, 0, none⟩)])] → Code.wpIn (rI c0) 0 _ _ _ u0 p0) _ (Reg.round2n q0 (by decide) (by decide) rfl)
   intro u0 c0
   refine wpIn_seq_k fun u0 f0 => ?_
   refine ci_region (by kernel_rfl) (out_then (out_then (fun _ _ h => h))) ?_
   refine aw c0 f0 fun u0 v0 => ?_
   refine ci_region (by kernel_rfl) (out_then (fun _ _ h => h)) ?_
   refine asg v0 fun f0 u0 => ?_
   refine wpList_nil ?_
   have f0 : St w0 Z none_ p0 ([.row Ao ((List.replicate (many (nth t (t.length - 1)) - k) slz ++ Ls.reverse).length) co 22 1 (encSs (List.replicate (many (nth t (t.length - 1)) - k) slz ++ Ls.reverse)), .box n0 37 [.slice Ao ((List.replicate (many (nth t (t.length - 1)) - k) slz ++ Ls.reverse).length) co]] ++ (Ls).map (rowOf 30)) [dShapes, dRow 4 tA t.length tc (encNs t), dRow 2 h0 ((lookL t).length) i0 (encMs (lookL t)), dBox t0 [.slice tA t.length tc], dBox b0 [.slice h0 ((lookL t).length) i0], dAg p0 (imm Z w0 ([.row Ao ((List.replicate (many (nth t (t.length - 1)) - k) slz ++ Ls.reverse).length) co 22 1 (encSs (List.replicate (many (nth t (t.length - 1)) - k) slz ++ Ls.reverse)), .box n0 37 [.slice Ao ((List.replicate (many (nth t (t.length - 1)) - k) slz ++ Ls.reverse).length) co]] ++ (Ls).map (rowOf 30)) p0)] := x0
   refine x_then_n ⟨_, _, 5, f0, rfl, (fun _ h => False.elim h), (fun _ h => False.elim h), fun x0 p0 => ?_⟩
   have f0 := p0.data (dRow 4 ((bkAt tA tc t k).2.1) ((bkAt tA tc t k).2.2.2.length) ((bkAt tA tc t k).2.2.1) (encNs ((bkAt tA tc t k).2.2.2))) (bk_row hb (p0.get (i := 1) rfl) hkm)
   refine wpIn_block ?_
   obtain ⟨p0, v0, c0⟩ := f0.agree
   refine dli_region2 (S := (sW x0 p0 [cel n0 0 (.slice Ao ((List.replicate (many (nth t (t.length - 1)) - k) slz ++ Ls.reverse).length) co), (Res.row Ao ((List.replicate (many (nth t (t.length - 1)) - k) slz ++ Ls.reverse).length) co 22 1 (encSs (List.replicate (many (nth t (t.length - 1)) - k) slz ++ Ls.reverse))).holds])) (k := 6) [5] mixed rfl (by kernel_rfl) c0 (pan_block pan_rPost) (out_block out_rPost) fun v0 f0 m0 y0 z0 => ?_
   have v0 := sWI z0 7 (pc 1 0 (pr 0 pn))
   refine dlt 0 rfl f0 u0 (want_n rfl) (fun x hx => m_loadC (sy u0) u0 rfl rfl rfl (hx.c 0) Tryz.underlying37 rfl (by decide) gt) v0 fun c0 b1 => ?_
   refine dtv 1 f0 b1 fun c0 v0 => ?_
   refine dtv 2 f0 v0 fun c0 b1 => ?_
   refine dl_one (i := 3) (by kernel_rfl) ?_
   have c0 : St w0 Z none_ y0 ([.row Ao ((List.replicate (many (nth t (t.length - 1)) - k) slz ++ Ls.reverse).length) co 22 1 (encSs (List.replicate (many (nth t (t.length - 1)) - k) slz ++ Ls.reverse)), .box n0 37 [.slice Ao ((List.replicate (many (nth t (t.length - 1)) - k) slz ++ Ls.reverse).length) co]] ++ (Ls).map (rowOf 30)) [dShapes, dRow 4 tA t.length tc (encNs t), dRow 2 h0 ((lookL t).length) i0 (encMs (lookL t)), dBox t0 [.slice tA t.length tc], dBox b0 [.slice h0 ((lookL t).length) i0], dAg x0 (imm Z w0 ([.row Ao ((List.replicate (many (nth t (t.length - 1)) - k) slz ++ Ls.reverse).length) co 22 1 (encSs (List.replicate (many (nth t (t.length - 1)) - k) slz ++ Ls.reverse)), .box n0 37 [.slice Ao ((List.replicate (many (nth t (t.length - 1)) - k) slz ++ Ls.reverse).length) co]] ++ (Ls).map (rowOf 30)) x0), dRow 4 ((bkAt tA tc t k).2.1) ((bkAt tA tc t k).2.2.2.length) ((bkAt tA tc t k).2.2.1) (encNs ((bkAt tA tc t k).2.2.2)), dAg x0 p0] := z0
   refine kcl b1 ok53 (cloneN_calls _ _ c0.il _ _ ((bkAt tA tc t k).2.2.2) (c0.g 6)) ?_
   rintro b1 z0 ⟨y0, v0, rfl, u0, c1, d1⟩
   have z0 := c0.callO u0 c1 d1
   have d1 := St.rot (A := [.row Ao ((List.replicate (many (nth t (t.length - 1)) - k) slz ++ Ls.reverse).length) co 22 1 (encSs (List.replicate (many (nth t (t.length - 1)) - k) slz ++ Ls.reverse)), .box n0 37 [.slice Ao ((List.replicate (many (nth t (t.length - 1)) - k) slz ++ Ls.reverse).length) co]]) (T := (Ls).map (rowOf 30)) z0
   refine ⟨_, rfl, fun z0 c1 => ?_⟩
   have z0 := sWI d1 7 (pc 1 0 (pr 0 pn))
   refine ⟨fun _ _ => z0, ?_⟩
   refine dta 4 rfl f0 c1 (want_n rfl) (fun x => m_index (i := many (nth t (t.length - 1)) - 1 - k) (j := (many (nth t (t.length - 1)) - 1 - k) * 1) (sy c1) c1 rfl rfl rfl rfl Tryz.underlying37 sz22 (by omega) (by omega) (own_ss (t := List.replicate (many (nth t (t.length - 1)) - k) slz ++ Ls.reverse) (k := many (nth t (t.length - 1)) - 1 - k) (d1.res (i := 0) rfl) (by omega)).some_ rfl (by decide) gt) fun z0 u0 => ?_
   refine dl_one (i := 5) (by kernel_rfl) ?_
   have z0 := St.absorb (e := 30) (A := [.row Ao ((List.replicate (many (nth t (t.length - 1)) - k) slz ++ Ls.reverse).length) co 22 1 (encSs (List.replicate (many (nth t (t.length - 1)) - k) slz ++ Ls.reverse)), .box n0 37 [.slice Ao ((List.replicate (many (nth t (t.length - 1)) - k) slz ++ Ls.reverse).length) co]]) (Ls := Ls) (B := y0) (c := v0) (L := ((bkAt tA tc t k).2.2.2)) d1
   refine m_storeE (f := encS) (i := 0) (k := many (nth t (t.length - 1)) - 1 - k) (L := (List.replicate (many (nth t (t.length - 1)) - k) slz ++ Ls.reverse)) (z := ((y0, v0, ((bkAt tA tc t k).2.2.2)) : Sl)) (st_op rfl (want_n rfl)) u0 z0 rfl rfl rfl rfl rfl rfl (by omega) encS_len (one1 (f := encS) encS_one) rfl sz22 fun d1 c1 f0 c0 => ?_
   have f0 : ((List.replicate (many (nth t (t.length - 1)) - k) slz ++ Ls.reverse).set (many (nth t (t.length - 1)) - 1 - k) ((y0, v0, ((bkAt tA tc t k).2.2.2)) : Sl) : List Sl).length = (List.replicate (many (nth t (t.length - 1)) - k) slz ++ Ls.reverse).length := by simp
   refine ⟨fun h => absurd h (by decide), ?_⟩
   refine dl_done (by kernel_rfl) (m0 _ _ ?_) _
   refine x_block_n ?_
   have m0 : St w0 Z none_ c1 ([.row Ao (((List.replicate (many (nth t (t.length - 1)) - k) slz ++ Ls.reverse).set (many (nth t (t.length - 1)) - 1 - k) ((y0, v0, ((bkAt tA tc t k).2.2.2)) : Sl) : List Sl).length) co 22 1 (encSs ((List.replicate (many (nth t (t.length - 1)) - k) slz ++ Ls.reverse).set (many (nth t (t.length - 1)) - 1 - k) ((y0, v0, ((bkAt tA tc t k).2.2.2)) : Sl))), .box n0 37 [.slice Ao ((List.replicate (many (nth t (t.length - 1)) - k) slz ++ Ls.reverse).length) co]] ++ (Ls ++ [((y0, v0, ((bkAt tA tc t k).2.2.2)) : Sl)]).map (rowOf 30)) [dShapes, dRow 4 tA t.length tc (encNs t), dRow 2 h0 ((lookL t).length) i0 (encMs (lookL t)), dBox t0 [.slice tA t.length tc], dBox b0 [.slice h0 ((lookL t).length) i0], dAg x0 (imm Z w0 ([.row Ao ((List.replicate (many (nth t (t.length - 1)) - k) slz ++ Ls.reverse).length) co 22 1 (encSs (List.replicate (many (nth t (t.length - 1)) - k) slz ++ Ls.reverse)), .box n0 37 [.slice Ao ((List.replicate (many (nth t (t.length - 1)) - k) slz ++ Ls.reverse).length) co]] ++ (Ls).map (rowOf 30)) x0), dRow 4 ((bkAt tA tc t k).2.1) ((bkAt tA tc t k).2.2.2.length) ((bkAt tA tc t k).2.2.1) (encNs ((bkAt tA tc t k).2.2.2)), dAg x0 p0] := c0
   exact ⟨_, _, 5, m0, rfl, k + 1, _, _, Ls ++ [((y0, v0, ((bkAt tA tc t k).2.2.2)) : Sl)], (by rw [← rep_set (Ls := Ls) hkm rfl, List.length_set]), by omega, by simp [hpk], by simp [hLn], arg_step hb hL hkm⟩
  ·
   rintro m0 m1 v0 ⟨k, Ao, co, Ls, rfl, hk, hpk, hLn, hL⟩ y0
   have v0 := Reg.marked q0 m0
   have m0 := St.tail_data (e := 30) (A := [.row Ao ((List.replicate (many (nth t (t.length - 1)) - k) slz ++ Ls.reverse).length) co 22 1 (encSs (List.replicate (many (nth t (t.length - 1)) - k) slz ++ Ls.reverse)), .box n0 37 [.slice Ao ((List.replicate (many (nth t (t.length - 1)) - k) slz ++ Ls.reverse).length) co]]) (Ls := Ls) y0 (fun _ h => h)
   have hkm : k = many (nth t (t.length - 1)) := by rw [← hpk]; exact bkS_len tA tc t
   have y0 := m0.data (dAll (List.replicate (many (nth t (t.length - 1)) - k) slz ++ Ls.reverse)) (all_append (all_rep _) (all_rev (m0.get (i := 6) rfl)))
   refine x_block_n <| xn o0 <| wsc fun o0 m0 => lR v0 fun o0 n0 => ?_
   refine wn m0 <| wp_ret ?_
   have m0 := y0.pub 0 (dRow 1 Ao ((List.replicate (many (nth t (t.length - 1)) - k) slz ++ Ls.reverse).length) co (encSs (List.replicate (many (nth t (t.length - 1)) - k) slz ++ Ls.reverse)))
   have y0 := m0.nf
   obtain ⟨m0, o0⟩ := y0.shut (i := 5) rfl [dRow 1 Ao ((List.replicate (many (nth t (t.length - 1)) - k) slz ++ Ls.reverse).length) co (encSs (List.replicate (many (nth t (t.length - 1)) - k) slz ++ Ls.reverse)), dAll (List.replicate (many (nth t (t.length - 1)) - k) slz ++ Ls.reverse)] (by intro d hd; simp only [List.mem_cons, List.not_mem_nil, or_false] at hd; rcases hd with rfl | rfl; exact ⟨List.mem_of_getElem? (i := 8) rfl, datC_row (by decide) _ _ _ _⟩; exact ⟨List.mem_of_getElem? (i := 7) rfl, datC_all _⟩)
   refine m_mark (.inl rfl) n0 rfl m0 (res2 n0 rfl rfl rfl _) ?_
   refine ⟨Ao, co, (List.replicate (many (nth t (t.length - 1)) - k) slz ++ Ls.reverse), ?_, o0.fr, o0.rx 0, o0.rx 1, (by rw [agA_ok hc, lsts_app, hkm, Nat.sub_self, hL, ← ptD_all hb, hkm]; rfl)⟩
   exact ret_t2 (ret_s (by rfl)) (ret_i (by omega))
  rintro _ _ _ _ _ _ h _
  exact h.elim
 refine wctb d0 rfl (by rw [(decide_eq_false k0)]; rfl) fun o0 => ?_
 refine wsc fun k0 d0 => lR o0 fun k0 m0 => ?_
 refine wn d0 <| wp_ret <| x_then_r <| m_none (.inl rfl) m0 rfl (res2 m0 rfl rfl rfl _) ?_
 refine ⟨none, 0, [], ?_, j0.fr, ⟨Nat.le_refl _, RowI.nil _ _ _ _⟩, all_nil, (agA_no (by assumption)).symm⟩
 exact ret_t2 (ret_s (by rfl)) (ret_i (by rfl))
theorem uroot_calls (w0 : World) (Z : Nat → Prop) (hZ : ∀ k, Z k → k < w0.heap.size) (tA : Option Addr) (tc : Nat) (t : List Nd) (ht : (dRow 4 tA t.length tc (encNs t)).φ w0 Z) (hl : t.length ≤ 1000000 := by first | assumption | omega | (simp <;> omega)) (h0 : 0 < t.length := by first | assumption | omega | (simp <;> omega)) :
    Calls Tryz.prog 123 [.slice tA t.length tc].toArray w0 (fun e w' => e = .returned (.agg #[.int .i64 (((nth t (t.length - 1)).K)), .int .i64 (((nth t (t.length - 1)).N)), .int .i64 (((nth t (t.length - 1)).M)), .string ((nth t (t.length - 1)).S)]) ∧ Fr none_ w0 w') := by
 have b0 := s0 (M := none_) hZ (zc ht zn)
 refine c_enter Tryz.func123 rfl Tryz.ntmps123 rfl fun c0 d0 => ?_
 refine wsc fun c0 f0 => alc d0 b0 fun c0 i0 j0 k0 m0 => ?_
 refine wn f0 <| wsc fun f0 j0 => lR k0 fun f0 i0 => ?_
 refine sbi (((t.length : Nat) : Int) - 1) i0 fun f0 k0 => ?_
 refine ix ((t.length) - (1)) (((t.length) - (1)) * 4) k0 (nds_elem (t := t) (k := (t.length) - (1)) (m0.row (i := 0) rfl).2 (by omega)).some_ fun f0 i0 => ?_
 refine m_loadEN sv i0 rfl rfl rfl (nds_elem (t := t) (k := (t.length) - (1)) (m0.row (i := 0) rfl).2 (by omega)) Tryz.underlying30 rfl sz30 (by decide) fun f0 k0 => ?_
 refine sto 0 k0 m0 fun f0 i0 c0 d0 => ?_
 refine wn j0 <| wp_ret <| e_cell (i := 0) (vs := [.int .i64 (((nth t ((t.length) - (1))).K)), .int .i64 (((nth t ((t.length) - (1))).N)), .int .i64 (((nth t ((t.length) - (1))).M)), .string ((nth t ((t.length) - (1))).S)]) (.inl rfl) c0 d0 rfl rfl rfl rfl Tryz.underlying30 rfl sz30 ?_
 refine ⟨?_, d0.fr⟩
 exact cre rfl
theorem equalN_calls (w0 : World) (Z : Nat → Prop) (hZ : ∀ k, Z k → k < w0.heap.size) (tA : Option Addr) (tc : Nat) (t : List Nd) (uA : Option Addr) (uc : Nat) (u : List Nd) (ht : (dRow 4 tA t.length tc (encNs t)).φ w0 Z) (hu : (dRow 4 uA u.length uc (encNs u)).φ w0 Z) (hl : t.length ≤ 1000000 := by first | assumption | omega | (simp <;> omega)) (hl2 : u.length ≤ 1000000 := by first | assumption | omega | (simp <;> omega)) :
    Calls Tryz.prog 122 [.slice tA t.length tc, .slice uA u.length uc].toArray w0 (fun e w' => e = .returned (.bool (decide (t = u))) ∧ Fr none_ w0 w') := by
 have b0 := s0 (M := none_) hZ (zc ht (zc hu zn))
 refine c_enter Tryz.func122 rfl Tryz.ntmps122 rfl fun c0 d0 => ?_
 refine wsc fun c0 f0 => aw d0 f0 fun c0 h0 => ?_
 refine wp_seq_k fun f0 c0 => wsc fun f0 d0 => lR h0 fun f0 i0 => ?_
 refine wn d0 ?_
 rcases Decidable.em (((t.length : Nat) : Int) = ((u.length : Nat) : Int)) with d0 | d0
 ·
  refine wcfb i0 rfl (by rw [(decide_eq_true d0)]; rfl) fun f0 => ?_
  refine wp_skip <| xn c0 <| wp_seq_k fun c0 h0 => wsc fun c0 j0 => lR f0 fun c0 k0 => ?_
  refine wn j0 <| wp_block ?_
  refine wp_loop_ghost (fun gn ga gw => ∃ k : Nat, (Reg ga 26 [(1000000, .bool false), (0, .slice tA t.length tc), (1, .slice uA u.length uc), (12, .int .i64 ((t.length : Nat) : Int)), (13, .int .i64 ((k : Nat) : Int))]) ∧ (St w0 Z none_ gw [] [dRow 4 tA t.length tc (encNs t), dRow 4 uA u.length uc (encNs u)]) ∧ (k ≤ t.length) ∧ (t.take k = u.take k) ∧ (t.length - k) = gn) _ ⟨0, (k0.sub (rc4 (rc rfl rnl))), b0, by omega, rfl, rfl⟩ ?_
  rintro k0 j0 c0 ⟨k, f0, m0, hk, hi, n0⟩
  refine wsc fun n0 c0 => lR f0 fun n0 j0 => ?_
  refine wn c0 <| wp_seq_k fun c0 n0 => ?_
  rcases Decidable.em (((k : Nat) : Int) < ((t.length : Nat) : Int)) with c0 | c0
  ·
   refine wct j0 (decide_eq_true c0) fun f0 => ?_
   refine wp_skip <| xn n0 <| wp_seq_k fun n0 k0 => wp_block ?_
   refine wsc fun n0 o0 => lR f0 fun n0 p0 => ?_
   refine wn o0 <| wp_seq_k fun o0 n0 => ?_
   obtain ⟨o0, f0, q0⟩ := m0.agree
   refine d_reg3 (n := 9) q0 2 pn (pan_then (pan_block (pan_then (pan_then (pan_block (pan_then pan_body)))))) fun o0 t0 u0 v0 x0 y0 => ?_
   refine dR [0, 1] p0 fun v0 o0 => ?_
   refine dix 2 k (k * 4) o0 (fun x hx => (nds_elem (t := t) (k := k) (sdat (f0 0 _ rfl) hx.ag).2 (by omega)).some_) fun v0 p0 => ?_
   refine dt 3 rfl t0 p0 (want_n rfl) (fun x hx => m_loadEN (sy p0) p0 rfl rfl rfl (nds_elem (t := t) (k := k) (sdat (f0 0 _ rfl) hx.ag).2 (by omega)) Tryz.underlying30 rfl sz30 (by decide) gt) y0 fun v0 o0 => ?_
   refine dR [4, 5] o0 fun v0 p0 => ?_
   refine dix 6 k (k * 4) p0 (fun x hx => (nds_elem (t := u) (k := k) (sdat (f0 1 _ rfl) hx.ag).2 (by omega)).some_) fun v0 o0 => ?_
   refine dt 7 rfl t0 o0 (want_n rfl) (fun x hx => m_loadEN (sy o0) o0 rfl rfl rfl (nds_elem (t := u) (k := k) (sdat (f0 1 _ rfl) hx.ag).2 (by omega)) Tryz.underlying30 rfl sz30 (by decide) gt) y0 fun v0 p0 => ?_
   refine dt 8 rfl t0 p0 (want_n rfl) (fun x hx => r_neqN (m := (nth t k)) (n := (nth u k)) (sy p0) p0 rfl rfl rfl rfl (by decide) gt) y0 fun v0 o0 => ?_
   refine wpAnyH_done (by kernel_rfl) (u0 _ _ ?_) _
   refine xn n0 ?_
   rcases Decidable.em ((nth t k) = (nth u k)) with n0 | n0
   ·
    refine wcfb o0 rfl (by rw [(decide_eq_true n0)]; rfl) fun u0 => ?_
    refine wp_skip <| x_block_n <| xn k0 <| c_region ?_
    refine adi ((k + 1 : Nat) : Int) u0 fun k0 v0 => ?_
    refine mv v0 fun k0 u0 => ?_
    refine wpList_nil ?_
    have k0 := x0.forget 2
    exact ⟨_, by omega, k + 1, (u0.sub (rc4 (rc rfl rnl))), k0, by omega, same_step hi (by omega) (by omega) (by assumption), rfl⟩
   refine wctb o0 rfl (by rw [(decide_eq_false n0)]; rfl) fun k0 => ?_
   refine wsc fun n0 o0 => aw k0 o0 fun n0 u0 => ?_
   refine wp_ret <| x_block_r <| x_then_r <| x_then_r <| x_block_r <| x_then_r <| er1 u0 ?_
   refine ⟨?_, x0.fr⟩
   exact cre (ret_b (by exact (same_no (k := k) (by omega) (by omega) (by assumption)).symm))
  refine wcf j0 (decide_eq_false c0) fun x0 => ?_
  refine wp_exit ?_
  refine x_then_e ?_
  refine x_then_e ?_
  refine x_block_eq ?_
  refine xn h0 <| wsc fun h0 c0 => aw x0 c0 fun h0 j0 => ?_
  refine wp_ret <| er1 j0 ?_
  refine ⟨?_, m0.fr⟩
  exact cre (ret_b (by exact (same_end hi (by omega) (by omega)).symm))
 refine wctb i0 rfl (by rw [(decide_eq_false d0)]; rfl) fun m0 => ?_
 refine wsc fun d0 i0 => aw m0 i0 fun d0 j0 => ?_
 refine wp_ret <| x_then_r <| er1 j0 ?_
 refine ⟨?_, b0.fr⟩
 exact cre (ret_b (by exact (same_len (by omega)).symm))
theorem ukind_calls (w0 : World) (Z : Nat → Prop) (hZ : ∀ k, Z k → k < w0.heap.size) (s : ByteArray) (tA : Option Addr) (tc : Nat) (t : List Nd) (hShp : Shapes w0 Z) (ht : (dRow 4 tA t.length tc (encNs t)).φ w0 Z) (hsm : sml t := by first | assumption | omega | (simp <;> omega)) (hl : t.length ≤ 1000000 := by first | assumption | omega | (simp <;> omega)) :
    Calls Tryz.prog 85 [.string s, .slice tA t.length tc].toArray w0 (fun e w' => e = .returned (.int .i64 (kdA s t)) ∧ Fr none_ w0 w') := by
 have b0 := s0 (M := none_) hZ (zc (d := dShapes) hShp (zc ht zn))
 refine c_enter Tryz.func85 rfl Tryz.ntmps85 rfl fun c0 d0 => ?_
 refine wsc fun c0 f0 => aw d0 f0 fun c0 h0 => ?_
 refine wp_seq_k fun f0 c0 => wsc fun f0 d0 => mv h0 fun f0 i0 => ?_
 have f0 := b0.nf
 refine kcl i0 ok20 (check_calls _ _ f0.il _ _ _ (f0.g 0) (f0.g 1)) ?_
 rintro i0 b0 ⟨rfl, h0⟩
 have b0 := f0.below h0.below
 refine ⟨_, rfl, fun h0 f0 => ?_⟩
 refine lR f0 fun h0 i0 => ?_
 refine wn d0 ?_
 rcases Decidable.em (((chk t)) = 0) with d0 | d0
 ·
  have hct := d0
  have hpt := chk_pos hct
  have hrt := right_at (meas_chk hct) (show t.length - 1 < t.length by omega)
  refine wcfb i0 rfl (by rw [(decide_eq_true d0)]; rfl) fun h0 => ?_
  refine wp_skip <| xn c0 <| wsc fun c0 f0 => mv h0 fun c0 j0 => ?_
  refine bld j0 fun c0 h0 => ?_
  refine bsl h0 b0 fun c0 j0 k0 m0 n0 => ?_
  refine aw m0 f0 fun j0 c0 => ?_
  refine wp_seq_k fun f0 j0 => wsc fun f0 m0 => lR c0 fun f0 h0 => ?_
  have f0 := n0.nf
  have n0 := f0.pub 0 (dRow 4 (some ⟨k0, 0, none⟩) 1 1 (encNs ([(⟨25, 0, 0, s⟩ : Nd)])))
  refine kcl h0 ok122 (equalN_calls _ _ n0.il _ _ _ _ _ ([(⟨25, 0, 0, s⟩ : Nd)]) (n0.g 1) (n0.g 2)) ?_
  rintro h0 f0 ⟨rfl, k0⟩
  have f0 := n0.below k0.below
  refine ⟨_, rfl, fun k0 n0 => ?_⟩
  refine wn m0 ?_
  rcases Bool.eq_false_or_eq_true (decide (t = ([(⟨25, 0, 0, s⟩ : Nd)]))) with m0 | m0
  ·
   have k0 := of_decide_eq_true m0
   refine wct n0 m0 fun h0 => ?_
   refine wsc fun c0 o0 => aw h0 o0 fun c0 p0 => ?_
   refine wp_ret <| x_then_r <| er1 p0 ?_
   refine ⟨?_, f0.fr⟩
   exact cre (ret_i (by (unfold kdA ownL; first | (rw [if_neg (by assumption)]; done) | (simp only [d0, m0, k0, if_true, if_false, not_true_eq_false, not_false_eq_true, lsts_nth]; done) | (simp [d0, m0, k0, lsts_nth]; done) | (simp_all [lsts_nth]; done))))
  have k0 := of_decide_eq_false m0
  refine wcf n0 m0 fun p0 => ?_
  refine wp_skip <| xn j0 <| wp_seq_k fun j0 n0 => wsc fun j0 o0 => mv p0 fun j0 c0 => ?_
  have j0 := f0.nf
  refine kcl c0 ok123 (uroot_calls _ _ j0.il _ _ _ (j0.g 1)) ?_
  rintro c0 f0 ⟨rfl, p0⟩
  have f0 := j0.below p0.below
  refine ⟨_, rfl, fun p0 j0 => ?_⟩
  refine m_fieldV (v := .int .i64 (((nth t (t.length - 1)).K))) sv j0 rfl rfl rfl (fun _ => by kernel_rfl) (by decide) fun p0 c0 => ?_
  refine lR c0 fun p0 j0 => ?_
  refine wn o0 ?_
  rcases Decidable.em ((((nth t (t.length - 1)).K)) = 3) with o0 | o0
  ·
   have hm2 := many_3 o0
   refine wct j0 (decide_eq_true o0) fun p0 => ?_
   refine wsc fun c0 h0 => mv p0 fun c0 q0 => ?_
   have c0 := f0.nf
   refine kcl q0 ok84 (args_calls _ _ c0.il _ _ _ (c0.g 0) (c0.g 1)) ?_
   rintro q0 p0 ⟨t0, u0, v0, rfl, x0, y0, z0, b1⟩
   have u0 := c0.below x0.below
   have x0 := c0.dN u0 y0
   have u0 := c0.dN x0 z0
   refine ⟨_, rfl, fun x0 z0 => ?_⟩
   have hgl : v0.length = many (nth t (t.length - 1)) := by rw [← lsts_len, b1, agA_ok hct, ptL_length (meas_chk hct)]
   obtain ⟨hg1, hg2⟩ := ag_nth hct b1 hsm (show 1 < many (nth t (t.length - 1)) by omega)
   refine lR z0 fun x0 c0 => ?_
   refine wn h0 <| wsc fun h0 x0 => mv c0 fun h0 z0 => ?_
   refine ix 1 (1 * 1) z0 (ss_elem (t := v0) (k := 1) (u0.row (i := 3) rfl).2 (by omega)).some_ fun h0 c0 => ?_
   refine lde 0 (1 * 1) c0 (ss_elem (t := v0) (k := 1) (u0.row (i := 3) rfl).2 (by omega)) fun h0 z0 => ?_
   have h0 := u0.el 4 1
   refine mv z0 fun u0 c0 => ?_
   have u0 := h0.nf
   refine kcl c0 ok122 (equalN_calls _ _ u0.il _ _ ((nthS v0 1).2.2) _ _ ([(⟨25, 0, 0, s⟩ : Nd)]) (u0.g 5) (u0.g 2)) ?_
   rintro c0 h0 ⟨rfl, z0⟩
   have h0 := u0.below z0.below
   refine ⟨_, rfl, fun z0 u0 => ?_⟩
   refine wn x0 ?_
   rcases Bool.eq_false_or_eq_true (decide (((nthS v0 1).2.2) = ([(⟨25, 0, 0, s⟩ : Nd)]))) with x0 | x0
   ·
    have v0 := of_decide_eq_true x0
    refine wct u0 x0 fun z0 => ?_
    refine wsc fun c0 y0 => aw z0 y0 fun c0 t0 => ?_
    refine wp_ret <| x_then_r <| er1 t0 ?_
    refine ⟨?_, h0.fr⟩
    exact cre (ret_i (by (unfold kdA ownL; first | (rw [if_neg (by assumption)]; done) | (simp only [d0, m0, k0, o0, x0, v0, b1, if_true, if_false, not_true_eq_false, not_false_eq_true, lsts_nth]; done) | (simp [d0, m0, k0, o0, x0, v0, b1, lsts_nth]; done) | (simp_all [lsts_nth]; done))))
   have v0 := of_decide_eq_false x0
   refine wcf u0 x0 fun t0 => ?_
   refine wp_skip <| xn n0 <| wsc fun u0 y0 => aw t0 y0 fun u0 c0 => ?_
   refine wp_ret <| er1 c0 ?_
   refine ⟨?_, h0.fr⟩
   exact cre (ret_i (by (unfold kdA ownL; first | (rw [if_neg (by assumption)]; done) | (simp only [d0, m0, k0, o0, x0, v0, b1, if_true, if_false, not_true_eq_false, not_false_eq_true, lsts_nth]; done) | (simp [d0, m0, k0, o0, x0, v0, b1, lsts_nth]; done) | (simp_all [lsts_nth]; done))))
  refine wcf j0 (decide_eq_false o0) fun v0 => ?_
  refine wp_skip <| xn n0 <| wsc fun n0 j0 => aw v0 j0 fun n0 x0 => ?_
  refine wp_ret <| er1 x0 ?_
  refine ⟨?_, f0.fr⟩
  exact cre (ret_i (by (unfold kdA ownL; first | (rw [if_neg (by assumption)]; done) | (simp only [d0, m0, k0, o0, if_true, if_false, not_true_eq_false, not_false_eq_true, lsts_nth]; done) | (simp [d0, m0, k0, o0, lsts_nth]; done) | (simp_all [lsts_nth]; done))))
 refine wctb i0 rfl (by rw [(decide_eq_false d0)]; rfl) fun o0 => ?_
 refine wsc fun i0 k0 => aw o0 k0 fun i0 m0 => ?_
 refine wp_ret <| x_then_r <| er1 m0 ?_
 refine ⟨?_, b0.fr⟩
 exact cre (ret_i (by (unfold kdA ownL; first | (rw [if_neg (by assumption)]; done) | (simp only [d0, if_true, if_false, not_true_eq_false, not_false_eq_true, lsts_nth]; done) | (simp [d0, lsts_nth]; done) | (simp_all [lsts_nth]; done))))
theorem positive_calls (w0 : World) (Z : Nat → Prop) (hZ : ∀ k, Z k → k < w0.heap.size) (q : ByteArray) (tA : Option Addr) (tc : Nat) (t : List Nd) (hShp : Shapes w0 Z) (ht : (dRow 4 tA t.length tc (encNs t)).φ w0 Z) (hsm : sml t := by first | assumption | omega | (simp <;> omega)) (hl : t.length ≤ 1000000 := by first | assumption | omega | (simp <;> omega)) :
    Calls Tryz.prog 51 [.string q, .slice tA t.length tc].toArray w0 (fun e w' => e = .returned (.int .i64 (poP q t)) ∧ Fr none_ w0 w') := by
 have b0 := s0 (M := none_) hZ (zc (d := dShapes) hShp (zc ht zn))
 refine c_enter Tryz.func51 rfl Tryz.ntmps51 rfl fun c0 d0 => ?_
 refine wsc fun c0 f0 => aw d0 f0 fun c0 h0 => ?_
 refine wsc fun f0 c0 => mv h0 fun f0 d0 => ?_
 have f0 := b0.nf
 refine kcl d0 ok84 (args_calls _ _ f0.il _ _ _ (f0.g 0) (f0.g 1)) ?_
 rintro d0 b0 ⟨h0, i0, j0, rfl, k0, m0, n0, o0⟩
 have b0 := f0.below k0.below
 have k0 := f0.dN b0 m0
 have b0 := f0.dN k0 n0
 refine ⟨_, rfl, fun k0 n0 => ?_⟩
 have hag := o0
 have hgx : (nthS j0 0).2.2 = nthL (agA t) 0 := by rw [lsts_nth, hag]
 refine lR n0 fun o0 k0 => ?_
 refine wn c0 <| wp_seq_k fun c0 o0 => wsc fun c0 n0 => lR k0 fun c0 f0 => ?_
 refine wn n0 ?_
 rcases Decidable.em (((chk t)) = 0) with n0 | n0
 ·
  have hct := n0
  have hpt := chk_pos hct
  refine wcfb f0 rfl (by rw [(decide_eq_true n0)]; rfl) fun c0 => ?_
  refine wp_skip <| xn o0 <| wp_seq_k fun o0 k0 => wsc fun o0 m0 => lR c0 fun o0 d0 => ?_
  have o0 := b0.nf
  refine kcl d0 ok85 (ukind_calls _ _ o0.il q _ _ _ (o0.g 0) (o0.g 1)) ?_
  rintro d0 c0 ⟨rfl, p0⟩
  have c0 := o0.below p0.below
  refine ⟨_, rfl, fun p0 o0 => ?_⟩
  refine aw o0 m0 fun p0 d0 => ?_
  refine wp_block ?_
  refine wp_seq_k fun m0 p0 => wsc fun m0 o0 => lR d0 fun m0 q0 => ?_
  refine wn o0 ?_
  rcases Decidable.em (((kdA q t)) = 1) with o0 | o0
  ·
   refine wct q0 (decide_eq_true o0) fun m0 => ?_
   refine wp_skip <| xn p0 <| wp_cond_true (m0.ev rfl) ?_
   refine wsc fun d0 t0 => aw m0 t0 fun d0 u0 => ?_
   refine wp_ret <| x_block_r <| x_then_r <| er1 u0 ?_
   refine ⟨?_, c0.fr⟩
   exact cre (ret_i (by exact (poP_one hct (by assumption)).symm))
  refine wcf q0 (decide_eq_false o0) fun u0 => ?_
  refine wsc fun o0 q0 => lR u0 fun o0 t0 => ?_
  refine l_join (fun ga gw => Reg ga 36 [(0, .string q), (1, .slice tA t.length tc), (4, .int .i64 0), (19, .bool false), (31, .bool ((decide (((kdA q t)) = 2)) && (!(((nthS j0 0).2.2).any (meN q))))), (1000000, .bool false)] ∧ St w0 Z none_ gw [] [dShapes, dRow 4 tA t.length tc (encNs t), dRow 1 h0 j0.length i0 (encSs j0), dAll j0]) 7 ?_ ?_
  ·
   rcases Decidable.em (((kdA q t)) = 2) with i0 | i0
   ·
    obtain ⟨_, _, h0⟩ := kd_two (s := q) (t := t) (by omega) (by omega)
    have hm2 := many_3 h0
    have hgl : j0.length = many (nth t (t.length - 1)) := by rw [← lsts_len, hag, agA_ok hct, ptL_length (meas_chk hct)]
    obtain ⟨hg1, hg2, _⟩ := ag_nth hct hag hsm (show 0 < many (nth t (t.length - 1)) by omega)
    have h0 := t0.setb (d := 24) (b := true) rfl (decide_eq_true i0)
    refine lR h0 fun o0 u0 => ?_
    refine ix 0 (0 * 1) u0 (ss_elem (t := j0) (k := 0) (c0.row (i := 2) rfl).2 (by omega)).some_ fun o0 h0 => ?_
    refine lde 0 (0 * 1) h0 (ss_elem (t := j0) (k := 0) (c0.row (i := 2) rfl).2 (by omega)) fun o0 u0 => ?_
    have o0 := c0.el 3 0
    refine lR u0 fun h0 d0 => ?_
    have h0 := o0.nf
    refine kcl d0 ok86 (ment_calls _ _ h0.il _ _ ((nthS j0 0).2.2) q (h0.g 4)) ?_
    rintro d0 o0 ⟨rfl, u0⟩
    have o0 := h0.below u0.below
    refine ⟨_, rfl, fun u0 h0 => ?_⟩
    refine lR h0 fun u0 d0 => ?_
    refine wpList_nil ?_
    exact x_then_n ⟨(d0.sub (rc4 (rc (rb rfl (by (simp only [decide_eq_true i0, if_pos i0, bl]; done))) (rc rfl rnl)))), (o0.forget 4)⟩
   have d0 := t0.setb (d := 24) (b := false) rfl (decide_eq_false i0)
   refine lR d0 fun t0 o0 => ?_
   refine wpList_nil ?_
   exact x_then_n ⟨(o0.sub (rc4 (rc (rb rfl (by (simp only [decide_eq_false i0, if_neg i0, bl]; done))) (rc rfl rnl)))), c0⟩
  rintro o0 i0 ⟨c0, t0⟩
  refine aw c0 q0 fun i0 o0 => ?_
  rcases Bool.eq_false_or_eq_true (((decide (((kdA q t)) = 2)) && (!(((nthS j0 0).2.2).any (meN q))))) with q0 | q0
  ·
   have j0 := and_tl q0
   have i0 := of_decide_eq_true j0
   have i0 := and_tr q0
   have j0 := not_t i0
   refine wct o0 q0 fun j0 => ?_
   refine wp_skip <| xn p0 <| wp_cond_true (j0.ev rfl) ?_
   refine wsc fun i0 c0 => aw j0 c0 fun i0 d0 => ?_
   refine wp_ret <| x_block_r <| x_then_r <| er1 d0 ?_
   refine ⟨?_, t0.fr⟩
   exact cre (ret_i (by exact (poP_two hct (by assumption) (by assumption) (by rw [← hgx]; assumption)).symm))
  have d0 := q0
  try simp only [bz] at d0
  refine wcf o0 q0 fun d0 => ?_
  refine c_region ?_
  refine lR d0 fun q0 o0 => ?_
  have q0 := t0.nf
  refine kcl o0 ok86 (ment_calls _ _ q0.il _ _ _ q (q0.g 1)) ?_
  rintro o0 t0 ⟨rfl, d0⟩
  have t0 := q0.below d0.below
  refine ⟨_, rfl, fun d0 q0 => ?_⟩
  refine lR q0 fun d0 o0 => ?_
  refine wn p0 ?_
  rcases Bool.eq_false_or_eq_true (t.any (meN q)) with p0 | p0
  ·
   refine wcfb o0 rfl (by rw [p0]; rfl) fun d0 => ?_
   refine wp_skip <| x_block_n <| xn k0 <| wsc fun k0 q0 => aw d0 q0 fun k0 c0 => ?_
   refine wp_ret <| er1 c0 ?_
   refine ⟨?_, t0.fr⟩
   exact cre (ret_i (by first | exact (poP_not hct (by assumption) (by assumption)).symm | exact (poP_bad hct (by assumption) (by rw [← hgx]; assumption) (by assumption)).symm))
  refine wctb o0 rfl (by rw [p0]; rfl) fun c0 => ?_
  refine wsc fun p0 o0 => aw c0 o0 fun p0 q0 => ?_
  refine wp_ret <| x_block_r <| x_then_r <| er1 q0 ?_
  refine ⟨?_, t0.fr⟩
  exact cre (ret_i (by first | exact (poP_not hct (by assumption) (by assumption)).symm | exact (poP_bad hct (by assumption) (by rw [← hgx]; assumption) (by assumption)).symm))
 refine wctb f0 rfl (by rw [(decide_eq_false n0)]; rfl) fun t0 => ?_
 refine wsc fun n0 f0 => lR t0 fun n0 q0 => ?_
 refine wn f0 <| wp_ret <| x_then_r <| er1 q0 ?_
 refine ⟨?_, b0.fr⟩
 exact cre (ret_i (by exact (poP_err (by assumption)).symm))
theorem concatT_calls (w0 : World) (Z : Nat → Prop) (hZ : ∀ k, Z k → k < w0.heap.size) (tA : Option Addr) (tc : Nat) (t : List Tl) (ht : (dRow 1 tA t.length tc (encTs t)).φ w0 Z) (hts : (dAllT t).φ w0 Z) (hl : t.length ≤ 100 := by first | assumption | omega | (simp <;> omega)) (hb : ∀ s ∈ t, s.2.2.length ≤ 100 := by first | assumption | omega | (simp <;> omega)) :
    Calls Tryz.prog 142 [.slice tA t.length tc].toArray w0 (fun e w' => ∃ (rA0 : Option Addr) (rc0 : Nat) (rL0 : List Sl), e = .returned (.slice rA0 rL0.length rc0) ∧ Fr none_ w0 w' ∧ (dRow 1 rA0 rL0.length rc0 (encSs rL0)).φ w' (nxt Z w0 w') ∧ (dAll rL0).φ w' (nxt Z w0 w') ∧ lsts rL0 = (lstsT t).flatten) := by
 have b0 := s0 (M := none_) hZ (zc ht (zc hts zn))
 refine c_enter Tryz.func142 rfl Tryz.ntmps142 rfl fun c0 d0 => ?_
 refine wsc fun c0 f0 => aw d0 f0 fun c0 h0 => ?_
 refine wsc fun f0 c0 => aw h0 c0 fun f0 d0 => ?_
 refine wp_seq_k fun c0 f0 => wsc fun c0 h0 => lR d0 fun c0 i0 => ?_
 refine wn h0 <| wp_block ?_
 refine wp_loop_ghost (fun gn ga gw => ∃ k : Nat, (Reg ga 36 [(1000000, .bool false), (0, .slice tA t.length tc), (2, .slice none 0 0), (9, .slice tA t.length tc), (10, .int .i64 ((t.length : Nat) : Int)), (11, .int .i64 ((k : Nat) : Int)), (3, .int .i64 ((smT t k : Nat) : Int))]) ∧ (St w0 Z none_ gw [] [dRow 1 tA t.length tc (encTs t), dAllT t]) ∧ (k ≤ t.length) ∧ (t.length - k) = gn) _ ⟨0, (i0.sub (rc4 (rc2 (rc rfl rnl)))), b0, by omega, rfl⟩ ?_
 rintro i0 b0 h0 ⟨k, c0, d0, hk, j0⟩
 have hsm0 := smT_le hb k
 have j0 : k < t.length → (nthT t k).2.2.length ≤ 100 := fun h => hb _ (nthT_mem h)
 refine wsc fun h0 b0 => lR c0 fun h0 i0 => ?_
 refine wn b0 <| wp_seq_k fun b0 h0 => ?_
 rcases Decidable.em (((k : Nat) : Int) < ((t.length : Nat) : Int)) with b0 | b0
 ·
  refine wct i0 (decide_eq_true b0) fun c0 => ?_
  refine wp_skip <| xn h0 <| wp_seq_k fun h0 k0 => wp_block ?_
  refine wsc fun h0 m0 => ix k (k * 1) c0 (ts_elem (t := t) (k := k) (d0.row (i := 0) rfl).2 (by omega)).some_ fun h0 n0 => ?_
  refine lde 0 (k * 1) n0 (ts_elem (t := t) (k := k) (d0.row (i := 0) rfl).2 (by omega)) fun h0 c0 => ?_
  have h0 := d0.elT 1 k
  have n0 := h0.elA 1 k
  refine aw c0 m0 fun h0 o0 => ?_
  refine wsc fun m0 h0 => lR o0 fun m0 c0 => ?_
  refine adi ((smT t k + (nthT t k).2.2.length : Nat) : Int) c0 fun m0 o0 => ?_
  refine aw o0 h0 fun m0 c0 => ?_
  refine wsc fun h0 m0 => lR c0 fun h0 o0 => ?_
  refine wn m0 ?_
  rcases Decidable.em (((smT t k + (nthT t k).2.2.length : Nat) : Int) < 0) with m0 | m0
  ·
   exfalso; omega
  refine wcf o0 (decide_eq_false m0) fun h0 => ?_
  refine wp_skip <| x_block_n <| xn k0 <| c_region ?_
  refine adi ((k + 1 : Nat) : Int) h0 fun k0 m0 => ?_
  refine mv m0 fun k0 h0 => ?_
  refine wpList_nil ?_
  have k0 := n0.forget 3
  have n0 := k0.forget 2
  exact ⟨_, by omega, k + 1, (h0.sub (rc4 (rc2 (rc (ri rfl (by (rw [smT_step (by omega)]; done))) rnl)))), n0, by omega, rfl⟩
 refine wcf i0 (decide_eq_false b0) fun n0 => ?_
 refine wp_exit ?_
 refine x_then_e ?_
 refine x_then_e ?_
 refine x_block_eq ?_
 refine xn f0 <| wsc fun f0 b0 => mv n0 fun f0 i0 => ?_
 have f0 := d0.nf
 refine kcl i0 ok158 (growS_calls _ _ f0.il (smT t k)) ?_
 rintro i0 d0 ⟨n0, h0, rfl, k0, m0, o0⟩
 have d0 := f0.callO k0 m0 o0
 refine ⟨_, rfl, fun o0 m0 => ?_⟩
 refine aw m0 b0 fun o0 k0 => ?_
 refine wp_seq_k fun b0 o0 => wsc fun b0 m0 => lR k0 fun b0 f0 => ?_
 refine wn m0 <| wp_block ?_
 have m0 := d0.data (dAll []) all_nil
 refine wp_loop_ghost (fun gn ga gw => ∃ j : Nat, ∃ Ao : Option Addr, ∃ co : Nat, (Reg ga 36 [(1000000, .bool false), (2, .slice none 0 0), (25, .slice tA t.length tc), (26, .int .i64 ((t.length : Nat) : Int)), (27, .int .i64 ((j : Nat) : Int)), (6, .slice Ao ((catS (t.take j)).length) co)]) ∧ (St w0 Z none_ gw [.row Ao ((catS (t.take j)).length) co 22 1 (encSs (catS (t.take j)))] [dRow 1 tA t.length tc (encTs t), dAllT t, dAll (catS (t.take j))]) ∧ (j ≤ t.length) ∧ (t.length - j) = gn) _ ⟨0, n0, h0, (f0.sub (rc4 (rc rfl (rc rfl rnl)))), m0, by omega, rfl⟩ ?_
 rintro m0 f0 h0 ⟨j, Ao, co, n0, d0, hj, b0⟩
 have hsm0 := smT_le hb j
 have hcl := catS_len t j
 have j0 : j < t.length → (nthT t j).2.2.length ≤ 100 := fun h => hb _ (nthT_mem h)
 refine wsc fun j0 b0 => lR n0 fun j0 h0 => ?_
 refine wn b0 <| wp_seq_k fun b0 j0 => ?_
 rcases Decidable.em (((j : Nat) : Int) < ((t.length : Nat) : Int)) with b0 | b0
 ·
  refine wct h0 (decide_eq_true b0) fun n0 => ?_
  refine wp_skip <| xn j0 <| wp_seq_k fun j0 f0 => wp_block ?_
  refine wsc fun j0 m0 => ix j (j * 1) n0 (ts_elem (t := t) (k := j) (d0.row (i := 0) rfl).2 (by omega)).some_ fun j0 k0 => ?_
  refine lde 0 (j * 1) k0 (ts_elem (t := t) (k := j) (d0.row (i := 0) rfl).2 (by omega)) fun j0 n0 => ?_
  have j0 := d0.elT 1 j
  have k0 := j0.elA 1 j
  refine asg n0 fun j0 i0 => ?_
  refine wpList_nil (x_then_n (m0 _ _ (c_region ?_)))
  refine lR i0 fun m0 j0 => ?_
  refine m_appendF (f := encS) (i := 0) (catS (t.take j)) ((nthT t j).2.2) sv j0 k0 rfl rfl rfl rfl rfl encS_len (encS_one _) Tryz.underlying37 zi22 rfl rfl (k0.row (i := 3) rfl).2.news rfl (by omega) (by decide) fun m0 i0 n0 c0 p0 q0 t0 => ?_
  have p0 : ((catS (t.take j)) ++ ((nthT t j).2.2)).length = (catS (t.take j)).length + (nthT t j).2.2.length := by (simp only [List.length_append, List.length_take, List.length_cons, List.length_nil]; done)
  have p0 := t0.data (dAll ((catS (t.take j)) ++ ((nthT t j).2.2))) (all_append (t0.get (i := 2) rfl) (t0.get (i := 4) rfl))
  refine asg q0 fun t0 i0 => ?_
  refine wpList_nil ?_
  refine x_block_n <| xn f0 <| c_region ?_
  refine adi ((j + 1 : Nat) : Int) i0 fun f0 t0 => ?_
  refine mv t0 fun f0 i0 => ?_
  refine wpList_nil ?_
  have f0 : (catS (t.take j)) ++ ((nthT t j).2.2) = catS (t.take (j + 1)) := catS_step (by omega)
  have t0 := i0
  have i0 := p0
  rw [f0] at t0 i0
  have f0 := i0.forget 4
  have i0 := f0.forget 3
  have f0 := i0.forget 2
  exact ⟨_, by omega, j + 1, n0, c0, (t0.sub (rc4 (rc rfl (rc rfl rnl)))), f0, by omega, rfl⟩
 refine wcf h0 (decide_eq_false b0) fun f0 => ?_
 refine wp_exit ?_
 refine x_then_e ?_
 refine x_then_e ?_
 refine x_block_eq ?_
 refine xn o0 <| wsc fun o0 b0 => lR f0 fun o0 h0 => ?_
 refine wn b0 <| wp_ret <| er1 h0 ?_
 have h0 := d0.pub 0 (dRow 1 Ao ((catS (t.take j)).length) co (encSs (catS (t.take j))))
 refine ⟨Ao, co, (catS (t.take j)), ?_, h0.fr, h0.rx 3, h0.rx 2, (by rw [List.take_of_length_le (by omega)]; exact catS_lsts t)⟩
 exact cre (ret_s (by rfl))
theorem terms_calls (w0 : World) (Z : Nat → Prop) (hZ : ∀ k, Z k → k < w0.heap.size) (dK : Int) (dL : Int) (dS : ByteArray) (dTA : Option Addr) (dTc : Nat) (dT : List Nd) (dBA : Option Addr) (dBc : Nat) (dB : List Nd) (dCA : Option Addr) (dCc : Nat) (dC : List Tl) (hdT : (dRow 4 dTA dT.length dTc (encNs dT)).φ w0 Z) (hdB : (dRow 4 dBA dB.length dBc (encNs dB)).φ w0 Z) (hdC : (dRow 1 dCA dC.length dCc (encTs dC)).φ w0 Z) (hdCs : (dAllT dC).φ w0 Z) (hl : dC.length ≤ 100 := by first | assumption | omega | (simp <;> omega)) (hb : ∀ s ∈ dC, s.2.2.length ≤ 100 := by first | assumption | omega | (simp <;> omega)) :
    Calls Tryz.prog 118 [.agg #[.int .i64 (dK), .int .i64 (dL), .string dS, .slice dTA dT.length dTc, .slice dBA dB.length dBc, .slice dCA dC.length dCc]].toArray w0 (fun e w' => ∃ (rA0 : Option Addr) (rc0 : Nat) (rL0 : List Sl), e = .returned (.slice rA0 rL0.length rc0) ∧ Fr none_ w0 w' ∧ (dRow 1 rA0 rL0.length rc0 (encSs rL0)).φ w' (nxt Z w0 w') ∧ (dAll rL0).φ w' (nxt Z w0 w') ∧ lsts rL0 = tmD dK dT dB (lstsT dC)) := by
 have b0 := s0 (M := none_) hZ (zc hdT (zc hdB (zc hdC (zc hdCs zn))))
 refine c_enter Tryz.func118 rfl Tryz.ntmps118 rfl fun c0 d0 => ?_
 refine wsc fun c0 f0 => bxx d0 b0 fun c0 h0 i0 j0 k0 => ?_
 refine aw j0 f0 fun i0 h0 => ?_
 refine wp_seq_k fun f0 i0 => wsc fun f0 j0 => lR h0 fun f0 c0 => ?_
 refine wn j0 <| wp_block ?_
 refine wsc fun j0 f0 => lR c0 fun j0 h0 => ?_
 refine wn f0 ?_
 rcases Decidable.em ((dK) = 1) with f0 | f0
 ·
  refine wct h0 (decide_eq_true f0) fun j0 => ?_
  refine wsc fun c0 d0 => lR j0 fun c0 b0 => ?_
  have c0 := k0.data (dAll [((dTA, dTc, dT) : Sl), ((dBA, dBc, dB) : Sl)]) (all_cons (k0.get (i := 0) rfl) (all_cons (k0.get (i := 1) rfl) all_nil))
  refine bsl b0 c0 fun j0 m0 n0 o0 p0 => ?_
  refine aw o0 d0 fun m0 j0 => ?_
  refine wp_ret <| x_block_r <| x_then_r <| er1 j0 ?_
  have j0 := p0.pub 1 (dRow 1 (some ⟨n0, 0, none⟩) 2 2 (encSs ([((dTA, dTc, dT) : Sl), ((dBA, dBc, dB) : Sl)])))
  refine ⟨(some ⟨n0, 0, none⟩), 2, ([((dTA, dTc, dT) : Sl), ((dBA, dBc, dB) : Sl)]), ?_, j0.fr, j0.rx 5, j0.rx 4, (by unfold tmD; simp [f0, lsts])⟩
  exact cre (ret_s (by rfl))
 refine wcf h0 (decide_eq_false f0) fun j0 => ?_
 refine wsc fun h0 n0 => lR j0 fun h0 p0 => ?_
 refine wn n0 ?_
 rcases Decidable.em ((dK) = 2) with n0 | n0
 ·
  refine wct p0 (decide_eq_true n0) fun h0 => ?_
  refine wsc fun j0 d0 => lR h0 fun j0 m0 => ?_
  have j0 := k0.data (dAll [((dTA, dTc, dT) : Sl)]) (all_cons (k0.get (i := 0) rfl) all_nil)
  refine bsl m0 j0 fun h0 o0 c0 b0 q0 => ?_
  refine aw b0 d0 fun o0 h0 => ?_
  refine wp_ret <| x_block_r <| x_then_r <| er1 h0 ?_
  have h0 := q0.pub 1 (dRow 1 (some ⟨c0, 0, none⟩) 1 1 (encSs ([((dTA, dTc, dT) : Sl)])))
  refine ⟨(some ⟨c0, 0, none⟩), 1, ([((dTA, dTc, dT) : Sl)]), ?_, h0.fr, h0.rx 5, h0.rx 4, (by unfold tmD; simp [f0, n0, lsts])⟩
  exact cre (ret_s (by rfl))
 refine wcf p0 (decide_eq_false n0) fun h0 => ?_
 refine wsc fun p0 c0 => lR h0 fun p0 q0 => ?_
 refine wn c0 ?_
 rcases Decidable.em ((dK) = 3) with c0 | c0
 ·
  refine wct q0 (decide_eq_true c0) fun p0 => ?_
  refine wsc fun h0 d0 => lR p0 fun h0 o0 => ?_
  have h0 := k0.nf
  refine kcl o0 ok142 (concatT_calls _ _ h0.il _ _ _ (h0.g 2) (h0.g 3)) ?_
  rintro o0 p0 ⟨b0, j0, m0, rfl, t0, u0, v0, x0⟩
  have p0 := h0.below t0.below
  have t0 := h0.dN p0 u0
  have p0 := h0.dN t0 v0
  refine ⟨_, rfl, fun t0 v0 => ?_⟩
  refine aw v0 d0 fun t0 h0 => ?_
  refine wp_ret <| x_block_r <| x_then_r <| er1 h0 ?_
  refine ⟨b0, j0, m0, ?_, p0.fr, p0.rx 4, p0.rx 5, (by rw [x0]; unfold tmD; simp [f0, n0, c0])⟩
  exact cre (ret_s (by rfl))
 refine wcf q0 (decide_eq_false c0) fun p0 => ?_
 refine wp_skip <| x_block_n <| xn i0 <| wsc fun i0 q0 => aw p0 q0 fun i0 x0 => ?_
 refine wp_ret <| er1 x0 ?_
 refine ⟨none, 0, [], ?_, k0.fr, ⟨Nat.le_refl _, RowI.nil _ _ _ _⟩, all_nil, (by unfold tmD; simp [f0, n0, c0, lsts])⟩
 exact cre (ret_s (by rfl))
theorem alone_calls (w0 : World) (Z : Nat → Prop) (hZ : ∀ k, Z k → k < w0.heap.size)   :
    Calls Tryz.prog 157 [].toArray w0 (fun e w' => ∃ q0 : Nat, e = .returned (.map (some q0)) ∧ Fr none_ w0 w' ∧ (dMap q0 alM 7).φ w' (nxt Z w0 w')) := by
 have b0 := s0 (M := none_) hZ zn
 refine c_enter Tryz.func157 rfl Tryz.ntmps157 rfl fun c0 d0 => ?_
 refine wsc fun c0 f0 => aw d0 f0 fun c0 h0 => ?_
 refine wsc fun f0 c0 => m_makeMapR sv h0 b0 rfl rfl (by decide) fun f0 d0 i0 j0 k0 => ?_
 have d0 := k0.mp_as (E' := alM.take 0) 0 rfl rfl
 refine bld j0 fun k0 f0 => ?_
 refine m_insertT alM (i := 0) (ks := (⟨#[80, 114, 111, 112]⟩ : ByteArray)) se f0 d0 rfl rfl rfl rfl rfl rfl Tryz.underlying184 Tryz.underlying9 (by kernel_rfl) rfl fun k0 j0 h0 b0 => ?_
 have j0 := b0.nf
 refine bld h0 fun b0 k0 => ?_
 refine m_insertT alM (i := 0) (ks := (⟨#[78, 97, 116]⟩ : ByteArray)) se k0 j0 rfl rfl rfl rfl rfl rfl Tryz.underlying184 Tryz.underlying9 (by kernel_rfl) rfl fun b0 h0 f0 d0 => ?_
 have h0 := d0.nf
 refine bld f0 fun d0 b0 => ?_
 refine m_insertT alM (i := 0) (ks := (⟨#[122, 101, 114, 111]⟩ : ByteArray)) se b0 h0 rfl rfl rfl rfl rfl rfl Tryz.underlying184 Tryz.underlying9 (by kernel_rfl) rfl fun d0 f0 k0 j0 => ?_
 have f0 := j0.nf
 refine bld k0 fun j0 d0 => ?_
 refine m_insertT alM (i := 0) (ks := (⟨#[69, 109, 112, 116, 121]⟩ : ByteArray)) se d0 f0 rfl rfl rfl rfl rfl rfl Tryz.underlying184 Tryz.underlying9 (by kernel_rfl) rfl fun j0 k0 b0 h0 => ?_
 have k0 := h0.nf
 refine bld b0 fun h0 j0 => ?_
 refine m_insertT alM (i := 0) (ks := (⟨#[85, 110, 105, 116]⟩ : ByteArray)) se j0 k0 rfl rfl rfl rfl rfl rfl Tryz.underlying184 Tryz.underlying9 (by kernel_rfl) rfl fun h0 b0 d0 f0 => ?_
 have b0 := f0.nf
 refine bld d0 fun f0 h0 => ?_
 refine m_insertT alM (i := 0) (ks := (⟨#[115, 116, 97, 114]⟩ : ByteArray)) se h0 b0 rfl rfl rfl rfl rfl rfl Tryz.underlying184 Tryz.underlying9 (by kernel_rfl) rfl fun f0 d0 j0 k0 => ?_
 have d0 := k0.nf
 refine bld j0 fun k0 f0 => ?_
 refine m_insertT alM (i := 0) (ks := (⟨#[116, 105, 99, 107]⟩ : ByteArray)) se f0 d0 rfl rfl rfl rfl rfl rfl Tryz.underlying184 Tryz.underlying9 (by kernel_rfl) rfl fun k0 j0 h0 b0 => ?_
 have j0 := b0.nf
 refine lR h0 fun b0 k0 => ?_
 refine wn c0 <| wp_ret <| er1 k0 ?_
 refine ⟨i0, ?_, j0.fr, (j0.mp_data (i := 0) rfl)⟩
 exact cre rfl
theorem forms_calls (w0 : World) (Z : Nat → Prop) (hZ : ∀ k, Z k → k < w0.heap.size)   :
    Calls Tryz.prog 156 [].toArray w0 (fun e w' => ∃ q0 : Nat, e = .returned (.map (some q0)) ∧ Fr none_ w0 w' ∧ (dMap q0 fmM 28).φ w' (nxt Z w0 w')) := by
 have b0 := s0 (M := none_) hZ zn
 refine c_enter Tryz.func156 rfl Tryz.ntmps156 rfl fun c0 d0 => ?_
 refine wsc fun c0 f0 => aw d0 f0 fun c0 h0 => ?_
 refine wsc fun f0 c0 => m_makeMapR sv h0 b0 rfl rfl (by decide) fun f0 d0 i0 j0 k0 => ?_
 have d0 := k0.mp_as (E' := fmM.take 0) 0 rfl rfl
 refine bld j0 fun k0 f0 => ?_
 refine bld f0 fun k0 j0 => ?_
 refine m_insertT fmM (i := 0) (ks := (⟨#[84, 121, 112, 101]⟩ : ByteArray)) se j0 d0 rfl rfl rfl rfl rfl rfl Tryz.underlying182 Tryz.underlying9 (by kernel_rfl) rfl fun k0 f0 h0 b0 => ?_
 have f0 := b0.nf
 refine bld h0 fun b0 k0 => ?_
 refine bld k0 fun b0 h0 => ?_
 refine m_insertT fmM (i := 0) (ks := (⟨#[108, 97, 109]⟩ : ByteArray)) se h0 f0 rfl rfl rfl rfl rfl rfl Tryz.underlying182 Tryz.underlying9 (by kernel_rfl) rfl fun b0 k0 j0 d0 => ?_
 have k0 := d0.nf
 refine bld j0 fun d0 b0 => ?_
 refine bld b0 fun d0 j0 => ?_
 refine m_insertT fmM (i := 0) (ks := (⟨#[97, 112, 112]⟩ : ByteArray)) se j0 k0 rfl rfl rfl rfl rfl rfl Tryz.underlying182 Tryz.underlying9 (by kernel_rfl) rfl fun d0 b0 h0 f0 => ?_
 have b0 := f0.nf
 refine bld h0 fun f0 d0 => ?_
 refine bld d0 fun f0 h0 => ?_
 refine m_insertT fmM (i := 0) (ks := (⟨#[112, 97, 105, 114]⟩ : ByteArray)) se h0 b0 rfl rfl rfl rfl rfl rfl Tryz.underlying182 Tryz.underlying9 (by kernel_rfl) rfl fun f0 d0 j0 k0 => ?_
 have d0 := k0.nf
 refine bld j0 fun k0 f0 => ?_
 refine bld f0 fun k0 j0 => ?_
 refine m_insertT fmM (i := 0) (ks := (⟨#[102, 115, 116]⟩ : ByteArray)) se j0 d0 rfl rfl rfl rfl rfl rfl Tryz.underlying182 Tryz.underlying9 (by kernel_rfl) rfl fun k0 f0 h0 b0 => ?_
 have f0 := b0.nf
 refine bld h0 fun b0 k0 => ?_
 refine bld k0 fun b0 h0 => ?_
 refine m_insertT fmM (i := 0) (ks := (⟨#[115, 110, 100]⟩ : ByteArray)) se h0 f0 rfl rfl rfl rfl rfl rfl Tryz.underlying182 Tryz.underlying9 (by kernel_rfl) rfl fun b0 k0 j0 d0 => ?_
 have k0 := d0.nf
 refine bld j0 fun d0 b0 => ?_
 refine bld b0 fun d0 j0 => ?_
 refine m_insertT fmM (i := 0) (ks := (⟨#[115, 117, 99]⟩ : ByteArray)) se j0 k0 rfl rfl rfl rfl rfl rfl Tryz.underlying182 Tryz.underlying9 (by kernel_rfl) rfl fun d0 b0 h0 f0 => ?_
 have b0 := f0.nf
 refine bld h0 fun f0 d0 => ?_
 refine bld d0 fun f0 h0 => ?_
 refine m_insertT fmM (i := 0) (ks := (⟨#[112, 114, 102]⟩ : ByteArray)) se h0 b0 rfl rfl rfl rfl rfl rfl Tryz.underlying182 Tryz.underlying9 (by kernel_rfl) rfl fun f0 d0 j0 k0 => ?_
 have d0 := k0.nf
 refine bld j0 fun k0 f0 => ?_
 refine bld f0 fun k0 j0 => ?_
 refine m_insertT fmM (i := 0) (ks := (⟨#[114, 101, 99]⟩ : ByteArray)) se j0 d0 rfl rfl rfl rfl rfl rfl Tryz.underlying182 Tryz.underlying9 (by kernel_rfl) rfl fun k0 f0 h0 b0 => ?_
 have f0 := b0.nf
 refine bld h0 fun b0 k0 => ?_
 refine bld k0 fun b0 h0 => ?_
 refine m_insertT fmM (i := 0) (ks := (⟨#[97, 98, 111, 114, 116]⟩ : ByteArray)) se h0 f0 rfl rfl rfl rfl rfl rfl Tryz.underlying182 Tryz.underlying9 (by kernel_rfl) rfl fun b0 k0 j0 d0 => ?_
 have k0 := d0.nf
 refine bld j0 fun d0 b0 => ?_
 refine bld b0 fun d0 j0 => ?_
 refine m_insertT fmM (i := 0) (ks := (⟨#[101, 113]⟩ : ByteArray)) se j0 k0 rfl rfl rfl rfl rfl rfl Tryz.underlying182 Tryz.underlying9 (by kernel_rfl) rfl fun d0 b0 h0 f0 => ?_
 have b0 := f0.nf
 refine bld h0 fun f0 d0 => ?_
 refine bld d0 fun f0 h0 => ?_
 refine m_insertT fmM (i := 0) (ks := (⟨#[114, 101, 102, 108]⟩ : ByteArray)) se h0 b0 rfl rfl rfl rfl rfl rfl Tryz.underlying182 Tryz.underlying9 (by kernel_rfl) rfl fun f0 d0 j0 k0 => ?_
 have d0 := k0.nf
 refine bld j0 fun k0 f0 => ?_
 refine bld f0 fun k0 j0 => ?_
 refine m_insertT fmM (i := 0) (ks := (⟨#[99, 97, 115, 116]⟩ : ByteArray)) se j0 d0 rfl rfl rfl rfl rfl rfl Tryz.underlying182 Tryz.underlying9 (by kernel_rfl) rfl fun k0 f0 h0 b0 => ?_
 have f0 := b0.nf
 refine bld h0 fun b0 k0 => ?_
 refine bld k0 fun b0 h0 => ?_
 refine m_insertT fmM (i := 0) (ks := (⟨#[116, 114, 97, 110, 115, 112]⟩ : ByteArray)) se h0 f0 rfl rfl rfl rfl rfl rfl Tryz.underlying182 Tryz.underlying9 (by kernel_rfl) rfl fun b0 k0 j0 d0 => ?_
 have k0 := d0.nf
 refine bld j0 fun d0 b0 => ?_
 refine bld b0 fun d0 j0 => ?_
 refine m_insertT fmM (i := 0) (ks := (⟨#[113, 117, 111, 116]⟩ : ByteArray)) se j0 k0 rfl rfl rfl rfl rfl rfl Tryz.underlying182 Tryz.underlying9 (by kernel_rfl) rfl fun d0 b0 h0 f0 => ?_
 have b0 := f0.nf
 refine bld h0 fun f0 d0 => ?_
 refine bld d0 fun f0 h0 => ?_
 refine m_insertT fmM (i := 0) (ks := (⟨#[99, 108, 97, 115, 115]⟩ : ByteArray)) se h0 b0 rfl rfl rfl rfl rfl rfl Tryz.underlying182 Tryz.underlying9 (by kernel_rfl) rfl fun f0 d0 j0 k0 => ?_
 have d0 := k0.nf
 refine bld j0 fun k0 f0 => ?_
 refine bld f0 fun k0 j0 => ?_
 refine m_insertT fmM (i := 0) (ks := (⟨#[113, 101, 108, 105, 109]⟩ : ByteArray)) se j0 d0 rfl rfl rfl rfl rfl rfl Tryz.underlying182 Tryz.underlying9 (by kernel_rfl) rfl fun k0 f0 h0 b0 => ?_
 have f0 := b0.nf
 refine bld h0 fun b0 k0 => ?_
 refine bld k0 fun b0 h0 => ?_
 refine m_insertT fmM (i := 0) (ks := (⟨#[100, 97, 116, 97]⟩ : ByteArray)) se h0 f0 rfl rfl rfl rfl rfl rfl Tryz.underlying182 Tryz.underlying9 (by kernel_rfl) rfl fun b0 k0 j0 d0 => ?_
 have k0 := d0.nf
 refine bld j0 fun d0 b0 => ?_
 refine bld b0 fun d0 j0 => ?_
 refine m_insertT fmM (i := 0) (ks := (⟨#[99, 111, 110]⟩ : ByteArray)) se j0 k0 rfl rfl rfl rfl rfl rfl Tryz.underlying182 Tryz.underlying9 (by kernel_rfl) rfl fun d0 b0 h0 f0 => ?_
 have b0 := f0.nf
 refine bld h0 fun f0 d0 => ?_
 refine bld d0 fun f0 h0 => ?_
 refine m_insertT fmM (i := 0) (ks := (⟨#[101, 108, 105, 109]⟩ : ByteArray)) se h0 b0 rfl rfl rfl rfl rfl rfl Tryz.underlying182 Tryz.underlying9 (by kernel_rfl) rfl fun f0 d0 j0 k0 => ?_
 have d0 := k0.nf
 refine lR j0 fun k0 f0 => ?_
 refine wn c0 <| wp_seq_k fun c0 k0 => wsc fun c0 j0 => m_buildSlice (ps := [(0, .const (.string (⟨#[]⟩ : ByteArray))), (1, .const (.string (⟨#[49]⟩ : ByteArray))), (2, .const (.string (⟨#[50]⟩ : ByteArray))), (3, .const (.string (⟨#[51]⟩ : ByteArray)))]) (cs := [.string (⟨#[]⟩ : ByteArray), .string (⟨#[49]⟩ : ByteArray), .string (⟨#[50]⟩ : ByteArray), .string (⟨#[51]⟩ : ByteArray)]) sv f0 d0 rfl rfl rfl Tryz.underlying162 zi9 rfl rfl (by kernel_rfl) rfl (by decide) fun c0 h0 b0 m0 n0 => ?_
 refine lR m0 fun b0 h0 => ?_
 refine wn j0 <| wp_block ?_
 refine wp_loop_rounds 5 (r_round ?_)
 refine wsc fun j0 b0 => ?_
 have j0 : (0 : Int) < 4 := by decide
 refine lR h0 fun m0 c0 => ?_
 refine wn b0 <| wp_seq_k fun b0 m0 => wct c0 (decide_eq_true j0) fun b0 => ?_
 refine wp_skip <| xn m0 <| wp_seq_k fun m0 c0 => wp_block ?_
 refine wsc fun m0 j0 => mv b0 fun m0 h0 => ?_
 refine m_index (i := 0) (j := 0 * 1) sv h0 rfl rfl rfl rfl Tryz.underlying162 sz9 (by omega) (by simp) (own_vs (t := [.string (⟨#[]⟩ : ByteArray), .string (⟨#[49]⟩ : ByteArray), .string (⟨#[50]⟩ : ByteArray), .string (⟨#[51]⟩ : ByteArray)]) (k := 0) (n0.res (i := 1) rfl) (by simp)).some_ rfl (by decide) fun m0 b0 => ?_
 refine lde 0 (0 * 1) b0 (own_vs (t := [.string (⟨#[]⟩ : ByteArray), .string (⟨#[49]⟩ : ByteArray), .string (⟨#[50]⟩ : ByteArray), .string (⟨#[51]⟩ : ByteArray)]) (k := 0) (n0.res (i := 1) rfl) (by simp)) fun m0 h0 => ?_
 refine lR h0 fun m0 b0 => ?_
 refine wn j0 <| wsc fun j0 m0 => lR b0 fun j0 h0 => ?_
 refine r_addS (r := (⟨#[112, 105]⟩ : ByteArray)) sv h0 rfl rfl rfl rfl (by kernel_rfl) (by decide) (by decide) fun j0 b0 => ?_
 refine mv b0 fun j0 h0 => ?_
 refine bld h0 fun j0 b0 => ?_
 refine bld b0 fun j0 h0 => ?_
 refine m_updateT fmM (i := 0) (ks := (⟨#[112, 105]⟩ : ByteArray)) se h0 n0 rfl rfl rfl rfl rfl rfl Tryz.underlying182 Tryz.underlying9 (by kernel_rfl) rfl fun j0 b0 f0 d0 => ?_
 have b0 := d0.nf
 refine wpList_nil (x_then_n (m0 _ _ (c_region ?_)))
 refine lR f0 fun m0 d0 => ?_
 refine r_addS (r := (⟨#[115, 105, 103]⟩ : ByteArray)) sv d0 rfl rfl rfl rfl (by kernel_rfl) (by decide) (by decide) fun m0 f0 => ?_
 refine mv f0 fun m0 d0 => ?_
 refine bld d0 fun m0 f0 => ?_
 refine bld f0 fun m0 d0 => ?_
 refine m_updateT fmM (i := 0) (ks := (⟨#[115, 105, 103]⟩ : ByteArray)) se d0 b0 rfl rfl rfl rfl rfl rfl Tryz.underlying182 Tryz.underlying9 (by kernel_rfl) rfl fun m0 f0 j0 h0 => ?_
 have f0 := h0.nf
 refine wpList_nil ?_
 refine x_block_n <| xn c0 <| c_region ?_
 refine adi 1 j0 fun c0 h0 => ?_
 refine mv h0 fun c0 j0 => ?_
 refine wpList_nil ?_
 refine x_then_n (r_round ?_)
 refine wsc fun c0 h0 => ?_
 have c0 : (1 : Int) < 4 := by decide
 refine lR j0 fun m0 d0 => ?_
 refine wn h0 <| wp_seq_k fun h0 m0 => wct d0 (decide_eq_true c0) fun h0 => ?_
 refine wp_skip <| xn m0 <| wp_seq_k fun m0 d0 => wp_block ?_
 refine wsc fun m0 c0 => mv h0 fun m0 j0 => ?_
 refine m_index (i := 1) (j := 1 * 1) sv j0 rfl rfl rfl rfl Tryz.underlying162 sz9 (by omega) (by simp) (own_vs (t := [.string (⟨#[]⟩ : ByteArray), .string (⟨#[49]⟩ : ByteArray), .string (⟨#[50]⟩ : ByteArray), .string (⟨#[51]⟩ : ByteArray)]) (k := 1) (f0.res (i := 1) rfl) (by simp)).some_ rfl (by decide) fun m0 h0 => ?_
 refine lde 0 (1 * 1) h0 (own_vs (t := [.string (⟨#[]⟩ : ByteArray), .string (⟨#[49]⟩ : ByteArray), .string (⟨#[50]⟩ : ByteArray), .string (⟨#[51]⟩ : ByteArray)]) (k := 1) (f0.res (i := 1) rfl) (by simp)) fun m0 j0 => ?_
 refine lR j0 fun m0 h0 => ?_
 refine wn c0 <| wsc fun c0 m0 => lR h0 fun c0 j0 => ?_
 refine r_addS (r := (⟨#[112, 105, 49]⟩ : ByteArray)) sv j0 rfl rfl rfl rfl (by kernel_rfl) (by decide) (by decide) fun c0 h0 => ?_
 refine mv h0 fun c0 j0 => ?_
 refine bld j0 fun c0 h0 => ?_
 refine bld h0 fun c0 j0 => ?_
 refine m_updateT fmM (i := 0) (ks := (⟨#[112, 105, 49]⟩ : ByteArray)) se j0 f0 rfl rfl rfl rfl rfl rfl Tryz.underlying182 Tryz.underlying9 (by kernel_rfl) rfl fun c0 h0 b0 n0 => ?_
 have h0 := n0.nf
 refine wpList_nil (x_then_n (m0 _ _ (c_region ?_)))
 refine lR b0 fun m0 n0 => ?_
 refine r_addS (r := (⟨#[115, 105, 103, 49]⟩ : ByteArray)) sv n0 rfl rfl rfl rfl (by kernel_rfl) (by decide) (by decide) fun m0 b0 => ?_
 refine mv b0 fun m0 n0 => ?_
 refine bld n0 fun m0 b0 => ?_
 refine bld b0 fun m0 n0 => ?_
 refine m_updateT fmM (i := 0) (ks := (⟨#[115, 105, 103, 49]⟩ : ByteArray)) se n0 h0 rfl rfl rfl rfl rfl rfl Tryz.underlying182 Tryz.underlying9 (by kernel_rfl) rfl fun m0 b0 c0 j0 => ?_
 have b0 := j0.nf
 refine wpList_nil ?_
 refine x_block_n <| xn d0 <| c_region ?_
 refine adi 2 c0 fun d0 j0 => ?_
 refine mv j0 fun d0 c0 => ?_
 refine wpList_nil ?_
 refine x_then_n (r_round ?_)
 refine wsc fun d0 j0 => ?_
 have d0 : (2 : Int) < 4 := by decide
 refine lR c0 fun m0 n0 => ?_
 refine wn j0 <| wp_seq_k fun j0 m0 => wct n0 (decide_eq_true d0) fun j0 => ?_
 refine wp_skip <| xn m0 <| wp_seq_k fun m0 n0 => wp_block ?_
 refine wsc fun m0 d0 => mv j0 fun m0 c0 => ?_
 refine m_index (i := 2) (j := 2 * 1) sv c0 rfl rfl rfl rfl Tryz.underlying162 sz9 (by omega) (by simp) (own_vs (t := [.string (⟨#[]⟩ : ByteArray), .string (⟨#[49]⟩ : ByteArray), .string (⟨#[50]⟩ : ByteArray), .string (⟨#[51]⟩ : ByteArray)]) (k := 2) (b0.res (i := 1) rfl) (by simp)).some_ rfl (by decide) fun m0 j0 => ?_
 refine lde 0 (2 * 1) j0 (own_vs (t := [.string (⟨#[]⟩ : ByteArray), .string (⟨#[49]⟩ : ByteArray), .string (⟨#[50]⟩ : ByteArray), .string (⟨#[51]⟩ : ByteArray)]) (k := 2) (b0.res (i := 1) rfl) (by simp)) fun m0 c0 => ?_
 refine lR c0 fun m0 j0 => ?_
 refine wn d0 <| wsc fun d0 m0 => lR j0 fun d0 c0 => ?_
 refine r_addS (r := (⟨#[112, 105, 50]⟩ : ByteArray)) sv c0 rfl rfl rfl rfl (by kernel_rfl) (by decide) (by decide) fun d0 j0 => ?_
 refine mv j0 fun d0 c0 => ?_
 refine bld c0 fun d0 j0 => ?_
 refine bld j0 fun d0 c0 => ?_
 refine m_updateT fmM (i := 0) (ks := (⟨#[112, 105, 50]⟩ : ByteArray)) se c0 b0 rfl rfl rfl rfl rfl rfl Tryz.underlying182 Tryz.underlying9 (by kernel_rfl) rfl fun d0 j0 h0 f0 => ?_
 have j0 := f0.nf
 refine wpList_nil (x_then_n (m0 _ _ (c_region ?_)))
 refine lR h0 fun m0 f0 => ?_
 refine r_addS (r := (⟨#[115, 105, 103, 50]⟩ : ByteArray)) sv f0 rfl rfl rfl rfl (by kernel_rfl) (by decide) (by decide) fun m0 h0 => ?_
 refine mv h0 fun m0 f0 => ?_
 refine bld f0 fun m0 h0 => ?_
 refine bld h0 fun m0 f0 => ?_
 refine m_updateT fmM (i := 0) (ks := (⟨#[115, 105, 103, 50]⟩ : ByteArray)) se f0 j0 rfl rfl rfl rfl rfl rfl Tryz.underlying182 Tryz.underlying9 (by kernel_rfl) rfl fun m0 h0 d0 c0 => ?_
 have h0 := c0.nf
 refine wpList_nil ?_
 refine x_block_n <| xn n0 <| c_region ?_
 refine adi 3 d0 fun n0 c0 => ?_
 refine mv c0 fun n0 d0 => ?_
 refine wpList_nil ?_
 refine x_then_n (r_round ?_)
 refine wsc fun n0 c0 => ?_
 have n0 : (3 : Int) < 4 := by decide
 refine lR d0 fun m0 f0 => ?_
 refine wn c0 <| wp_seq_k fun c0 m0 => wct f0 (decide_eq_true n0) fun c0 => ?_
 refine wp_skip <| xn m0 <| wp_seq_k fun m0 f0 => wp_block ?_
 refine wsc fun m0 n0 => mv c0 fun m0 d0 => ?_
 refine m_index (i := 3) (j := 3 * 1) sv d0 rfl rfl rfl rfl Tryz.underlying162 sz9 (by omega) (by simp) (own_vs (t := [.string (⟨#[]⟩ : ByteArray), .string (⟨#[49]⟩ : ByteArray), .string (⟨#[50]⟩ : ByteArray), .string (⟨#[51]⟩ : ByteArray)]) (k := 3) (h0.res (i := 1) rfl) (by simp)).some_ rfl (by decide) fun m0 c0 => ?_
 refine lde 0 (3 * 1) c0 (own_vs (t := [.string (⟨#[]⟩ : ByteArray), .string (⟨#[49]⟩ : ByteArray), .string (⟨#[50]⟩ : ByteArray), .string (⟨#[51]⟩ : ByteArray)]) (k := 3) (h0.res (i := 1) rfl) (by simp)) fun m0 d0 => ?_
 refine lR d0 fun m0 c0 => ?_
 refine wn n0 <| wsc fun n0 m0 => lR c0 fun n0 d0 => ?_
 refine r_addS (r := (⟨#[112, 105, 51]⟩ : ByteArray)) sv d0 rfl rfl rfl rfl (by kernel_rfl) (by decide) (by decide) fun n0 c0 => ?_
 refine mv c0 fun n0 d0 => ?_
 refine bld d0 fun n0 c0 => ?_
 refine bld c0 fun n0 d0 => ?_
 refine m_updateT fmM (i := 0) (ks := (⟨#[112, 105, 51]⟩ : ByteArray)) se d0 h0 rfl rfl rfl rfl rfl rfl Tryz.underlying182 Tryz.underlying9 (by kernel_rfl) rfl fun n0 c0 j0 b0 => ?_
 have c0 := b0.nf
 refine wpList_nil (x_then_n (m0 _ _ (c_region ?_)))
 refine lR j0 fun m0 b0 => ?_
 refine r_addS (r := (⟨#[115, 105, 103, 51]⟩ : ByteArray)) sv b0 rfl rfl rfl rfl (by kernel_rfl) (by decide) (by decide) fun m0 j0 => ?_
 refine mv j0 fun m0 b0 => ?_
 refine bld b0 fun m0 j0 => ?_
 refine bld j0 fun m0 b0 => ?_
 refine m_updateT fmM (i := 0) (ks := (⟨#[115, 105, 103, 51]⟩ : ByteArray)) se b0 c0 rfl rfl rfl rfl rfl rfl Tryz.underlying182 Tryz.underlying9 (by kernel_rfl) rfl fun m0 j0 n0 d0 => ?_
 have j0 := d0.nf
 refine wpList_nil ?_
 refine x_block_n <| xn f0 <| c_region ?_
 refine adi 4 n0 fun f0 d0 => ?_
 refine mv d0 fun f0 n0 => ?_
 refine wpList_nil ?_
 refine x_then_n (r_round ?_)
 refine wsc fun f0 d0 => ?_
 have f0 : ¬ (4 : Int) < 4 := by decide
 refine lR n0 fun m0 b0 => ?_
 refine wn d0 <| wp_seq_k fun d0 m0 => wcf b0 (decide_eq_false f0) fun m0 => ?_
 refine wp_exit ?_
 refine x_then_e ?_
 refine x_then_e ?_
 refine x_block_eq ?_
 refine xn k0 <| wsc fun k0 b0 => lR m0 fun k0 f0 => ?_
 refine wn b0 <| wp_ret <| er1 f0 ?_
 refine ⟨i0, ?_, j0.fr, (j0.mp_data (i := 0) rfl)⟩
 exact cre rfl
theorem keyword_calls (w0 : World) (Z : Nat → Prop) (hZ : ∀ k, Z k → k < w0.heap.size) (s : ByteArray)  :
    Calls Tryz.prog 116 [.string s].toArray w0 (fun e w' => e = .returned (.bool (kwB s)) ∧ Fr none_ w0 w') := by
 have b0 := s0 (M := none_) hZ zn
 refine c_enter Tryz.func116 rfl Tryz.ntmps116 rfl fun c0 d0 => ?_
 refine wsc fun c0 f0 => aw d0 f0 fun c0 h0 => ?_
 refine wsc fun f0 c0 => bld h0 fun f0 d0 => ?_
 refine k_inl (xs := [.tmp 3]) se d0 rfl rfl rfl (by decide) ok140 ?_
 refine c_enter (vs := [.agg #[.slice none 0 0, .slice none 0 0]]) Tryz.func140 rfl Tryz.ntmps140 rfl fun d0 f0 => ?_
 refine wsc fun d0 h0 => bxx f0 b0 fun d0 i0 j0 k0 m0 => ?_
 refine aw k0 h0 fun j0 i0 => ?_
 refine wp_seq_k fun h0 j0 => ?_
 obtain ⟨h0, k0, d0⟩ := m0.agree
 refine d_reg3 (n := 6) d0 0 (pB 0 0 pn) (pan_then pan_body) fun k0 h0 m0 f0 b0 n0 => ?_
 refine dt 0 rfl h0 i0 (want_n rfl) (fun x hx => m_loadCN (sy i0) i0 rfl rfl rfl (CellsAt.cons_ (hx.c 0) (CellsAt.cons_ (hx.c 1) (CellsAt.nil _ _))) Tryz.underlying164 rfl sz164 (by decide) gt) n0 fun f0 k0 => ?_
 refine d1 1 ?_
 have f0 := b0.nf
 refine kcl k0 ok156 (forms_calls _ _ f0.il ) ?_
 rintro k0 b0 ⟨n0, rfl, i0, d0⟩
 have n0 := f0.below i0.below
 have i0 := f0.dN n0 d0
 refine ⟨_, rfl, fun n0 d0 => ?_⟩
 have n0 := sWI i0 0 (pB 0 0 pn)
 refine ⟨n0, ?_⟩
 refine d1 2 ?_
 have n0 := i0.nf
 refine kcl d0 ok157 (alone_calls _ _ n0.il ) ?_
 rintro d0 i0 ⟨f0, rfl, b0, k0⟩
 have f0 := n0.below b0.below
 have b0 := n0.dN f0 k0
 refine ⟨_, rfl, fun f0 k0 => ?_⟩
 have f0 := sWI b0 0 (pB 0 0 pn)
 refine ⟨f0, ?_⟩
 refine dt 3 rfl h0 k0 (want_n rfl) (fun x hx => bldY k0) f0 fun n0 i0 => ?_
 refine d1 4 ?_
 refine bxx i0 b0 fun n0 f0 k0 h0 d0 => ?_
 have f0 := sWI d0 0 (pB 0 0 pn)
 refine ⟨f0, ?_⟩
 refine dR [5] h0 fun f0 n0 => ?_
 refine wpAnyH_done (by kernel_rfl) (m0 _ _ ?_) _
 refine xn j0 <| wp_ret <| er1 n0 ?_
 refine ⟨_, rfl, fun n0 j0 => ?_⟩
 refine mv j0 fun n0 m0 => ?_
 refine k_inl (xs := [.tmp 4, .tmp 5]) se m0 rfl rfl rfl (by decide) ok141 ?_
 refine c_enter (vs := [.pointer (some ⟨k0, 0, none⟩), .string s]) Tryz.func141 rfl Tryz.ntmps141 rfl fun m0 n0 => ?_
 refine wsc fun m0 k0 => aw n0 k0 fun m0 j0 => ?_
 refine wsc fun k0 m0 => lR j0 fun k0 n0 => ?_
 refine m_lookupOk (n := 5) (es := fmM) sv n0 rfl rfl rfl rfl (d0.get (i := 1) rfl).2 Tryz.underlying182 Tryz.underlying9 ze189 rfl (by kernel_rfl) (by kernel_rfl) (by decide) fun k0 j0 f0 ho98 h0 => ?_
 refine lR h0 fun k0 n0 => ?_
 refine alc n0 d0 fun k0 h0 i0 b0 o0 => ?_
 refine m_storeRaw (i := 2) (n := 5) (cs := j0) se b0 o0 rfl rfl rfl rfl rfl sz189 f0 ho98 rfl fun i0 h0 k0 n0 => ?_
 refine aw k0 m0 fun h0 i0 => ?_
 refine wsc fun m0 h0 => lR i0 fun m0 k0 => ?_
 refine m_lookupOk (n := 4) (es := alM) sv k0 rfl rfl rfl rfl (n0.get (i := 2) rfl).2 Tryz.underlying184 Tryz.underlying9 ze30 rfl (by kernel_rfl) (by kernel_rfl) (by decide) fun m0 i0 o0 ho132 b0 => ?_
 refine lR b0 fun m0 k0 => ?_
 refine alc k0 n0 fun m0 b0 f0 j0 d0 => ?_
 refine m_storeRaw (i := 2) (n := 4) (cs := i0) se j0 d0 rfl rfl rfl rfl rfl sz30 o0 ho132 rfl fun f0 b0 m0 k0 => ?_
 refine aw m0 h0 fun b0 f0 => ?_
 refine wsc fun h0 b0 => lR f0 fun h0 m0 => ?_
 refine lOr 1 (alM.any (keyIs s)) m0 fun h0 f0 => ?_
 refine aw f0 b0 fun h0 m0 => ?_
 refine wp_ret <| er1 m0 ?_
 refine ⟨_, rfl, fun m0 b0 => ?_⟩
 refine aw b0 c0 fun m0 h0 => ?_
 refine wp_ret <| er1 h0 ?_
 refine ⟨?_, k0.fr⟩
 exact cre (ret_b (by rfl))
theorem closed1_calls (w0 : World) (Z : Nat → Prop) (hZ : ∀ k, Z k → k < w0.heap.size) (dg : Nat) (dK : Int) (dL : Int) (dS : ByteArray) (dTA : Option Addr) (dTc : Nat) (dT : List Nd) (dBA : Option Addr) (dBc : Nat) (dB : List Nd) (dCA : Option Addr) (dCc : Nat) (dC : List Tl) (hShp : Shapes w0 Z) (hdT : (dRow 4 dTA dT.length dTc (encNs dT)).φ w0 Z) (hdB : (dRow 4 dBA dB.length dBc (encNs dB)).φ w0 Z) (hdC : (dRow 1 dCA dC.length dCc (encTs dC)).φ w0 Z) (hdCs : (dAllT dC).φ w0 Z) (hdQ : (dBox dg [.int .i64 (dK), .int .i64 (dL), .string dS, .slice dTA dT.length dTc, .slice dBA dB.length dBc, .slice dCA dC.length dCc]).φ w0 Z) (hl : dC.length ≤ 100 := by first | assumption | omega | (simp <;> omega)) (hb : ∀ s ∈ dC, s.2.2.length ≤ 100 := by first | assumption | omega | (simp <;> omega)) (hall : ∀ x ∈ tmD dK dT dB (lstsT dC), sml x ∧ x.length ≤ 1000000 := by first | assumption | omega | (simp <;> omega)) :
    Calls Tryz.prog 117 [.pointer (some ⟨dg, 0, none⟩)].toArray w0 (fun e w' => e = .returned (.int .i64 (clD dK dT dB (lstsT dC))) ∧ Fr none_ w0 w') := by
 have b0 := s0 (M := none_) hZ (zc (d := dShapes) hShp (zc hdT (zc hdB (zc hdC (zc hdCs (zc hdQ zn))))))
 refine c_enter Tryz.func117 rfl Tryz.ntmps117 rfl fun c0 d0 => ?_
 refine wsc fun c0 f0 => aw d0 f0 fun c0 h0 => ?_
 refine wp_seq_k fun f0 c0 => wsc fun f0 d0 => m_loadCN sv h0 rfl rfl rfl (CellsAt.cons_ (dbox_cell (b0.get (i := 5) rfl) (j := 0) rfl) (CellsAt.cons_ (dbox_cell (b0.get (i := 5) rfl) (j := 1) rfl) (CellsAt.cons_ (dbox_cell (b0.get (i := 5) rfl) (j := 2) rfl) (CellsAt.cons_ (dbox_cell (b0.get (i := 5) rfl) (j := 3) rfl) (CellsAt.cons_ (dbox_cell (b0.get (i := 5) rfl) (j := 4) rfl) (CellsAt.cons_ (dbox_cell (b0.get (i := 5) rfl) (j := 5) rfl) (CellsAt.nil _ _))))))) Tryz.underlying25 rfl sz25 (by decide) fun f0 i0 => ?_
 have f0 := b0.nf
 refine kcl i0 ok118 (terms_calls _ _ f0.il (dK) (dL) dS _ _ _ _ _ _ _ _ _ (f0.g 1) (f0.g 2) (f0.g 3) (f0.g 4)) ?_
 rintro i0 b0 ⟨h0, j0, k0, rfl, m0, n0, o0, p0⟩
 have b0 := f0.below m0.below
 have m0 := f0.dN b0 n0
 have b0 := f0.dN m0 o0
 refine ⟨_, rfl, fun m0 o0 => ?_⟩
 refine lR o0 fun m0 f0 => ?_
 refine wn d0 <| wp_block ?_
 refine wp_loop_ghost (fun gn ga gw => ∃ k : Nat, (Reg ga 28 [(1000000, .bool false), (7, .slice h0 k0.length j0), (8, .int .i64 ((k0.length : Nat) : Int)), (9, .int .i64 ((k : Nat) : Int))]) ∧ (St w0 Z none_ gw [] [dShapes, dRow 4 dTA dT.length dTc (encNs dT), dRow 4 dBA dB.length dBc (encNs dB), dRow 1 dCA dC.length dCc (encTs dC), dAllT dC, dBox dg [.int .i64 (dK), .int .i64 (dL), .string dS, .slice dTA dT.length dTc, .slice dBA dB.length dBc, .slice dCA dC.length dCc], dRow 1 h0 k0.length j0 (encSs k0), dAll k0]) ∧ (k ≤ k0.length) ∧ (∀ i, i < k → clT (nthL (tmD dK dT dB (lstsT dC)) i) = 0) ∧ (k0.length - k) = gn) _ ⟨0, (f0.sub (rc2 (rc rfl (rc rfl rnl)))), b0, by omega, (fun _ h => by omega), rfl⟩ ?_
 rintro f0 b0 j0 ⟨k, h0, d0, hk, hi, m0⟩
 have hLk : (nthS k0 k).2.2 = nthL (tmD dK dT dB (lstsT dC)) k := by rw [lsts_nth, p0]
 have hLl : k0.length = (tmD dK dT dB (lstsT dC)).length := by rw [← lsts_len, p0]
 have hTl := tmD_len (K := dK) (t := dT) (b := dB) hl hb
 refine wsc fun p0 m0 => lR h0 fun p0 j0 => ?_
 refine wn m0 <| wp_seq_k fun m0 p0 => ?_
 rcases Decidable.em (((k : Nat) : Int) < ((k0.length : Nat) : Int)) with m0 | m0
 ·
  refine wct j0 (decide_eq_true m0) fun h0 => ?_
  refine wp_skip <| xn p0 <| wp_seq_k fun p0 b0 => wp_block ?_
  refine wsc fun p0 f0 => ix k (k * 1) h0 (ss_elem (t := k0) (k := k) (d0.row (i := 6) rfl).2 (by omega)).some_ fun p0 o0 => ?_
  refine lde 0 (k * 1) o0 (ss_elem (t := k0) (k := k) (d0.row (i := 6) rfl).2 (by omega)) fun p0 h0 => ?_
  have p0 := d0.el 7 k
  refine aw h0 f0 fun o0 n0 => ?_
  refine wsc fun f0 o0 => mv n0 fun f0 h0 => ?_
  have f0 := p0.nf
  refine kcl h0 ok119 (pfree_calls _ _ f0.il _ _ ((nthS k0 k).2.2) (f0.g 0) (f0.g 8) (hsm := (by rw [hLk]; exact (hall _ (nthL_mem (by omega))).1)) (hl := (by rw [hLk]; exact (hall _ (nthL_mem (by omega))).2))) ?_
  rintro h0 p0 ⟨rfl, n0⟩
  have p0 := f0.below n0.below
  refine ⟨_, rfl, fun n0 f0 => ?_⟩
  refine lR f0 fun n0 h0 => ?_
  refine wn o0 <| wp_seq_k fun o0 n0 => wsc fun o0 f0 => lR h0 fun o0 i0 => ?_
  refine lAn 2 (decide (0 < ((frF ((nthS k0 k).2.2))))) i0 fun o0 h0 => ?_
  refine wn f0 ?_
  rcases Bool.eq_false_or_eq_true (((decide (((chk ((nthS k0 k).2.2))) = 0)) && (decide (0 < ((frF ((nthS k0 k).2.2))))))) with f0 | f0
  ·
   have o0 := and_tl f0
   have i0 := of_decide_eq_true o0
   have i0 := and_tr f0
   have o0 := of_decide_eq_true i0
   refine wct h0 f0 fun o0 => ?_
   refine c_region ?_
   refine aw o0 n0 fun i0 q0 => ?_
   refine wsc fun i0 o0 => lR q0 fun i0 t0 => ?_
   have i0 : ¬ (30 : Int) = 0 := by decide
   refine wn o0 <| wctb t0 rfl (by rw [(decide_eq_false i0)]; rfl) fun o0 => ?_
   refine wsc fun i0 t0 => lR o0 fun i0 q0 => ?_
   refine wn t0 <| wp_ret <| x_block_r <| x_then_r <| x_then_r <| x_block_r <| x_then_r <| er1 q0 ?_
   refine ⟨?_, p0.fr⟩
   exact cre (ret_i (by exact ((cl_at hi (by omega) (by rw [← hLk, clT_free (by assumption) (by omega)]; decide)).trans (by rw [← hLk]; exact clT_free (by assumption) (by omega))).symm))
  have q0 := f0
  try simp only [bz] at q0
  refine wcf h0 f0 fun q0 => ?_
  refine wp_skip <| xn n0 <| wsc fun n0 f0 => lR q0 fun n0 h0 => ?_
  refine wn f0 ?_
  rcases Decidable.em (((chk ((nthS k0 k).2.2))) = 0) with f0 | f0
  ·
   refine wcfb h0 rfl (by rw [(decide_eq_true f0)]; rfl) fun k0 => ?_
   refine wp_skip <| x_block_n <| xn b0 <| c_region ?_
   refine adi ((k + 1 : Nat) : Int) k0 fun b0 n0 => ?_
   refine mv n0 fun b0 k0 => ?_
   refine wpList_nil ?_
   have b0 := p0.forget 8
   exact ⟨_, by omega, k + 1, (k0.sub (rc2 (rc rfl (rc rfl rnl)))), b0, by omega, cl_step hi (by rw [← hLk]; exact clT_ok (by assumption) (by omega)), rfl⟩
  refine wctb h0 rfl (by rw [(decide_eq_false f0)]; rfl) fun b0 => ?_
  refine wsc fun f0 h0 => lR b0 fun f0 k0 => ?_
  refine wn h0 <| wp_ret <| x_block_r <| x_then_r <| x_then_r <| x_block_r <| x_then_r <| er1 k0 ?_
  refine ⟨?_, p0.fr⟩
  exact cre (ret_i (by exact ((cl_at hi (by omega) (by rw [← hLk, clT_chk (by assumption)]; assumption)).trans (by rw [← hLk]; exact clT_chk (by assumption))).symm))
 refine wcf j0 (decide_eq_false m0) fun p0 => ?_
 refine wp_exit ?_
 refine x_then_e ?_
 refine x_then_e ?_
 refine x_block_eq ?_
 refine xn c0 <| wsc fun c0 m0 => aw p0 m0 fun c0 j0 => ?_
 refine wp_ret <| er1 j0 ?_
 refine ⟨?_, d0.fr⟩
 exact cre (ret_i (by exact (cl_all (fun i h => hi i (by omega))).symm))
theorem first_calls (w0 : World) (Z : Nat → Prop) (hZ : ∀ k, Z k → k < w0.heap.size) (fA : Option Addr) (fc : Nat) (fapg : Nat) (fapb : Bool) (faqg : Nat) (faqe : Int) (fbpg : Nat) (fbpb : Bool) (fbqg : Nat) (fbqe : Int) (fcpg : Nat) (fcpK : Int) (fcpL : Int) (fcpS : ByteArray) (fcpTA : Option Addr) (fcpTc : Nat) (fcpT : List Nd) (fcpBA : Option Addr) (fcpBc : Nat) (fcpB : List Nd) (fcpCA : Option Addr) (fcpCc : Nat) (fcpC : List Tl) (fdpg : Nat) (fdpb : Bool) (fdqg : Nat) (fdqe : Int) (fepg : Nat) (fepb : Bool) (feqg : Nat) (feqe : Int) (ffpg : Nat) (ffpb : Bool) (ffqg : Nat) (ffqe : Int) (fgpg : Nat) (fgpb : Bool) (fgqg : Nat) (fgqe : Int) (fhpg : Nat) (fhpb : Bool) (fhqg : Nat) (fhqe : Int) (hShp : Shapes w0 Z) (hfapQ : (dBox fapg [.bool fapb]).φ w0 Z) (hfaqQ : (dBox faqg [.int .i64 (faqe)]).φ w0 Z) (hfbpQ : (dBox fbpg [.bool fbpb]).φ w0 Z) (hfbqQ : (dBox fbqg [.int .i64 (fbqe)]).φ w0 Z) (hfcpT : (dRow 4 fcpTA fcpT.length fcpTc (encNs fcpT)).φ w0 Z) (hfcpB : (dRow 4 fcpBA fcpB.length fcpBc (encNs fcpB)).φ w0 Z) (hfcpC : (dRow 1 fcpCA fcpC.length fcpCc (encTs fcpC)).φ w0 Z) (hfcpCs : (dAllT fcpC).φ w0 Z) (hfcpQ : (dBox fcpg [.int .i64 (fcpK), .int .i64 (fcpL), .string fcpS, .slice fcpTA fcpT.length fcpTc, .slice fcpBA fcpB.length fcpBc, .slice fcpCA fcpC.length fcpCc]).φ w0 Z) (hfdpQ : (dBox fdpg [.bool fdpb]).φ w0 Z) (hfdqQ : (dBox fdqg [.int .i64 (fdqe)]).φ w0 Z) (hfepQ : (dBox fepg [.bool fepb]).φ w0 Z) (hfeqQ : (dBox feqg [.int .i64 (feqe)]).φ w0 Z) (hffpQ : (dBox ffpg [.bool ffpb]).φ w0 Z) (hffqQ : (dBox ffqg [.int .i64 (ffqe)]).φ w0 Z) (hfgpQ : (dBox fgpg [.bool fgpb]).φ w0 Z) (hfgqQ : (dBox fgqg [.int .i64 (fgqe)]).φ w0 Z) (hfhpQ : (dBox fhpg [.bool fhpb]).φ w0 Z) (hfhqQ : (dBox fhqg [.int .i64 (fhqe)]).φ w0 Z) (hf : (dRow 1 fA 8 fc (encVs ([.func (.func 114) #[] #[.pointer (some ⟨fapg, 0, none⟩), .pointer (some ⟨faqg, 0, none⟩)], .func (.func 114) #[] #[.pointer (some ⟨fbpg, 0, none⟩), .pointer (some ⟨fbqg, 0, none⟩)], .func (.func 117) #[] #[.pointer (some ⟨fcpg, 0, none⟩)], .func (.func 114) #[] #[.pointer (some ⟨fdpg, 0, none⟩), .pointer (some ⟨fdqg, 0, none⟩)], .func (.func 114) #[] #[.pointer (some ⟨fepg, 0, none⟩), .pointer (some ⟨feqg, 0, none⟩)], .func (.func 114) #[] #[.pointer (some ⟨ffpg, 0, none⟩), .pointer (some ⟨ffqg, 0, none⟩)], .func (.func 114) #[] #[.pointer (some ⟨fgpg, 0, none⟩), .pointer (some ⟨fgqg, 0, none⟩)], .func (.func 114) #[] #[.pointer (some ⟨fhpg, 0, none⟩), .pointer (some ⟨fhqg, 0, none⟩)]]))).φ w0 Z) (hl : fcpC.length ≤ 100 := by first | assumption | omega | (simp <;> omega)) (hb : ∀ s ∈ fcpC, s.2.2.length ≤ 100 := by first | assumption | omega | (simp <;> omega)) (hall : ∀ x ∈ tmD fcpK fcpT fcpB (lstsT fcpC), sml x ∧ x.length ≤ 1000000 := by first | assumption | omega | (simp <;> omega)) :
    Calls Tryz.prog 79 [.slice fA 8 fc].toArray w0 (fun e w' => e = .returned (.int .i64 (frE [mkI (!fapb) faqe, mkI (!fbpb) fbqe, clD fcpK fcpT fcpB (lstsT fcpC), mkI (!fdpb) fdqe, mkI (!fepb) feqe, mkI (!ffpb) ffqe, mkI (!fgpb) fgqe, mkI (!fhpb) fhqe])) ∧ Fr none_ w0 w') := by
 have b0 := s0 (M := none_) hZ (zc (d := dShapes) hShp (zc hfapQ (zc hfaqQ (zc hfbpQ (zc hfbqQ (zc hfcpT (zc hfcpB (zc hfcpC (zc hfcpCs (zc hfcpQ (zc hfdpQ (zc hfdqQ (zc hfepQ (zc hfeqQ (zc hffpQ (zc hffqQ (zc hfgpQ (zc hfgqQ (zc hfhpQ (zc hfhqQ (zc hf zn)))))))))))))))))))))
 refine c_enter Tryz.func79 rfl Tryz.ntmps79 rfl fun c0 d0 => ?_
 refine wsc fun c0 f0 => aw d0 f0 fun c0 h0 => ?_
 refine wp_seq_k fun f0 c0 => wsc fun f0 d0 => lR h0 fun f0 i0 => ?_
 refine wn d0 <| wp_block ?_
 refine wp_loop_rounds 9 (r_round ?_)
 refine wsc fun d0 f0 => ?_
 have d0 : (0 : Int) < 8 := by decide
 refine lR i0 fun h0 j0 => ?_
 refine wn f0 <| wp_seq_k fun f0 h0 => wct j0 (decide_eq_true d0) fun f0 => ?_
 refine wp_skip <| xn h0 <| wp_seq_k fun h0 j0 => wp_block ?_
 refine wsc fun h0 i0 => m_index (i := 0) (j := 0 * 1) sv f0 rfl rfl rfl rfl Tryz.underlying145 sz116 (by omega) (by simp) (vs_elem (t := [.func (.func 114) #[] #[.pointer (some ⟨fapg, 0, none⟩), .pointer (some ⟨faqg, 0, none⟩)], .func (.func 114) #[] #[.pointer (some ⟨fbpg, 0, none⟩), .pointer (some ⟨fbqg, 0, none⟩)], .func (.func 117) #[] #[.pointer (some ⟨fcpg, 0, none⟩)], .func (.func 114) #[] #[.pointer (some ⟨fdpg, 0, none⟩), .pointer (some ⟨fdqg, 0, none⟩)], .func (.func 114) #[] #[.pointer (some ⟨fepg, 0, none⟩), .pointer (some ⟨feqg, 0, none⟩)], .func (.func 114) #[] #[.pointer (some ⟨ffpg, 0, none⟩), .pointer (some ⟨ffqg, 0, none⟩)], .func (.func 114) #[] #[.pointer (some ⟨fgpg, 0, none⟩), .pointer (some ⟨fgqg, 0, none⟩)], .func (.func 114) #[] #[.pointer (some ⟨fhpg, 0, none⟩), .pointer (some ⟨fhqg, 0, none⟩)]]) (k := 0) (b0.row (i := 20) rfl).2 (by simp)).some_ rfl (by decide) fun h0 k0 => ?_
 refine lde 0 (0 * 1) k0 (vs_elem (t := [.func (.func 114) #[] #[.pointer (some ⟨fapg, 0, none⟩), .pointer (some ⟨faqg, 0, none⟩)], .func (.func 114) #[] #[.pointer (some ⟨fbpg, 0, none⟩), .pointer (some ⟨fbqg, 0, none⟩)], .func (.func 117) #[] #[.pointer (some ⟨fcpg, 0, none⟩)], .func (.func 114) #[] #[.pointer (some ⟨fdpg, 0, none⟩), .pointer (some ⟨fdqg, 0, none⟩)], .func (.func 114) #[] #[.pointer (some ⟨fepg, 0, none⟩), .pointer (some ⟨feqg, 0, none⟩)], .func (.func 114) #[] #[.pointer (some ⟨ffpg, 0, none⟩), .pointer (some ⟨ffqg, 0, none⟩)], .func (.func 114) #[] #[.pointer (some ⟨fgpg, 0, none⟩), .pointer (some ⟨fgqg, 0, none⟩)], .func (.func 114) #[] #[.pointer (some ⟨fhpg, 0, none⟩), .pointer (some ⟨fhqg, 0, none⟩)]]) (k := 0) (b0.row (i := 20) rfl).2 (by simp)) fun h0 f0 => ?_
 refine aw f0 i0 fun h0 k0 => ?_
 refine wsc fun i0 h0 => mv k0 fun i0 f0 => ?_
 have i0 := b0.nf
 refine k_callV (xs := []) se f0 rfl rfl rfl rfl (by decide) ok114 (unless1_calls _ _ i0.il fapg fapb faqg (faqe) (i0.g 1) (i0.g 2)) ?_
 rintro f0 b0 ⟨rfl, k0⟩
 have b0 := i0.below k0.below
 refine ⟨_, rfl, fun k0 i0 => ?_⟩
 refine aw i0 h0 fun k0 f0 => ?_
 refine wsc fun h0 k0 => lR f0 fun h0 i0 => ?_
 refine wn k0 ?_
 rcases Decidable.em (((mkI (!fapb) (faqe))) = 0) with k0 | k0
 ·
  refine wcfb i0 rfl (by rw [(decide_eq_true k0)]; rfl) fun h0 => ?_
  refine wp_skip <| x_block_n <| xn j0 <| c_region ?_
  refine adi 1 h0 fun j0 f0 => ?_
  refine mv f0 fun j0 h0 => ?_
  refine wpList_nil ?_
  refine x_then_n (r_round ?_)
  refine wsc fun j0 f0 => ?_
  have j0 : (1 : Int) < 8 := by decide
  refine lR h0 fun m0 n0 => ?_
  refine wn f0 <| wp_seq_k fun f0 m0 => wct n0 (decide_eq_true j0) fun f0 => ?_
  refine wp_skip <| xn m0 <| wp_seq_k fun m0 n0 => wp_block ?_
  refine wsc fun m0 h0 => m_index (i := 1) (j := 1 * 1) sv f0 rfl rfl rfl rfl Tryz.underlying145 sz116 (by omega) (by simp) (vs_elem (t := [.func (.func 114) #[] #[.pointer (some ⟨fapg, 0, none⟩), .pointer (some ⟨faqg, 0, none⟩)], .func (.func 114) #[] #[.pointer (some ⟨fbpg, 0, none⟩), .pointer (some ⟨fbqg, 0, none⟩)], .func (.func 117) #[] #[.pointer (some ⟨fcpg, 0, none⟩)], .func (.func 114) #[] #[.pointer (some ⟨fdpg, 0, none⟩), .pointer (some ⟨fdqg, 0, none⟩)], .func (.func 114) #[] #[.pointer (some ⟨fepg, 0, none⟩), .pointer (some ⟨feqg, 0, none⟩)], .func (.func 114) #[] #[.pointer (some ⟨ffpg, 0, none⟩), .pointer (some ⟨ffqg, 0, none⟩)], .func (.func 114) #[] #[.pointer (some ⟨fgpg, 0, none⟩), .pointer (some ⟨fgqg, 0, none⟩)], .func (.func 114) #[] #[.pointer (some ⟨fhpg, 0, none⟩), .pointer (some ⟨fhqg, 0, none⟩)]]) (k := 1) (b0.row (i := 20) rfl).2 (by simp)).some_ rfl (by decide) fun m0 o0 => ?_
  refine lde 0 (1 * 1) o0 (vs_elem (t := [.func (.func 114) #[] #[.pointer (some ⟨fapg, 0, none⟩), .pointer (some ⟨faqg, 0, none⟩)], .func (.func 114) #[] #[.pointer (some ⟨fbpg, 0, none⟩), .pointer (some ⟨fbqg, 0, none⟩)], .func (.func 117) #[] #[.pointer (some ⟨fcpg, 0, none⟩)], .func (.func 114) #[] #[.pointer (some ⟨fdpg, 0, none⟩), .pointer (some ⟨fdqg, 0, none⟩)], .func (.func 114) #[] #[.pointer (some ⟨fepg, 0, none⟩), .pointer (some ⟨feqg, 0, none⟩)], .func (.func 114) #[] #[.pointer (some ⟨ffpg, 0, none⟩), .pointer (some ⟨ffqg, 0, none⟩)], .func (.func 114) #[] #[.pointer (some ⟨fgpg, 0, none⟩), .pointer (some ⟨fgqg, 0, none⟩)], .func (.func 114) #[] #[.pointer (some ⟨fhpg, 0, none⟩), .pointer (some ⟨fhqg, 0, none⟩)]]) (k := 1) (b0.row (i := 20) rfl).2 (by simp)) fun m0 f0 => ?_
  refine aw f0 h0 fun m0 o0 => ?_
  refine wsc fun h0 m0 => mv o0 fun h0 f0 => ?_
  have h0 := b0.nf
  refine k_callV (xs := []) se f0 rfl rfl rfl rfl (by decide) ok114 (unless1_calls _ _ h0.il fbpg fbpb fbqg (fbqe) (h0.g 3) (h0.g 4)) ?_
  rintro f0 o0 ⟨rfl, p0⟩
  have o0 := h0.below p0.below
  refine ⟨_, rfl, fun p0 h0 => ?_⟩
  refine aw h0 m0 fun p0 f0 => ?_
  refine wsc fun m0 p0 => lR f0 fun m0 h0 => ?_
  refine wn p0 ?_
  rcases Decidable.em (((mkI (!fbpb) (fbqe))) = 0) with p0 | p0
  ·
   refine wcfb h0 rfl (by rw [(decide_eq_true p0)]; rfl) fun m0 => ?_
   refine wp_skip <| x_block_n <| xn n0 <| c_region ?_
   refine adi 2 m0 fun n0 f0 => ?_
   refine mv f0 fun n0 m0 => ?_
   refine wpList_nil ?_
   refine x_then_n (r_round ?_)
   refine wsc fun n0 f0 => ?_
   have n0 : (2 : Int) < 8 := by decide
   refine lR m0 fun q0 t0 => ?_
   refine wn f0 <| wp_seq_k fun f0 q0 => wct t0 (decide_eq_true n0) fun f0 => ?_
   refine wp_skip <| xn q0 <| wp_seq_k fun q0 t0 => wp_block ?_
   refine wsc fun q0 m0 => m_index (i := 2) (j := 2 * 1) sv f0 rfl rfl rfl rfl Tryz.underlying145 sz116 (by omega) (by simp) (vs_elem (t := [.func (.func 114) #[] #[.pointer (some ⟨fapg, 0, none⟩), .pointer (some ⟨faqg, 0, none⟩)], .func (.func 114) #[] #[.pointer (some ⟨fbpg, 0, none⟩), .pointer (some ⟨fbqg, 0, none⟩)], .func (.func 117) #[] #[.pointer (some ⟨fcpg, 0, none⟩)], .func (.func 114) #[] #[.pointer (some ⟨fdpg, 0, none⟩), .pointer (some ⟨fdqg, 0, none⟩)], .func (.func 114) #[] #[.pointer (some ⟨fepg, 0, none⟩), .pointer (some ⟨feqg, 0, none⟩)], .func (.func 114) #[] #[.pointer (some ⟨ffpg, 0, none⟩), .pointer (some ⟨ffqg, 0, none⟩)], .func (.func 114) #[] #[.pointer (some ⟨fgpg, 0, none⟩), .pointer (some ⟨fgqg, 0, none⟩)], .func (.func 114) #[] #[.pointer (some ⟨fhpg, 0, none⟩), .pointer (some ⟨fhqg, 0, none⟩)]]) (k := 2) (o0.row (i := 20) rfl).2 (by simp)).some_ rfl (by decide) fun q0 u0 => ?_
   refine lde 0 (2 * 1) u0 (vs_elem (t := [.func (.func 114) #[] #[.pointer (some ⟨fapg, 0, none⟩), .pointer (some ⟨faqg, 0, none⟩)], .func (.func 114) #[] #[.pointer (some ⟨fbpg, 0, none⟩), .pointer (some ⟨fbqg, 0, none⟩)], .func (.func 117) #[] #[.pointer (some ⟨fcpg, 0, none⟩)], .func (.func 114) #[] #[.pointer (some ⟨fdpg, 0, none⟩), .pointer (some ⟨fdqg, 0, none⟩)], .func (.func 114) #[] #[.pointer (some ⟨fepg, 0, none⟩), .pointer (some ⟨feqg, 0, none⟩)], .func (.func 114) #[] #[.pointer (some ⟨ffpg, 0, none⟩), .pointer (some ⟨ffqg, 0, none⟩)], .func (.func 114) #[] #[.pointer (some ⟨fgpg, 0, none⟩), .pointer (some ⟨fgqg, 0, none⟩)], .func (.func 114) #[] #[.pointer (some ⟨fhpg, 0, none⟩), .pointer (some ⟨fhqg, 0, none⟩)]]) (k := 2) (o0.row (i := 20) rfl).2 (by simp)) fun q0 f0 => ?_
   refine aw f0 m0 fun q0 u0 => ?_
   refine wsc fun m0 q0 => mv u0 fun m0 f0 => ?_
   have m0 := o0.nf
   refine k_callV (xs := []) se f0 rfl rfl rfl rfl (by decide) ok117 (closed1_calls _ _ m0.il fcpg (fcpK) (fcpL) fcpS _ _ _ _ _ _ _ _ _ (m0.g 0) (m0.g 5) (m0.g 6) (m0.g 7) (m0.g 8) (m0.g 9)) ?_
   rintro f0 u0 ⟨rfl, v0⟩
   have u0 := m0.below v0.below
   refine ⟨_, rfl, fun v0 m0 => ?_⟩
   refine aw m0 q0 fun v0 f0 => ?_
   refine wsc fun q0 v0 => lR f0 fun q0 m0 => ?_
   refine wn v0 ?_
   rcases Decidable.em (((clD (fcpK) fcpT fcpB (lstsT fcpC))) = 0) with v0 | v0
   ·
    refine wcfb m0 rfl (by rw [(decide_eq_true v0)]; rfl) fun q0 => ?_
    refine wp_skip <| x_block_n <| xn t0 <| c_region ?_
    refine adi 3 q0 fun t0 f0 => ?_
    refine mv f0 fun t0 q0 => ?_
    refine wpList_nil ?_
    refine x_then_n (r_round ?_)
    refine wsc fun t0 f0 => ?_
    have t0 : (3 : Int) < 8 := by decide
    refine lR q0 fun x0 y0 => ?_
    refine wn f0 <| wp_seq_k fun f0 x0 => wct y0 (decide_eq_true t0) fun f0 => ?_
    refine wp_skip <| xn x0 <| wp_seq_k fun x0 y0 => wp_block ?_
    refine wsc fun x0 q0 => m_index (i := 3) (j := 3 * 1) sv f0 rfl rfl rfl rfl Tryz.underlying145 sz116 (by omega) (by simp) (vs_elem (t := [.func (.func 114) #[] #[.pointer (some ⟨fapg, 0, none⟩), .pointer (some ⟨faqg, 0, none⟩)], .func (.func 114) #[] #[.pointer (some ⟨fbpg, 0, none⟩), .pointer (some ⟨fbqg, 0, none⟩)], .func (.func 117) #[] #[.pointer (some ⟨fcpg, 0, none⟩)], .func (.func 114) #[] #[.pointer (some ⟨fdpg, 0, none⟩), .pointer (some ⟨fdqg, 0, none⟩)], .func (.func 114) #[] #[.pointer (some ⟨fepg, 0, none⟩), .pointer (some ⟨feqg, 0, none⟩)], .func (.func 114) #[] #[.pointer (some ⟨ffpg, 0, none⟩), .pointer (some ⟨ffqg, 0, none⟩)], .func (.func 114) #[] #[.pointer (some ⟨fgpg, 0, none⟩), .pointer (some ⟨fgqg, 0, none⟩)], .func (.func 114) #[] #[.pointer (some ⟨fhpg, 0, none⟩), .pointer (some ⟨fhqg, 0, none⟩)]]) (k := 3) (u0.row (i := 20) rfl).2 (by simp)).some_ rfl (by decide) fun x0 z0 => ?_
    refine lde 0 (3 * 1) z0 (vs_elem (t := [.func (.func 114) #[] #[.pointer (some ⟨fapg, 0, none⟩), .pointer (some ⟨faqg, 0, none⟩)], .func (.func 114) #[] #[.pointer (some ⟨fbpg, 0, none⟩), .pointer (some ⟨fbqg, 0, none⟩)], .func (.func 117) #[] #[.pointer (some ⟨fcpg, 0, none⟩)], .func (.func 114) #[] #[.pointer (some ⟨fdpg, 0, none⟩), .pointer (some ⟨fdqg, 0, none⟩)], .func (.func 114) #[] #[.pointer (some ⟨fepg, 0, none⟩), .pointer (some ⟨feqg, 0, none⟩)], .func (.func 114) #[] #[.pointer (some ⟨ffpg, 0, none⟩), .pointer (some ⟨ffqg, 0, none⟩)], .func (.func 114) #[] #[.pointer (some ⟨fgpg, 0, none⟩), .pointer (some ⟨fgqg, 0, none⟩)], .func (.func 114) #[] #[.pointer (some ⟨fhpg, 0, none⟩), .pointer (some ⟨fhqg, 0, none⟩)]]) (k := 3) (u0.row (i := 20) rfl).2 (by simp)) fun x0 f0 => ?_
    refine aw f0 q0 fun x0 z0 => ?_
    refine wsc fun q0 x0 => mv z0 fun q0 f0 => ?_
    have q0 := u0.nf
    refine k_callV (xs := []) se f0 rfl rfl rfl rfl (by decide) ok114 (unless1_calls _ _ q0.il fdpg fdpb fdqg (fdqe) (q0.g 10) (q0.g 11)) ?_
    rintro f0 z0 ⟨rfl, b1⟩
    have z0 := q0.below b1.below
    refine ⟨_, rfl, fun b1 q0 => ?_⟩
    refine aw q0 x0 fun b1 f0 => ?_
    refine wsc fun x0 b1 => lR f0 fun x0 q0 => ?_
    refine wn b1 ?_
    rcases Decidable.em (((mkI (!fdpb) (fdqe))) = 0) with b1 | b1
    ·
     refine wcfb q0 rfl (by rw [(decide_eq_true b1)]; rfl) fun x0 => ?_
     refine wp_skip <| x_block_n <| xn y0 <| c_region ?_
     refine adi 4 x0 fun y0 f0 => ?_
     refine mv f0 fun y0 x0 => ?_
     refine wpList_nil ?_
     refine x_then_n (r_round ?_)
     refine wsc fun y0 f0 => ?_
     have y0 : (4 : Int) < 8 := by decide
     refine lR x0 fun c1 d1 => ?_
     refine wn f0 <| wp_seq_k fun f0 c1 => wct d1 (decide_eq_true y0) fun f0 => ?_
     refine wp_skip <| xn c1 <| wp_seq_k fun c1 d1 => wp_block ?_
     refine wsc fun c1 x0 => m_index (i := 4) (j := 4 * 1) sv f0 rfl rfl rfl rfl Tryz.underlying145 sz116 (by omega) (by simp) (vs_elem (t := [.func (.func 114) #[] #[.pointer (some ⟨fapg, 0, none⟩), .pointer (some ⟨faqg, 0, none⟩)], .func (.func 114) #[] #[.pointer (some ⟨fbpg, 0, none⟩), .pointer (some ⟨fbqg, 0, none⟩)], .func (.func 117) #[] #[.pointer (some ⟨fcpg, 0, none⟩)], .func (.func 114) #[] #[.pointer (some ⟨fdpg, 0, none⟩), .pointer (some ⟨fdqg, 0, none⟩)], .func (.func 114) #[] #[.pointer (some ⟨fepg, 0, none⟩), .pointer (some ⟨feqg, 0, none⟩)], .func (.func 114) #[] #[.pointer (some ⟨ffpg, 0, none⟩), .pointer (some ⟨ffqg, 0, none⟩)], .func (.func 114) #[] #[.pointer (some ⟨fgpg, 0, none⟩), .pointer (some ⟨fgqg, 0, none⟩)], .func (.func 114) #[] #[.pointer (some ⟨fhpg, 0, none⟩), .pointer (some ⟨fhqg, 0, none⟩)]]) (k := 4) (z0.row (i := 20) rfl).2 (by simp)).some_ rfl (by decide) fun c1 f1 => ?_
     refine lde 0 (4 * 1) f1 (vs_elem (t := [.func (.func 114) #[] #[.pointer (some ⟨fapg, 0, none⟩), .pointer (some ⟨faqg, 0, none⟩)], .func (.func 114) #[] #[.pointer (some ⟨fbpg, 0, none⟩), .pointer (some ⟨fbqg, 0, none⟩)], .func (.func 117) #[] #[.pointer (some ⟨fcpg, 0, none⟩)], .func (.func 114) #[] #[.pointer (some ⟨fdpg, 0, none⟩), .pointer (some ⟨fdqg, 0, none⟩)], .func (.func 114) #[] #[.pointer (some ⟨fepg, 0, none⟩), .pointer (some ⟨feqg, 0, none⟩)], .func (.func 114) #[] #[.pointer (some ⟨ffpg, 0, none⟩), .pointer (some ⟨ffqg, 0, none⟩)], .func (.func 114) #[] #[.pointer (some ⟨fgpg, 0, none⟩), .pointer (some ⟨fgqg, 0, none⟩)], .func (.func 114) #[] #[.pointer (some ⟨fhpg, 0, none⟩), .pointer (some ⟨fhqg, 0, none⟩)]]) (k := 4) (z0.row (i := 20) rfl).2 (by simp)) fun c1 f0 => ?_
     refine aw f0 x0 fun c1 f1 => ?_
     refine wsc fun x0 c1 => mv f1 fun x0 f0 => ?_
     have x0 := z0.nf
     refine k_callV (xs := []) se f0 rfl rfl rfl rfl (by decide) ok114 (unless1_calls _ _ x0.il fepg fepb feqg (feqe) (x0.g 12) (x0.g 13)) ?_
     rintro f0 f1 ⟨rfl, h1⟩
     have f1 := x0.below h1.below
     refine ⟨_, rfl, fun h1 x0 => ?_⟩
     refine aw x0 c1 fun h1 f0 => ?_
     refine wsc fun c1 h1 => lR f0 fun c1 x0 => ?_
     refine wn h1 ?_
     rcases Decidable.em (((mkI (!fepb) (feqe))) = 0) with h1 | h1
     ·
      refine wcfb x0 rfl (by rw [(decide_eq_true h1)]; rfl) fun c1 => ?_
      refine wp_skip <| x_block_n <| xn d1 <| c_region ?_
      refine adi 5 c1 fun d1 f0 => ?_
      refine mv f0 fun d1 c1 => ?_
      refine wpList_nil ?_
      refine x_then_n (r_round ?_)
      refine wsc fun d1 f0 => ?_
      have d1 : (5 : Int) < 8 := by decide
      refine lR c1 fun i1 j1 => ?_
      refine wn f0 <| wp_seq_k fun f0 i1 => wct j1 (decide_eq_true d1) fun f0 => ?_
      refine wp_skip <| xn i1 <| wp_seq_k fun i1 j1 => wp_block ?_
      refine wsc fun i1 c1 => m_index (i := 5) (j := 5 * 1) sv f0 rfl rfl rfl rfl Tryz.underlying145 sz116 (by omega) (by simp) (vs_elem (t := [.func (.func 114) #[] #[.pointer (some ⟨fapg, 0, none⟩), .pointer (some ⟨faqg, 0, none⟩)], .func (.func 114) #[] #[.pointer (some ⟨fbpg, 0, none⟩), .pointer (some ⟨fbqg, 0, none⟩)], .func (.func 117) #[] #[.pointer (some ⟨fcpg, 0, none⟩)], .func (.func 114) #[] #[.pointer (some ⟨fdpg, 0, none⟩), .pointer (some ⟨fdqg, 0, none⟩)], .func (.func 114) #[] #[.pointer (some ⟨fepg, 0, none⟩), .pointer (some ⟨feqg, 0, none⟩)], .func (.func 114) #[] #[.pointer (some ⟨ffpg, 0, none⟩), .pointer (some ⟨ffqg, 0, none⟩)], .func (.func 114) #[] #[.pointer (some ⟨fgpg, 0, none⟩), .pointer (some ⟨fgqg, 0, none⟩)], .func (.func 114) #[] #[.pointer (some ⟨fhpg, 0, none⟩), .pointer (some ⟨fhqg, 0, none⟩)]]) (k := 5) (f1.row (i := 20) rfl).2 (by simp)).some_ rfl (by decide) fun i1 k1 => ?_
      refine lde 0 (5 * 1) k1 (vs_elem (t := [.func (.func 114) #[] #[.pointer (some ⟨fapg, 0, none⟩), .pointer (some ⟨faqg, 0, none⟩)], .func (.func 114) #[] #[.pointer (some ⟨fbpg, 0, none⟩), .pointer (some ⟨fbqg, 0, none⟩)], .func (.func 117) #[] #[.pointer (some ⟨fcpg, 0, none⟩)], .func (.func 114) #[] #[.pointer (some ⟨fdpg, 0, none⟩), .pointer (some ⟨fdqg, 0, none⟩)], .func (.func 114) #[] #[.pointer (some ⟨fepg, 0, none⟩), .pointer (some ⟨feqg, 0, none⟩)], .func (.func 114) #[] #[.pointer (some ⟨ffpg, 0, none⟩), .pointer (some ⟨ffqg, 0, none⟩)], .func (.func 114) #[] #[.pointer (some ⟨fgpg, 0, none⟩), .pointer (some ⟨fgqg, 0, none⟩)], .func (.func 114) #[] #[.pointer (some ⟨fhpg, 0, none⟩), .pointer (some ⟨fhqg, 0, none⟩)]]) (k := 5) (f1.row (i := 20) rfl).2 (by simp)) fun i1 f0 => ?_
      refine aw f0 c1 fun i1 k1 => ?_
      refine wsc fun c1 i1 => mv k1 fun c1 f0 => ?_
      have c1 := f1.nf
      refine k_callV (xs := []) se f0 rfl rfl rfl rfl (by decide) ok114 (unless1_calls _ _ c1.il ffpg ffpb ffqg (ffqe) (c1.g 14) (c1.g 15)) ?_
      rintro f0 k1 ⟨rfl, m1⟩
      have k1 := c1.below m1.below
      refine ⟨_, rfl, fun m1 c1 => ?_⟩
      refine aw c1 i1 fun m1 f0 => ?_
      refine wsc fun i1 m1 => lR f0 fun i1 c1 => ?_
      refine wn m1 ?_
      rcases Decidable.em (((mkI (!ffpb) (ffqe))) = 0) with m1 | m1
      ·
       refine wcfb c1 rfl (by rw [(decide_eq_true m1)]; rfl) fun i1 => ?_
       refine wp_skip <| x_block_n <| xn j1 <| c_region ?_
       refine adi 6 i1 fun j1 f0 => ?_
       refine mv f0 fun j1 i1 => ?_
       refine wpList_nil ?_
       refine x_then_n (r_round ?_)
       refine wsc fun j1 f0 => ?_
       have j1 : (6 : Int) < 8 := by decide
       refine lR i1 fun n1 o1 => ?_
       refine wn f0 <| wp_seq_k fun f0 n1 => wct o1 (decide_eq_true j1) fun f0 => ?_
       refine wp_skip <| xn n1 <| wp_seq_k fun n1 o1 => wp_block ?_
       refine wsc fun n1 i1 => m_index (i := 6) (j := 6 * 1) sv f0 rfl rfl rfl rfl Tryz.underlying145 sz116 (by omega) (by simp) (vs_elem (t := [.func (.func 114) #[] #[.pointer (some ⟨fapg, 0, none⟩), .pointer (some ⟨faqg, 0, none⟩)], .func (.func 114) #[] #[.pointer (some ⟨fbpg, 0, none⟩), .pointer (some ⟨fbqg, 0, none⟩)], .func (.func 117) #[] #[.pointer (some ⟨fcpg, 0, none⟩)], .func (.func 114) #[] #[.pointer (some ⟨fdpg, 0, none⟩), .pointer (some ⟨fdqg, 0, none⟩)], .func (.func 114) #[] #[.pointer (some ⟨fepg, 0, none⟩), .pointer (some ⟨feqg, 0, none⟩)], .func (.func 114) #[] #[.pointer (some ⟨ffpg, 0, none⟩), .pointer (some ⟨ffqg, 0, none⟩)], .func (.func 114) #[] #[.pointer (some ⟨fgpg, 0, none⟩), .pointer (some ⟨fgqg, 0, none⟩)], .func (.func 114) #[] #[.pointer (some ⟨fhpg, 0, none⟩), .pointer (some ⟨fhqg, 0, none⟩)]]) (k := 6) (k1.row (i := 20) rfl).2 (by simp)).some_ rfl (by decide) fun n1 p1 => ?_
       refine lde 0 (6 * 1) p1 (vs_elem (t := [.func (.func 114) #[] #[.pointer (some ⟨fapg, 0, none⟩), .pointer (some ⟨faqg, 0, none⟩)], .func (.func 114) #[] #[.pointer (some ⟨fbpg, 0, none⟩), .pointer (some ⟨fbqg, 0, none⟩)], .func (.func 117) #[] #[.pointer (some ⟨fcpg, 0, none⟩)], .func (.func 114) #[] #[.pointer (some ⟨fdpg, 0, none⟩), .pointer (some ⟨fdqg, 0, none⟩)], .func (.func 114) #[] #[.pointer (some ⟨fepg, 0, none⟩), .pointer (some ⟨feqg, 0, none⟩)], .func (.func 114) #[] #[.pointer (some ⟨ffpg, 0, none⟩), .pointer (some ⟨ffqg, 0, none⟩)], .func (.func 114) #[] #[.pointer (some ⟨fgpg, 0, none⟩), .pointer (some ⟨fgqg, 0, none⟩)], .func (.func 114) #[] #[.pointer (some ⟨fhpg, 0, none⟩), .pointer (some ⟨fhqg, 0, none⟩)]]) (k := 6) (k1.row (i := 20) rfl).2 (by simp)) fun n1 f0 => ?_
       refine aw f0 i1 fun n1 p1 => ?_
       refine wsc fun i1 n1 => mv p1 fun i1 f0 => ?_
       have i1 := k1.nf
       refine k_callV (xs := []) se f0 rfl rfl rfl rfl (by decide) ok114 (unless1_calls _ _ i1.il fgpg fgpb fgqg (fgqe) (i1.g 16) (i1.g 17)) ?_
       rintro f0 p1 ⟨rfl, q1⟩
       have p1 := i1.below q1.below
       refine ⟨_, rfl, fun q1 i1 => ?_⟩
       refine aw i1 n1 fun q1 f0 => ?_
       refine wsc fun n1 q1 => lR f0 fun n1 i1 => ?_
       refine wn q1 ?_
       rcases Decidable.em (((mkI (!fgpb) (fgqe))) = 0) with q1 | q1
       ·
        refine wcfb i1 rfl (by rw [(decide_eq_true q1)]; rfl) fun n1 => ?_
        refine wp_skip <| x_block_n <| xn o1 <| c_region ?_
        refine adi 7 n1 fun o1 f0 => ?_
        refine mv f0 fun o1 n1 => ?_
        refine wpList_nil ?_
        refine x_then_n (r_round ?_)
        refine wsc fun o1 f0 => ?_
        have o1 : (7 : Int) < 8 := by decide
        refine lR n1 fun s1 t1 => ?_
        refine wn f0 <| wp_seq_k fun f0 s1 => wct t1 (decide_eq_true o1) fun f0 => ?_
        refine wp_skip <| xn s1 <| wp_seq_k fun s1 t1 => wp_block ?_
        refine wsc fun s1 n1 => m_index (i := 7) (j := 7 * 1) sv f0 rfl rfl rfl rfl Tryz.underlying145 sz116 (by omega) (by simp) (vs_elem (t := [.func (.func 114) #[] #[.pointer (some ⟨fapg, 0, none⟩), .pointer (some ⟨faqg, 0, none⟩)], .func (.func 114) #[] #[.pointer (some ⟨fbpg, 0, none⟩), .pointer (some ⟨fbqg, 0, none⟩)], .func (.func 117) #[] #[.pointer (some ⟨fcpg, 0, none⟩)], .func (.func 114) #[] #[.pointer (some ⟨fdpg, 0, none⟩), .pointer (some ⟨fdqg, 0, none⟩)], .func (.func 114) #[] #[.pointer (some ⟨fepg, 0, none⟩), .pointer (some ⟨feqg, 0, none⟩)], .func (.func 114) #[] #[.pointer (some ⟨ffpg, 0, none⟩), .pointer (some ⟨ffqg, 0, none⟩)], .func (.func 114) #[] #[.pointer (some ⟨fgpg, 0, none⟩), .pointer (some ⟨fgqg, 0, none⟩)], .func (.func 114) #[] #[.pointer (some ⟨fhpg, 0, none⟩), .pointer (some ⟨fhqg, 0, none⟩)]]) (k := 7) (p1.row (i := 20) rfl).2 (by simp)).some_ rfl (by decide) fun s1 u1 => ?_
        refine lde 0 (7 * 1) u1 (vs_elem (t := [.func (.func 114) #[] #[.pointer (some ⟨fapg, 0, none⟩), .pointer (some ⟨faqg, 0, none⟩)], .func (.func 114) #[] #[.pointer (some ⟨fbpg, 0, none⟩), .pointer (some ⟨fbqg, 0, none⟩)], .func (.func 117) #[] #[.pointer (some ⟨fcpg, 0, none⟩)], .func (.func 114) #[] #[.pointer (some ⟨fdpg, 0, none⟩), .pointer (some ⟨fdqg, 0, none⟩)], .func (.func 114) #[] #[.pointer (some ⟨fepg, 0, none⟩), .pointer (some ⟨feqg, 0, none⟩)], .func (.func 114) #[] #[.pointer (some ⟨ffpg, 0, none⟩), .pointer (some ⟨ffqg, 0, none⟩)], .func (.func 114) #[] #[.pointer (some ⟨fgpg, 0, none⟩), .pointer (some ⟨fgqg, 0, none⟩)], .func (.func 114) #[] #[.pointer (some ⟨fhpg, 0, none⟩), .pointer (some ⟨fhqg, 0, none⟩)]]) (k := 7) (p1.row (i := 20) rfl).2 (by simp)) fun s1 f0 => ?_
        refine aw f0 n1 fun s1 u1 => ?_
        refine wsc fun n1 s1 => mv u1 fun n1 f0 => ?_
        have n1 := p1.nf
        refine k_callV (xs := []) se f0 rfl rfl rfl rfl (by decide) ok114 (unless1_calls _ _ n1.il fhpg fhpb fhqg (fhqe) (n1.g 18) (n1.g 19)) ?_
        rintro f0 u1 ⟨rfl, v1⟩
        have u1 := n1.below v1.below
        refine ⟨_, rfl, fun v1 n1 => ?_⟩
        refine aw n1 s1 fun v1 f0 => ?_
        refine wsc fun s1 v1 => lR f0 fun s1 n1 => ?_
        refine wn v1 ?_
        rcases Decidable.em (((mkI (!fhpb) (fhqe))) = 0) with v1 | v1
        ·
         refine wcfb n1 rfl (by rw [(decide_eq_true v1)]; rfl) fun s1 => ?_
         refine wp_skip <| x_block_n <| xn t1 <| c_region ?_
         refine adi 8 s1 fun t1 f0 => ?_
         refine mv f0 fun t1 s1 => ?_
         refine wpList_nil ?_
         refine x_then_n (r_round ?_)
         refine wsc fun t1 f0 => ?_
         have t1 : ¬ (8 : Int) < 8 := by decide
         refine lR s1 fun x1 y1 => ?_
         refine wn f0 <| wp_seq_k fun f0 x1 => wcf y1 (decide_eq_false t1) fun x1 => ?_
         refine wp_exit ?_
         refine x_then_e ?_
         refine x_then_e ?_
         refine x_block_eq ?_
         refine xn c0 <| wsc fun c0 y1 => aw x1 y1 fun c0 f0 => ?_
         refine wp_ret <| er1 f0 ?_
         refine ⟨?_, u1.fr⟩
         exact cre (ret_i (by simp [frE, d0, k0, j0, p0, n0, v0, t0, b1, y0, h1, d1, m1, j1, q1, o1, v1, t1]))
        refine wctb n1 rfl (by rw [(decide_eq_false v1)]; rfl) fun t1 => ?_
        refine wsc fun n1 f0 => lR t1 fun n1 y1 => ?_
        refine wn f0 <| wp_ret <| x_block_r <| x_then_r <| x_then_r <| x_block_r <| x_then_r <| er1 y1 ?_
        refine ⟨?_, u1.fr⟩
        exact cre (ret_i (by simp [frE, d0, k0, j0, p0, n0, v0, t0, b1, y0, h1, d1, m1, j1, q1, o1, v1]))
       refine wctb i1 rfl (by rw [(decide_eq_false q1)]; rfl) fun v1 => ?_
       refine wsc fun i1 o1 => lR v1 fun i1 u1 => ?_
       refine wn o1 <| wp_ret <| x_block_r <| x_then_r <| x_then_r <| x_block_r <| x_then_r <| er1 u1 ?_
       refine ⟨?_, p1.fr⟩
       exact cre (ret_i (by simp [frE, d0, k0, j0, p0, n0, v0, t0, b1, y0, h1, d1, m1, j1, q1]))
      refine wctb c1 rfl (by rw [(decide_eq_false m1)]; rfl) fun q1 => ?_
      refine wsc fun c1 j1 => lR q1 fun c1 p1 => ?_
      refine wn j1 <| wp_ret <| x_block_r <| x_then_r <| x_then_r <| x_block_r <| x_then_r <| er1 p1 ?_
      refine ⟨?_, k1.fr⟩
      exact cre (ret_i (by simp [frE, d0, k0, j0, p0, n0, v0, t0, b1, y0, h1, d1, m1]))
     refine wctb x0 rfl (by rw [(decide_eq_false h1)]; rfl) fun m1 => ?_
     refine wsc fun x0 d1 => lR m1 fun x0 k1 => ?_
     refine wn d1 <| wp_ret <| x_block_r <| x_then_r <| x_then_r <| x_block_r <| x_then_r <| er1 k1 ?_
     refine ⟨?_, f1.fr⟩
     exact cre (ret_i (by simp [frE, d0, k0, j0, p0, n0, v0, t0, b1, y0, h1]))
    refine wctb q0 rfl (by rw [(decide_eq_false b1)]; rfl) fun h1 => ?_
    refine wsc fun q0 y0 => lR h1 fun q0 f1 => ?_
    refine wn y0 <| wp_ret <| x_block_r <| x_then_r <| x_then_r <| x_block_r <| x_then_r <| er1 f1 ?_
    refine ⟨?_, z0.fr⟩
    exact cre (ret_i (by simp [frE, d0, k0, j0, p0, n0, v0, t0, b1]))
   refine wctb m0 rfl (by rw [(decide_eq_false v0)]; rfl) fun b1 => ?_
   refine wsc fun m0 t0 => lR b1 fun m0 z0 => ?_
   refine wn t0 <| wp_ret <| x_block_r <| x_then_r <| x_then_r <| x_block_r <| x_then_r <| er1 z0 ?_
   refine ⟨?_, u0.fr⟩
   exact cre (ret_i (by simp [frE, d0, k0, j0, p0, n0, v0]))
  refine wctb h0 rfl (by rw [(decide_eq_false p0)]; rfl) fun v0 => ?_
  refine wsc fun h0 n0 => lR v0 fun h0 u0 => ?_
  refine wn n0 <| wp_ret <| x_block_r <| x_then_r <| x_then_r <| x_block_r <| x_then_r <| er1 u0 ?_
  refine ⟨?_, o0.fr⟩
  exact cre (ret_i (by simp [frE, d0, k0, j0, p0]))
 refine wctb i0 rfl (by rw [(decide_eq_false k0)]; rfl) fun p0 => ?_
 refine wsc fun i0 j0 => lR p0 fun i0 o0 => ?_
 refine wn j0 <| wp_ret <| x_block_r <| x_then_r <| x_then_r <| x_block_r <| x_then_r <| er1 o0 ?_
 refine ⟨?_, b0.fr⟩
 exact cre (ret_i (by simp [frE, d0, k0]))
theorem dname_calls (w0 : World) (Z : Nat → Prop) (hZ : ∀ k, Z k → k < w0.heap.size) (s : ByteArray) (hs : s.size < 1000000 := by first | assumption | omega | (simp <;> omega)) :
    Calls Tryz.prog 81 [.string s].toArray w0 (fun e w' => e = .returned (.bool (nmB s)) ∧ Fr none_ w0 w') := by
 have b0 := s0 (M := none_) hZ zn
 refine c_enter Tryz.func81 rfl Tryz.ntmps81 rfl fun c0 d0 => ?_
 refine wsc fun c0 f0 => aw d0 f0 fun c0 h0 => ?_
 refine wsc fun f0 c0 => mv h0 fun f0 d0 => ?_
 have f0 := b0.nf
 refine kcl d0 ok115 (name_calls _ _ f0.il s) ?_
 rintro d0 b0 ⟨rfl, h0⟩
 have b0 := f0.below h0.below
 refine ⟨_, rfl, fun h0 f0 => ?_⟩
 refine mv f0 fun h0 d0 => ?_
 refine l_join (fun ga gw => Reg ga 10 [(2, .bool false), (9, .bool ((nameOk s) && (!(kwB s)))), (1000000, .bool false)] ∧ St w0 Z none_ gw [] []) 4 ?_ ?_
 ·
  rcases Bool.eq_false_or_eq_true (nameOk s) with h0 | h0
  ·
   have f0 := d0.setb (d := 5) (b := true) rfl h0
   refine lR f0 fun i0 j0 => ?_
   have i0 := b0.nf
   refine kcl j0 ok116 (keyword_calls _ _ i0.il s) ?_
   rintro j0 f0 ⟨rfl, k0⟩
   have f0 := i0.below k0.below
   refine ⟨_, rfl, fun k0 i0 => ?_⟩
   refine lR i0 fun k0 j0 => ?_
   refine wpList_nil ?_
   exact x_then_n ⟨(j0.sub (rc rfl (rc (rb rfl (by (simp only [h0, bl]; done))) (rc rfl rnl)))), f0⟩
  have j0 := d0.setb (d := 5) (b := false) rfl h0
  refine lR j0 fun d0 f0 => ?_
  refine wpList_nil ?_
  exact x_then_n ⟨(f0.sub (rc rfl (rc (rb rfl (by (simp only [h0, bl]; done))) (rc rfl rnl)))), b0⟩
 rintro f0 h0 ⟨b0, d0⟩
 refine aw b0 c0 fun h0 f0 => ?_
 refine wp_ret <| er1 f0 ?_
 refine ⟨?_, d0.fr⟩
 exact cre (ret_b (by rfl))
theorem dcheck_calls (w0 : World) (Z : Nat → Prop) (hZ : ∀ k, Z k → k < w0.heap.size) (dK : Int) (dL : Int) (dS : ByteArray) (dTA : Option Addr) (dTc : Nat) (dT : List Nd) (dBA : Option Addr) (dBc : Nat) (dB : List Nd) (dCA : Option Addr) (dCc : Nat) (dC : List Tl) (hShp : Shapes w0 Z) (hdT : (dRow 4 dTA dT.length dTc (encNs dT)).φ w0 Z) (hdB : (dRow 4 dBA dB.length dBc (encNs dB)).φ w0 Z) (hdC : (dRow 1 dCA dC.length dCc (encTs dC)).φ w0 Z) (hdCs : (dAllT dC).φ w0 Z) (hl : dC.length ≤ 100 := by first | assumption | omega | (simp <;> omega)) (hb : ∀ s ∈ dC, s.2.2.length ≤ 100 := by first | assumption | omega | (simp <;> omega)) (hall : ∀ x ∈ tmD dK dT dB (lstsT dC), sml x ∧ x.length ≤ 1000000 := by first | assumption | omega | (simp <;> omega)) (hsS : dS.size < 1000000 := by first | assumption | omega | (simp <;> omega)) :
    Calls Tryz.prog 49 [.agg #[.int .i64 (dK), .int .i64 (dL), .string dS, .slice dTA dT.length dTc, .slice dBA dB.length dBc, .slice dCA dC.length dCc]].toArray w0 (fun e w' => e = .returned (.int .i64 (dkE dK dL dS dT dB dC)) ∧ Fr none_ w0 w') := by
 have b0 := s0 (M := none_) hZ (zc (d := dShapes) hShp (zc hdT (zc hdB (zc hdC (zc hdCs zn)))))
 refine c_enter Tryz.func49 rfl Tryz.ntmps49 rfl fun c0 d0 => ?_
 refine wsc fun c0 f0 => bxx d0 b0 fun c0 h0 i0 j0 k0 => ?_
 refine aw j0 f0 fun h0 c0 => ?_
 refine wsc fun f0 h0 => lR c0 fun f0 j0 => ?_
 refine wn h0 <| wsc fun h0 f0 => lR j0 fun h0 c0 => ?_
 refine lAn 3 (decide ((dL) ≤ 9)) c0 fun h0 j0 => ?_
 refine aw j0 f0 fun h0 c0 => ?_
 refine wsc fun f0 h0 => lR c0 fun f0 j0 => ?_
 refine l_join (fun ga gw => Reg ga 87 [(1, .pointer (some ⟨i0, 0, none⟩)), (2, .int .i64 0), (3, .bool (decide ((dK) = 3))), (4, .bool ((decide (1 ≤ (dL))) && (decide ((dL) ≤ 9)))), (25, .bool ((decide (6 < ((dC.length : Nat) : Int))) || (dC.any (fun s : Tl => decide (6 < s.2.2.length))))), (1000000, .bool false)] ∧ St w0 Z none_ gw [.box i0 25 [.int .i64 (dK), .int .i64 (dL), .string dS, .slice dTA dT.length dTc, .slice dBA dB.length dBc, .slice dCA dC.length dCc]] [dShapes, dRow 4 dTA dT.length dTc (encNs dT), dRow 4 dBA dB.length dBc (encNs dB), dRow 1 dCA dC.length dCc (encTs dC), dAllT dC]) 4 ?_ ?_
 ·
  rcases Decidable.em (6 < ((dC.length : Nat) : Int)) with i0 | i0
  ·
   have f0 := j0.setb (d := 21) (b := true) rfl (decide_eq_true i0)
   refine lR f0 fun c0 d0 => ?_
   refine wpList_nil ?_
   exact x_then_n ⟨(d0.sub (rc4 (rc (rb rfl (by (simp only [decide_eq_true i0, if_pos i0, bl]; done))) (rc rfl rnl)))), k0⟩
  have d0 := j0.setb (d := 21) (b := false) rfl (decide_eq_false i0)
  refine lR d0 fun j0 c0 => ?_
  have j0 := k0.nf
  refine kcl c0 ok77 (containsC_calls _ _ j0.il _ _ _ (j0.g 3) (j0.g 4)) ?_
  rintro c0 k0 ⟨rfl, d0⟩
  have k0 := j0.below d0.below
  refine ⟨_, rfl, fun d0 j0 => ?_⟩
  refine lR j0 fun d0 c0 => ?_
  refine wpList_nil ?_
  exact x_then_n ⟨(c0.sub (rc4 (rc (rb rfl (by (simp only [decide_eq_false i0, if_neg i0, bl]; done))) (rc rfl rnl)))), k0⟩
 rintro c0 k0 ⟨i0, d0⟩
 refine aw i0 h0 fun k0 c0 => ?_
 refine wp_seq_k fun h0 k0 => ?_
 obtain ⟨h0, i0, j0⟩ := d0.agree
 refine d_reg3 (n := 62) j0 5 (pB 0 0 pn) (pan_then pan_body) fun i0 h0 d0 f0 b0 m0 => ?_
 refine dR [0, 1, 2, 3] c0 fun f0 i0 => ?_
 refine dAn 4 [5, 6] 7 (decide ((dK) ≤ 3)) i0 fun f0 c0 => ?_
 refine dR [9, 10] c0 fun f0 i0 => ?_
 refine dt 13 rfl h0 i0 (want_n rfl) (fun x hx => m_loadCN (sy i0) i0 rfl rfl rfl (CellsAt.cons_ (hx.c 0) (CellsAt.cons_ (hx.c 1) (CellsAt.cons_ (hx.c 2) (CellsAt.cons_ (hx.c 3) (CellsAt.cons_ (hx.c 4) (CellsAt.cons_ (hx.c 5) (CellsAt.nil _ _))))))) Tryz.underlying25 rfl sz25 (by decide) gt) m0 fun f0 c0 => ?_
 refine dR [15, 29, 37, 38, 46, 47, 48, 56, 57] c0 fun f0 i0 => ?_
 refine d1 8 ?_
 have f0 := b0.nf
 refine kcl i0 ok80 (unless_calls _ _ f0.il ((decide (1 ≤ (dK))) && (decide ((dK) ≤ 3))) 1) ?_
 rintro i0 b0 ⟨c0, m0, rfl, h0, j0, n0⟩
 have b0 := f0.below h0.below
 have h0 := f0.dN b0 j0
 have b0 := f0.dN h0 n0
 refine ⟨_, rfl, fun h0 n0 => ?_⟩
 have h0 := sWI b0 5 (pB 0 0 pn)
 refine ⟨h0, ?_⟩
 refine d1 11 ?_
 have h0 := b0.nf
 refine kcl n0 ok81 (dname_calls _ _ h0.il dS) ?_
 rintro n0 b0 ⟨rfl, f0⟩
 have b0 := h0.below f0.below
 refine ⟨_, rfl, fun f0 h0 => ?_⟩
 have f0 := sWI b0 5 (pB 0 0 pn)
 refine ⟨f0, ?_⟩
 refine d1 12 ?_
 have f0 := b0.nf
 refine kcl h0 ok80 (unless_calls _ _ f0.il (nmB dS) 20) ?_
 rintro h0 b0 ⟨n0, j0, rfl, i0, o0, p0⟩
 have b0 := f0.below i0.below
 have i0 := f0.dN b0 o0
 have b0 := f0.dN i0 p0
 refine ⟨_, rfl, fun i0 p0 => ?_⟩
 have i0 := sWI b0 5 (pB 0 0 pn)
 refine ⟨i0, ?_⟩
 refine d1 14 ?_
 have i0 := b0.nf
 refine kcl p0 ok82 (closed_calls _ _ i0.il (dK) (dL) dS _ _ _ _ _ _ _ _ _ (i0.g 1) (i0.g 2) (i0.g 3) (i0.g 4)) ?_
 rintro p0 b0 ⟨f0, rfl, o0, h0⟩
 have b0 := i0.below o0.below
 have o0 := i0.dN b0 h0
 refine ⟨_, rfl, fun b0 h0 => ?_⟩
 have b0 := sWI o0 5 (pB 0 0 pn)
 refine ⟨b0, ?_⟩
 refine dR [16] h0 fun b0 i0 => ?_
 refine dAn 17 [] 18 ((decide (1 ≤ (dL))) && (decide ((dL) ≤ 9))) i0 fun b0 h0 => ?_
 refine dR [19] h0 fun b0 i0 => ?_
 rcases Bool.eq_false_or_eq_true (((decide ((dK) = 3)) && ((decide (1 ≤ (dL))) && (decide ((dL) ≤ 9))))) with b0 | b0
 ·
  have h0 := and_tl b0
  have p0 := of_decide_eq_true h0
  have h0 := and_tr b0
  have q0 := and_tl h0
  have t0 := of_decide_eq_true q0
  have q0 := and_tr h0
  have h0 := of_decide_eq_true q0
  have q0 := i0.setb (d := 45) (b := true) rfl b0
  refine dR [20, 21, 22, 23, 24, 25, 26, 27] q0 fun u0 v0 => ?_
  refine d1 28 ?_
  have u0 := o0.nf
  refine kcl v0 ok80 (unless_calls _ _ u0.il true 1) ?_
  rintro v0 q0 ⟨x0, y0, rfl, z0, b1, c1⟩
  have q0 := u0.below z0.below
  have z0 := u0.dN q0 b1
  have q0 := u0.dN z0 c1
  refine ⟨_, rfl, fun z0 c1 => ?_⟩
  have z0 := sWI q0 5 (pB 0 0 pn)
  refine ⟨z0, ?_⟩
  refine dR [30] c1 fun z0 u0 => ?_
  have z0 := u0.setb (d := 56) (b := true) rfl (decide_eq_true p0)
  refine dR [31, 32, 33, 34, 35] z0 fun u0 c1 => ?_
  refine d1 36 ?_
  have u0 := q0.nf
  refine kcl c1 ok80 (unless_calls _ _ u0.il true 1) ?_
  rintro c1 q0 ⟨z0, b1, rfl, v0, f1, h1⟩
  have q0 := u0.below v0.below
  have v0 := u0.dN q0 f1
  have q0 := u0.dN v0 h1
  refine ⟨_, rfl, fun v0 h1 => ?_⟩
  have v0 := sWI q0 5 (pB 0 0 pn)
  refine ⟨v0, ?_⟩
  refine dR [39] h1 fun v0 u0 => ?_
  have v0 := u0.setb (d := 65) (b := false) rfl (by rw [(decide_eq_true p0)]; rfl)
  refine dR [40, 41, 42, 43, 44] v0 fun u0 h1 => ?_
  refine d1 45 ?_
  have u0 := q0.nf
  refine kcl h1 ok80 (unless_calls _ _ u0.il (decide (((dT.length : Nat) : Int) = 0)) 1) ?_
  rintro h1 q0 ⟨v0, f1, rfl, c1, i1, j1⟩
  have q0 := u0.below c1.below
  have c1 := u0.dN q0 i1
  have q0 := u0.dN c1 j1
  refine ⟨_, rfl, fun c1 j1 => ?_⟩
  have c1 := sWI q0 5 (pB 0 0 pn)
  refine ⟨c1, ?_⟩
  refine dR [49] j1 fun c1 u0 => ?_
  refine dOr 50 [51, 52, 53] 54 (decide (((dB.length : Nat) : Int) = 0)) u0 fun c1 j1 => ?_
  refine d1 55 ?_
  have c1 := q0.nf
  refine kcl j1 ok80 (unless_calls _ _ c1.il ((decide ((dK) = 1)) || (decide (((dB.length : Nat) : Int) = 0))) 1) ?_
  rintro j1 q0 ⟨u0, i1, rfl, h1, k1, m1⟩
  have q0 := c1.below h1.below
  have h1 := c1.dN q0 k1
  have q0 := c1.dN h1 m1
  refine ⟨_, rfl, fun h1 m1 => ?_⟩
  have h1 := sWI q0 5 (pB 0 0 pn)
  refine ⟨h1, ?_⟩
  refine d1 58 ?_
  have h1 := q0.nf
  refine kcl m1 ok80 (unless_calls _ _ h1.il (!((decide (6 < ((dC.length : Nat) : Int))) || (dC.any (fun s : Tl => decide (6 < s.2.2.length))))) 21) ?_
  rintro m1 q0 ⟨c1, k1, rfl, j1, n1, o1⟩
  have q0 := h1.below j1.below
  have j1 := h1.dN q0 n1
  have q0 := h1.dN j1 o1
  refine ⟨_, rfl, fun j1 o1 => ?_⟩
  have j1 := sWI q0 5 (pB 0 0 pn)
  refine ⟨j1, ?_⟩
  refine d1 59 ?_
  refine bsl o1 q0 fun j1 h1 n1 m1 p1 => ?_
  have h1 := sWI p1 5 (pB 0 0 pn)
  refine ⟨h1, ?_⟩
  refine d1 60 ?_
  have h1 := p1.nf
  have p1 := h1.pub 1 (dRow 1 (some ⟨n1, 0, none⟩) 8 8 (encVs ([.func (.func 114) #[] #[.pointer (some ⟨c0, 0, none⟩), .pointer (some ⟨m0, 0, none⟩)], .func (.func 114) #[] #[.pointer (some ⟨n0, 0, none⟩), .pointer (some ⟨j0, 0, none⟩)], .func (.func 117) #[] #[.pointer (some ⟨f0, 0, none⟩)], .func (.func 114) #[] #[.pointer (some ⟨x0, 0, none⟩), .pointer (some ⟨y0, 0, none⟩)], .func (.func 114) #[] #[.pointer (some ⟨z0, 0, none⟩), .pointer (some ⟨b1, 0, none⟩)], .func (.func 114) #[] #[.pointer (some ⟨v0, 0, none⟩), .pointer (some ⟨f1, 0, none⟩)], .func (.func 114) #[] #[.pointer (some ⟨u0, 0, none⟩), .pointer (some ⟨i1, 0, none⟩)], .func (.func 114) #[] #[.pointer (some ⟨c1, 0, none⟩), .pointer (some ⟨k1, 0, none⟩)]])))
  refine kcl m1 ok79 (first_calls _ _ p1.il _ _ c0 ((decide (1 ≤ (dK))) && (decide ((dK) ≤ 3))) m0 1 n0 (nmB dS) j0 20 f0 (((dK))) (((dL))) dS _ _ _ _ _ _ _ _ _ x0 true y0 1 z0 true b1 1 v0 (decide (((dT.length : Nat) : Int) = 0)) f1 1 u0 ((decide ((dK) = 1)) || (decide (((dB.length : Nat) : Int) = 0))) i1 1 c1 (!((decide (6 < ((dC.length : Nat) : Int))) || (dC.any (fun s : Tl => decide (6 < s.2.2.length))))) k1 21 (p1.g 0) (p1.g 6) (p1.g 7) (p1.g 8) (p1.g 9) (p1.g 1) (p1.g 2) (p1.g 3) (p1.g 4) (p1.g 10) (p1.g 11) (p1.g 12) (p1.g 13) (p1.g 14) (p1.g 15) (p1.g 16) (p1.g 17) (p1.g 18) (p1.g 19) (p1.g 20) (p1.g 21) (hl := hl) (hb := hb) (hall := hall)) ?_
  rintro m1 k1 ⟨rfl, c1⟩
  have k1 := p1.below c1.below
  refine ⟨_, rfl, fun c1 p1 => ?_⟩
  have c1 := sWI k1 5 (pB 0 0 pn)
  refine ⟨c1, ?_⟩
  refine dR [61] p1 fun c1 m1 => ?_
  refine wpAnyH_done (by kernel_rfl) (d0 _ _ ?_) _
  refine xn k0 <| wp_ret <| er1 m1 ?_
  refine ⟨?_, k1.fr⟩
  exact cre (ret_i (by exact dkB_eq (by rfl) (by rfl) (by (simp [b0, p0, t0, h0]; done)) (by (simp [b0, p0, t0, h0]; done)) (by (simp [b0, p0, t0, h0]; done)) (by rfl) (by rfl)))
 have h0 := b0
 try simp only [bz] at h0
 have h0 := i0.setb (d := 45) (b := false) rfl b0
 refine dR [20, 21, 22] h0 fun i0 t0 => ?_
 rcases Decidable.em ((dK) = 3) with i0 | i0
 ·
  have h0 := t0.setb (d := 48) (b := false) rfl (by rw [(decide_eq_true i0)]; rfl)
  refine dR [23, 24, 25, 26, 27] h0 fun p0 k1 => ?_
  refine d1 28 ?_
  have p0 := o0.nf
  refine kcl k1 ok80 (unless_calls _ _ p0.il false 1) ?_
  rintro k1 h0 ⟨m1, c1, rfl, p1, i1, u0⟩
  have h0 := p0.below p1.below
  have p1 := p0.dN h0 i1
  have h0 := p0.dN p1 u0
  refine ⟨_, rfl, fun p1 u0 => ?_⟩
  have p1 := sWI h0 5 (pB 0 0 pn)
  refine ⟨p1, ?_⟩
  refine dR [30] u0 fun p1 p0 => ?_
  have p1 := p0.setb (d := 56) (b := true) rfl (decide_eq_true i0)
  refine dR [31, 32, 33, 34, 35] p1 fun p0 u0 => ?_
  refine d1 36 ?_
  have p0 := h0.nf
  refine kcl u0 ok80 (unless_calls _ _ p0.il true 1) ?_
  rintro u0 h0 ⟨p1, i1, rfl, k1, f1, v0⟩
  have h0 := p0.below k1.below
  have k1 := p0.dN h0 f1
  have h0 := p0.dN k1 v0
  refine ⟨_, rfl, fun k1 v0 => ?_⟩
  have k1 := sWI h0 5 (pB 0 0 pn)
  refine ⟨k1, ?_⟩
  refine dR [39] v0 fun k1 p0 => ?_
  have k1 := p0.setb (d := 65) (b := false) rfl (by rw [(decide_eq_true i0)]; rfl)
  refine dR [40, 41, 42, 43, 44] k1 fun p0 v0 => ?_
  refine d1 45 ?_
  have p0 := h0.nf
  refine kcl v0 ok80 (unless_calls _ _ p0.il (decide (((dT.length : Nat) : Int) = 0)) 1) ?_
  rintro v0 h0 ⟨k1, f1, rfl, u0, b1, z0⟩
  have h0 := p0.below u0.below
  have u0 := p0.dN h0 b1
  have h0 := p0.dN u0 z0
  refine ⟨_, rfl, fun u0 z0 => ?_⟩
  have u0 := sWI h0 5 (pB 0 0 pn)
  refine ⟨u0, ?_⟩
  refine dR [49] z0 fun u0 p0 => ?_
  refine dOr 50 [51, 52, 53] 54 (decide (((dB.length : Nat) : Int) = 0)) p0 fun u0 z0 => ?_
  refine d1 55 ?_
  have u0 := h0.nf
  refine kcl z0 ok80 (unless_calls _ _ u0.il ((decide ((dK) = 1)) || (decide (((dB.length : Nat) : Int) = 0))) 1) ?_
  rintro z0 h0 ⟨p0, b1, rfl, v0, y0, x0⟩
  have h0 := u0.below v0.below
  have v0 := u0.dN h0 y0
  have h0 := u0.dN v0 x0
  refine ⟨_, rfl, fun v0 x0 => ?_⟩
  have v0 := sWI h0 5 (pB 0 0 pn)
  refine ⟨v0, ?_⟩
  refine d1 58 ?_
  have v0 := h0.nf
  refine kcl x0 ok80 (unless_calls _ _ v0.il (!((decide (6 < ((dC.length : Nat) : Int))) || (dC.any (fun s : Tl => decide (6 < s.2.2.length))))) 21) ?_
  rintro x0 h0 ⟨u0, y0, rfl, z0, h1, n1⟩
  have h0 := v0.below z0.below
  have z0 := v0.dN h0 h1
  have h0 := v0.dN z0 n1
  refine ⟨_, rfl, fun z0 n1 => ?_⟩
  have z0 := sWI h0 5 (pB 0 0 pn)
  refine ⟨z0, ?_⟩
  refine d1 59 ?_
  refine bsl n1 h0 fun z0 v0 h1 x0 j1 => ?_
  have v0 := sWI j1 5 (pB 0 0 pn)
  refine ⟨v0, ?_⟩
  refine d1 60 ?_
  have v0 := j1.nf
  have j1 := v0.pub 1 (dRow 1 (some ⟨h1, 0, none⟩) 8 8 (encVs ([.func (.func 114) #[] #[.pointer (some ⟨c0, 0, none⟩), .pointer (some ⟨m0, 0, none⟩)], .func (.func 114) #[] #[.pointer (some ⟨n0, 0, none⟩), .pointer (some ⟨j0, 0, none⟩)], .func (.func 117) #[] #[.pointer (some ⟨f0, 0, none⟩)], .func (.func 114) #[] #[.pointer (some ⟨m1, 0, none⟩), .pointer (some ⟨c1, 0, none⟩)], .func (.func 114) #[] #[.pointer (some ⟨p1, 0, none⟩), .pointer (some ⟨i1, 0, none⟩)], .func (.func 114) #[] #[.pointer (some ⟨k1, 0, none⟩), .pointer (some ⟨f1, 0, none⟩)], .func (.func 114) #[] #[.pointer (some ⟨p0, 0, none⟩), .pointer (some ⟨b1, 0, none⟩)], .func (.func 114) #[] #[.pointer (some ⟨u0, 0, none⟩), .pointer (some ⟨y0, 0, none⟩)]])))
  refine kcl x0 ok79 (first_calls _ _ j1.il _ _ c0 ((decide (1 ≤ (dK))) && (decide ((dK) ≤ 3))) m0 1 n0 (nmB dS) j0 20 f0 (((dK))) (((dL))) dS _ _ _ _ _ _ _ _ _ m1 false c1 1 p1 true i1 1 k1 (decide (((dT.length : Nat) : Int) = 0)) f1 1 p0 ((decide ((dK) = 1)) || (decide (((dB.length : Nat) : Int) = 0))) b1 1 u0 (!((decide (6 < ((dC.length : Nat) : Int))) || (dC.any (fun s : Tl => decide (6 < s.2.2.length))))) y0 21 (j1.g 0) (j1.g 6) (j1.g 7) (j1.g 8) (j1.g 9) (j1.g 1) (j1.g 2) (j1.g 3) (j1.g 4) (j1.g 10) (j1.g 11) (j1.g 12) (j1.g 13) (j1.g 14) (j1.g 15) (j1.g 16) (j1.g 17) (j1.g 18) (j1.g 19) (j1.g 20) (j1.g 21) (hl := hl) (hb := hb) (hall := hall)) ?_
  rintro x0 y0 ⟨rfl, u0⟩
  have y0 := j1.below u0.below
  refine ⟨_, rfl, fun u0 j1 => ?_⟩
  have u0 := sWI y0 5 (pB 0 0 pn)
  refine ⟨u0, ?_⟩
  refine dR [61] j1 fun u0 x0 => ?_
  refine wpAnyH_done (by kernel_rfl) (d0 _ _ ?_) _
  refine xn k0 <| wp_ret <| er1 x0 ?_
  refine ⟨?_, y0.fr⟩
  exact cre (ret_i (by exact dkB_eq (by rfl) (by rfl) (by first | (simp [b0, i0]; done) | (rw [Bool.eq_iff_iff]; simp [b0, i0] <;> omega)) (by (simp [b0, i0]; done)) (by (simp [b0, i0]; done)) (by rfl) (by rfl)))
 have y0 := t0.setb (d := 48) (b := true) rfl (by rw [(decide_eq_false i0)]; rfl)
 refine dR [23, 24, 25, 26, 27] y0 fun t0 x0 => ?_
 refine d1 28 ?_
 have t0 := o0.nf
 refine kcl x0 ok80 (unless_calls _ _ t0.il (decide ((dL) = 0)) 1) ?_
 rintro x0 o0 ⟨y0, u0, rfl, j1, b1, p0⟩
 have o0 := t0.below j1.below
 have j1 := t0.dN o0 b1
 have o0 := t0.dN j1 p0
 refine ⟨_, rfl, fun j1 p0 => ?_⟩
 have j1 := sWI o0 5 (pB 0 0 pn)
 refine ⟨j1, ?_⟩
 refine dR [30] p0 fun j1 t0 => ?_
 have j1 := t0.setb (d := 56) (b := false) rfl (decide_eq_false i0)
 refine dR [31, 32, 33, 34, 35] j1 fun t0 p0 => ?_
 refine d1 36 ?_
 have t0 := o0.nf
 refine kcl p0 ok80 (unless_calls _ _ t0.il (decide (((dC.length : Nat) : Int) = 0)) 1) ?_
 rintro p0 o0 ⟨j1, b1, rfl, x0, f1, k1⟩
 have o0 := t0.below x0.below
 have x0 := t0.dN o0 f1
 have o0 := t0.dN x0 k1
 refine ⟨_, rfl, fun x0 k1 => ?_⟩
 have x0 := sWI o0 5 (pB 0 0 pn)
 refine ⟨x0, ?_⟩
 refine dR [39] k1 fun x0 t0 => ?_
 have x0 := t0.setb (d := 65) (b := true) rfl (by rw [(decide_eq_false i0)]; rfl)
 refine dR [40, 41, 42, 43, 44] x0 fun t0 k1 => ?_
 refine d1 45 ?_
 have t0 := o0.nf
 refine kcl k1 ok80 (unless_calls _ _ t0.il true 1) ?_
 rintro k1 o0 ⟨x0, f1, rfl, p0, i1, p1⟩
 have o0 := t0.below p0.below
 have p0 := t0.dN o0 i1
 have o0 := t0.dN p0 p1
 refine ⟨_, rfl, fun p0 p1 => ?_⟩
 have p0 := sWI o0 5 (pB 0 0 pn)
 refine ⟨p0, ?_⟩
 refine dR [49] p1 fun p0 t0 => ?_
 refine dOr 50 [51, 52, 53] 54 (decide (((dB.length : Nat) : Int) = 0)) t0 fun p0 p1 => ?_
 refine d1 55 ?_
 have p0 := o0.nf
 refine kcl p1 ok80 (unless_calls _ _ p0.il ((decide ((dK) = 1)) || (decide (((dB.length : Nat) : Int) = 0))) 1) ?_
 rintro p1 o0 ⟨t0, i1, rfl, k1, c1, m1⟩
 have o0 := p0.below k1.below
 have k1 := p0.dN o0 c1
 have o0 := p0.dN k1 m1
 refine ⟨_, rfl, fun k1 m1 => ?_⟩
 have k1 := sWI o0 5 (pB 0 0 pn)
 refine ⟨k1, ?_⟩
 refine d1 58 ?_
 have k1 := o0.nf
 refine kcl m1 ok80 (unless_calls _ _ k1.il (!((decide (6 < ((dC.length : Nat) : Int))) || (dC.any (fun s : Tl => decide (6 < s.2.2.length))))) 21) ?_
 rintro m1 o0 ⟨p0, c1, rfl, p1, v0, h1⟩
 have o0 := k1.below p1.below
 have p1 := k1.dN o0 v0
 have o0 := k1.dN p1 h1
 refine ⟨_, rfl, fun p1 h1 => ?_⟩
 have p1 := sWI o0 5 (pB 0 0 pn)
 refine ⟨p1, ?_⟩
 refine d1 59 ?_
 refine bsl h1 o0 fun p1 k1 v0 m1 z0 => ?_
 have k1 := sWI z0 5 (pB 0 0 pn)
 refine ⟨k1, ?_⟩
 refine d1 60 ?_
 have k1 := z0.nf
 have z0 := k1.pub 1 (dRow 1 (some ⟨v0, 0, none⟩) 8 8 (encVs ([.func (.func 114) #[] #[.pointer (some ⟨c0, 0, none⟩), .pointer (some ⟨m0, 0, none⟩)], .func (.func 114) #[] #[.pointer (some ⟨n0, 0, none⟩), .pointer (some ⟨j0, 0, none⟩)], .func (.func 117) #[] #[.pointer (some ⟨f0, 0, none⟩)], .func (.func 114) #[] #[.pointer (some ⟨y0, 0, none⟩), .pointer (some ⟨u0, 0, none⟩)], .func (.func 114) #[] #[.pointer (some ⟨j1, 0, none⟩), .pointer (some ⟨b1, 0, none⟩)], .func (.func 114) #[] #[.pointer (some ⟨x0, 0, none⟩), .pointer (some ⟨f1, 0, none⟩)], .func (.func 114) #[] #[.pointer (some ⟨t0, 0, none⟩), .pointer (some ⟨i1, 0, none⟩)], .func (.func 114) #[] #[.pointer (some ⟨p0, 0, none⟩), .pointer (some ⟨c1, 0, none⟩)]])))
 refine kcl m1 ok79 (first_calls _ _ z0.il _ _ c0 ((decide (1 ≤ (dK))) && (decide ((dK) ≤ 3))) m0 1 n0 (nmB dS) j0 20 f0 (((dK))) (((dL))) dS _ _ _ _ _ _ _ _ _ y0 (decide ((dL) = 0)) u0 1 j1 (decide (((dC.length : Nat) : Int) = 0)) b1 1 x0 true f1 1 t0 ((decide ((dK) = 1)) || (decide (((dB.length : Nat) : Int) = 0))) i1 1 p0 (!((decide (6 < ((dC.length : Nat) : Int))) || (dC.any (fun s : Tl => decide (6 < s.2.2.length))))) c1 21 (z0.g 0) (z0.g 6) (z0.g 7) (z0.g 8) (z0.g 9) (z0.g 1) (z0.g 2) (z0.g 3) (z0.g 4) (z0.g 10) (z0.g 11) (z0.g 12) (z0.g 13) (z0.g 14) (z0.g 15) (z0.g 16) (z0.g 17) (z0.g 18) (z0.g 19) (z0.g 20) (z0.g 21) (hl := hl) (hb := hb) (hall := hall)) ?_
 rintro m1 c1 ⟨rfl, p0⟩
 have c1 := z0.below p0.below
 refine ⟨_, rfl, fun p0 z0 => ?_⟩
 have p0 := sWI c1 5 (pB 0 0 pn)
 refine ⟨p0, ?_⟩
 refine dR [61] z0 fun p0 m1 => ?_
 refine wpAnyH_done (by kernel_rfl) (d0 _ _ ?_) _
 refine xn k0 <| wp_ret <| er1 m1 ?_
 refine ⟨?_, c1.fr⟩
 exact cre (ret_i (by exact dkB_eq (by rfl) (by rfl) (by first | (simp [b0, i0]; done) | (rw [Bool.eq_iff_iff]; simp [b0, i0] <;> omega)) (by (simp [b0, i0]; done)) (by (simp [b0, i0]; done)) (by rfl) (by rfl)))
end Go.Proofs.YtpfmnpaifchleaaGreatDoor
