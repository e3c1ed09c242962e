import Derived.Test.YtpfmnpaifchleaaDoorYme
import Derived.ChangeKeysEq
namespace Go.Proofs.YtpfmnpaifchleaaDoor
open Go Go.RowKit
set_option linter.unusedSimpArgs false
set_option linter.unusedVariables false
set_option maxRecDepth 100000
set_option maxHeartbeats 1000000
theorem binds_calls (w0 : World) (Z : Nat → Prop) (hZ : ∀ k, Z k → k < w0.heap.size) (n : Nd) (hShp : Shapes w0 Z) (hs : n.S.size < 1000000 := by first | assumption | omega | (simp <;> omega)) :
    Calls Tryd.prog 94 [.agg #[.int .i64 (n.K), .int .i64 (n.N), .int .i64 (n.M), .string n.S]].toArray w0 (fun e w' => ∃ (rA0 : Option Addr) (rc0 : Nat), e = .returned (.tuple #[.slice rA0 (bindsR n).length rc0, .bool (right n)]) ∧ Fr none_ w0 w' ∧ (dRow 1 rA0 ((bindsR n).length) rc0 (encIs (bindsR n))).φ w' (nxt Z w0 w')) := by
 have b0 := s0 (M := none_) hZ (zc (d := dShapes) hShp zn)
 refine c_enter Tryd.func94 rfl Tryd.ntmps94 rfl fun c0 d0 => ?_
 refine wsc fun c0 f0 => bxx d0 b0 fun c0 h0 i0 j0 k0 => ?_
 refine lR j0 fun i0 h0 => ?_
 refine wn f0 <| wp_seq_k fun f0 i0 => wsc fun f0 j0 => lR h0 fun f0 c0 => ?_
 have f0 := k0.nf
 refine kcl c0 ok68 (right_calls _ _ f0.il n (f0.g 0)) ?_
 rintro c0 k0 ⟨rfl, h0⟩
 have k0 := f0.below h0.below
 refine ⟨_, rfl, fun h0 f0 => ?_⟩
 refine lR f0 fun h0 c0 => ?_
 refine wn j0 ?_
 rcases Bool.eq_false_or_eq_true (right n) with j0 | j0
 ·
  have hk := right_K j0
  refine wcfb c0 rfl (by rw [j0]; rfl) fun h0 => ?_
  refine wp_skip <| xn i0 <| wp_seq_k fun i0 f0 => wsc fun i0 d0 => lR h0 fun i0 b0 => ?_
  refine wn d0 <| wp_block ?_
  refine wsc fun d0 i0 => lR b0 fun d0 h0 => ?_
  refine wn i0 ?_
  rcases Decidable.em ((n.K) = 26) with i0 | i0
  ·
   have hcn := right_con (by assumption) (by omega)
   refine wct h0 (decide_eq_true i0) fun d0 => ?_
   refine wsc fun b0 m0 => lR d0 fun b0 n0 => ?_
   have b0 : (n.M) = ((n.M.toNat : Nat) : Int) := by omega
   refine m_makeInts (n := n.M.toNat) sv n0 k0 rfl rfl rfl rfl b0 b0 Tryd.underlying82 zi3 (by omega) (by decide) fun d0 o0 p0 q0 t0 => ?_
   have o0 : (List.replicate (n.M.toNat) (0 : Int)).length = n.M.toNat := by simp
   refine lR q0 fun o0 d0 => ?_
   refine wn m0 <| wp_ret <| x_block_r <| x_then_r <| er2 d0 ?_
   have d0 : bindsR n = List.replicate (n.M.toNat) (0 : Int) := by unfold bindsR; rw [if_pos (by assumption)]; simp [binds, i0]
   rw [d0]
   have d0 := t0.pub 1 (dRow 1 (some ⟨p0, 0, none⟩) ((List.replicate (n.M.toNat) (0 : Int) : List Int).length) ((List.replicate (n.M.toNat) (0 : Int) : List Int).length) (encIs (List.replicate (n.M.toNat) (0 : Int))))
   refine ⟨(some ⟨p0, 0, none⟩), ((List.replicate (n.M.toNat) (0 : Int) : List Int).length), ?_, d0.fr, d0.rx 1⟩
   exact ret_t2 rfl (ret_b (by (simp [j0, i0]; done)))
  refine wcf h0 (decide_eq_false i0) fun d0 => ?_
  refine wsc fun h0 p0 => lR d0 fun h0 t0 => ?_
  refine wn p0 ?_
  rcases Decidable.em ((n.K) = 27) with p0 | p0
  ·
   have hel := right_elim (by assumption) (by omega)
   refine wct t0 (decide_eq_true p0) fun h0 => ?_
   refine wsc fun d0 m0 => bsl h0 k0 fun d0 o0 q0 b0 n0 => ?_
   refine lR b0 fun q0 o0 => ?_
   refine adi (n.M + 1) o0 fun q0 b0 => ?_
   have q0 : (n.M + 1) = ((n.M.toNat + 1 : Nat) : Int) := by omega
   refine m_appendZ (i := 1) ([1]) (n.M.toNat + 1) sv b0 n0 rfl rfl rfl rfl rfl q0 (by omega) (by simp) (by simp; omega) Tryd.underlying82 Tryd.underlying3 zi3 (by decide) fun o0 d0 h0 u0 v0 x0 y0 => ?_
   refine lR x0 fun v0 d0 => ?_
   refine wn m0 <| wp_ret <| x_block_r <| x_then_r <| er2 d0 ?_
   have d0 : bindsR n = ([1]) ++ List.replicate (n.M.toNat + 1) 0 := by unfold bindsR; rw [if_pos (by assumption)]; simp [binds, i0, p0]
   rw [d0]
   have d0 := y0.pub 1 (dRow 1 h0 ((([1]) ++ List.replicate (n.M.toNat + 1) 0 : List Int).length) u0 (encIs (([1]) ++ List.replicate (n.M.toNat + 1) 0)))
   refine ⟨h0, u0, ?_, d0.fr, d0.rx 1⟩
   exact ret_t2 rfl (ret_b (by (simp [j0, i0, p0]; done)))
  refine wcf t0 (decide_eq_false p0) fun d0 => ?_
  refine wp_skip <| x_block_n <| xn f0 <| wsc fun f0 t0 => lR d0 fun f0 u0 => ?_
  refine m_indexA (i := ((n.K)).toNat) (j := (((n.K)).toNat) * 4) sv u0 rfl rfl rfl rfl Tryd.underlying93 sz92 (by omega) (by omega) rfl (by decide) fun f0 d0 => ?_
  refine m_fieldE (j' := (((n.K)).toNat) * 4) sv d0 rfl rfl rfl rfl Tryd.underlying92 rfl sz82 rfl rfl (by decide) fun f0 u0 => ?_
  obtain ⟨f0, d0, h0, y0⟩ := shapes_at (k0.get (i := 0) rfl) (((n.K)).toNat) (by omega)
  have m0 := k0.data (dRow 1 f0 (shp (((n.K)).toNat)).b.length d0 (encIs (shp (((n.K)).toNat)).b)) h0
  refine m_loadE sv u0 rfl rfl rfl 0 ((((n.K)).toNat) * 4) y0 rfl rfl Tryd.underlying82 rfl (by decide) fun h0 d0 => ?_
  have h0 := m0.nf
  refine kcl d0 ok101 (cloneI_calls _ _ h0.il _ _ ((shp (((n.K)).toNat)).b) (h0.g 1) (hl := (Nat.le_trans (shp_le _) (by omega)))) ?_
  rintro d0 m0 ⟨y0, u0, rfl, f0, v0⟩
  have m0 := h0.below f0.below
  have f0 := h0.dN m0 v0
  refine ⟨_, rfl, fun m0 v0 => ?_⟩
  refine lR v0 fun m0 h0 => ?_
  refine wn t0 <| wp_ret <| er2 h0 ?_
  have h0 : bindsR n = ((shp (((n.K)).toNat)).b) := by unfold bindsR; rw [if_pos (by assumption)]; simp [binds, i0, p0]
  rw [h0]
  refine ⟨y0, u0, ?_, f0.fr, f0.rx 2⟩
  exact ret_t2 rfl (ret_b (by (simp [j0, i0, p0]; done)))
 refine wctb c0 rfl (by rw [j0]; rfl) fun p0 => ?_
 refine wsc fun c0 i0 => lR p0 fun c0 f0 => ?_
 refine wn i0 <| wp_ret <| x_then_r <| er2 f0 ?_
 have f0 : bindsR n = [] := by unfold bindsR; rw [if_neg (by simp [j0])]
 rw [f0]
 refine ⟨none, 0, ?_, k0.fr, ⟨Nat.le_refl _, RowI.nil _ _ _ _⟩⟩
 exact ret_t2 rfl (ret_b (by (simp [j0]; done)))
theorem tback_yields (w0 : World) (Z : Nat → Prop) (tg : Nat) (tA : Option Addr) (tc : Nat) (t : List Nd) (msg : Nat) (msA : Option Addr) (msc : Nat) (ms : List (Int × Int)) (hShp : Shapes w0 Z) (ht : (dRow 4 tA t.length tc (encNs t)).φ w0 Z) (htb : (dBox tg [.slice tA t.length tc]).φ w0 Z) (hms : (dRow 2 msA ms.length msc (encMs ms)).φ w0 Z) (hmsb : (dBox msg [.slice msA ms.length msc]).φ w0 Z) (hl : t.length ≤ 1000000) (hsm : sml t) (hc : chk t = 0) (hmq : ms = measL t) :
    Yields Tryd.prog 55 [.pointer (some ⟨tg, 0, none⟩), .pointer (some ⟨msg, 0, none⟩)].toArray (fun x : Int × Sl => #[.int .i64 x.1, .slice x.2.1 x.2.2.2.length x.2.2.1]) (bkS tA tc t) Z w0 := by
 refine yields_of Tryd.func55 rfl Tryd.ntmps55 rfl [dShapes, dRow 4 tA t.length tc (encNs t), dBox tg [.slice tA t.length tc], dRow 2 msA ms.length msc (encMs ms), dBox msg [.slice msA ms.length msc]] (by
  intro d hd
  simp only [List.mem_cons, List.not_mem_nil, or_false] at hd
  rcases hd with rfl | rfl | rfl | rfl | rfl
  · exact hShp
  · exact ht
  · exact htb
  · exact hms
  · exact hmsb
  ) (fun lp jf jx w0 C0 M0 hY hds b0 c0 d0 => ?_)
 have hb := meas_chk hc
 have hp0 := meas_pos hb
 have hrt := right_at hb (show t.length - 1 < t.length by omega)
 have hm8 := many_le hrt
 have hml : ms.length = t.length := by rw [hmq]; exact measL_length hb
 refine wsc fun b0 f0 => m_loadC sv c0 rfl rfl rfl (dbox_cell (d0.get (i := 3) rfl) rfl) Tryd.underlying22 rfl (by decide) fun b0 h0 => ?_
 refine lR h0 fun b0 c0 => ?_
 refine sbi (((t.length : Nat) : Int) - 1) c0 fun b0 h0 => ?_
 refine aw h0 f0 fun b0 c0 => ?_
 refine wsc fun f0 b0 => m_loadC sv c0 rfl rfl rfl (dbox_cell (d0.get (i := 3) rfl) rfl) Tryd.underlying22 rfl (by decide) fun f0 h0 => ?_
 refine mv h0 fun f0 c0 => ?_
 refine ix ((t.length) - (1)) (((t.length) - (1)) * 4) c0 (nds_elem (t := t) (k := (t.length) - (1)) (d0.row (i := 2) rfl).2 (by omega)).some_ fun f0 h0 => ?_
 refine m_loadEN sv h0 rfl rfl rfl (nds_elem (t := t) (k := (t.length) - (1)) (d0.row (i := 2) rfl).2 (by omega)) Tryd.underlying39 rfl sz39 (by decide) fun f0 c0 => ?_
 have f0 := d0.nf
 refine kcl c0 ok36 (many_calls _ _ f0.il (nth t ((t.length) - (1))) (f0.g 1)) ?_
 rintro c0 d0 ⟨rfl, h0⟩
 have d0 := f0.below h0.below
 refine ⟨_, rfl, fun h0 f0 => ?_⟩
 refine sbi (((many (nth t ((t.length) - (1))) : Nat) : Int) - 1) f0 fun h0 c0 => ?_
 refine aw c0 b0 fun h0 f0 => ?_
 refine wp_block ?_
 refine wp_loop_ghost (fun gn ga gw => ∃ k : Nat, (Reg ga 35 [(1000000, .bool false), (0, .func (.yield lp) #[] #[]), (1, .pointer (some ⟨tg, 0, none⟩)), (2, .pointer (some ⟨msg, 0, none⟩)), (4, .int .i64 ((posL t (t.length - 1) k : Nat) : Int)), (5, .int .i64 (((many (nth t (t.length - 1)) : Nat) : Int) - ((k : Nat) : Int) - 1))]) ∧ (St w0 (oldB w0) M0 gw [] [dJ jf ((bkS tA tc t).take k) C0 M0 w0.heap.size, dShapes, dRow 4 tA t.length tc (encNs t), dBox tg [.slice tA t.length tc], dRow 2 msA ms.length msc (encMs ms), dBox msg [.slice msA ms.length msc]]) ∧ (k ≤ many (nth t (t.length - 1))) ∧ (many (nth t (t.length - 1)) - k) = gn) _ ⟨0, (f0.sub (rc4 (rc (ri rfl (by rw [posL_zero hb (by omega)]; omega)) (rc (ri rfl (by omega)) rnl)))), d0, by omega, rfl⟩ ?_
 rintro f0 d0 b0 ⟨k, h0, c0, hk, i0⟩
 refine wp_seq_k fun i0 b0 => wsc fun i0 d0 => lR h0 fun i0 f0 => ?_
 refine wn d0 ?_
 rcases Decidable.em (0 ≤ (((many (nth t (t.length - 1)) : Nat) : Int) - ((k : Nat) : Int) - 1)) with d0 | d0
 ·
  obtain ⟨hps1, hps2, hps3, hps4⟩ := ps_step hb (show k < many (nth t (t.length - 1)) by omega)
  rw [← hmq] at hps3
  refine wct f0 (decide_eq_true d0) fun i0 => ?_
  refine wp_skip <| xn b0 <| wp_seq_k fun b0 h0 => wp_block ?_
  refine wsc fun b0 j0 => m_loadC sv i0 rfl rfl rfl (dbox_cell (c0.get (i := 5) rfl) rfl) Tryd.underlying65 rfl (by decide) fun b0 k0 => ?_
  refine mv k0 fun b0 i0 => ?_
  refine sbi (((posL t (t.length - 1) k : Nat) : Int) - 1) i0 fun b0 k0 => ?_
  refine ix ((posL t (t.length - 1) k) - (1)) (((posL t (t.length - 1) k) - (1)) * 2) k0 (ms_elem (t := ms) (k := (posL t (t.length - 1) k) - (1)) (c0.row (i := 4) rfl).2 (by omega)).some_ fun b0 i0 => ?_
  refine m_fieldE (j' := ((posL t (t.length - 1) k) - (1)) * 2) sv i0 rfl rfl rfl (ms_elem (t := ms) (k := (posL t (t.length - 1) k) - (1)) (c0.row (i := 4) rfl).2 (by omega)).some_ Tryd.underlying90 rfl sz3 rfl rfl (by decide) fun b0 k0 => ?_
  refine lde 0 (((posL t (t.length - 1) k) - (1)) * 2) k0 (ms_elem (t := ms) (k := (posL t (t.length - 1) k) - (1)) (c0.row (i := 4) rfl).2 (by omega)) fun b0 i0 => ?_
  refine asg i0 fun b0 k0 => ?_
  have b0 := Reg.cons k0 k0 (ri (i := 6) (b := ((posL t (t.length - 1) (k + 1) : Nat) : Int)) rfl (hps3.symm))
  refine wn j0 <| wp_seq_k fun j0 k0 => wp_seq_k fun j0 i0 => cy_region ?_
  refine r_move (st_listInV rfl rfl) b0 rfl rfl rfl (by decide) fun j0 m0 => ?_
  refine r_move (st_listInV rfl rfl) m0 rfl rfl rfl (by decide) fun j0 b0 => ?_
  refine m_loadC (st_listInV rfl rfl) b0 rfl rfl rfl (dbox_cell (c0.get (i := 3) rfl) rfl) Tryd.underlying22 rfl (by decide) fun j0 m0 => ?_
  refine r_move (st_listInV rfl rfl) m0 rfl rfl rfl (by decide) fun j0 b0 => ?_
  refine r_move (st_listInV rfl rfl) b0 rfl rfl rfl (by decide) fun j0 m0 => ?_
  have j0 : (((t).drop (posL t (t.length - 1) (k + 1))).take ((posL t (t.length - 1) k) - (posL t (t.length - 1) (k + 1)))).length = (posL t (t.length - 1) k) - (posL t (t.length - 1) (k + 1)) := by simp only [List.length_drop, List.length_take]; omega
  have j0 := c0.data (dRow 4 (if tc = posL t (t.length - 1) (k + 1) then tA else (tA).map (·.add ((posL t (t.length - 1) (k + 1)) * 4))) ((((t).drop (posL t (t.length - 1) (k + 1))).take ((posL t (t.length - 1) k) - (posL t (t.length - 1) (k + 1)))).length) (tc - (posL t (t.length - 1) (k + 1))) (encNs (((t).drop (posL t (t.length - 1) (k + 1))).take ((posL t (t.length - 1) k) - (posL t (t.length - 1) (k + 1)))))) (cut_row (f := encN) (L := t) (c0.get (i := 2) rfl) encN_len (by omega))
  have b0 := (j0.get (i := 2) rfl).1
  refine m_sliceA (lo := some (.tmp 29)) (hi := some (.tmp 30)) (vlo := (some (.int .i64 ((posL t (t.length - 1) (k + 1) : Nat) : Int)))) (vhi := (some (.int .i64 ((posL t (t.length - 1) k : Nat) : Int)))) (kd := .i64) (kd' := .i64) (st_listInV rfl rfl) m0 rfl rfl rfl rfl rfl (posL t (t.length - 1) (k + 1)) ((((t).drop (posL t (t.length - 1) (k + 1))).take ((posL t (t.length - 1) k) - (posL t (t.length - 1) (k + 1)))).length) (.inl (by rfl)) (.inl (by (congr 2; omega))) Tryd.underlying22 sz39 (by omega) (by decide) fun b0 n0 => ?_
  have b0 := j0.nf
  refine y_call (t := .tmp 26) (xs := [.tmp 27, .tmp 31]) (pre := (bkS tA tc t).take k) (i := 0) (ds0 := [dShapes, dRow 4 tA t.length tc (encNs t), dBox tg [.slice tA t.length tc], dRow 2 msA ms.length msc (encMs ms), dBox msg [.slice msA ms.length msc]]) hY rfl n0 b0 rfl rfl rfl rfl (by decide) ((((((many (nth t (t.length - 1)) : Nat) : Int) - ((k : Nat) : Int) - 1), (((if tc = posL t (t.length - 1) (k + 1) then tA else (tA).map (·.add ((posL t (t.length - 1) (k + 1)) * 4))), (tc - (posL t (t.length - 1) (k + 1))), ((t).drop (posL t (t.length - 1) (k + 1))).take ((posL t (t.length - 1) k) - (posL t (t.length - 1) (k + 1)))) : Sl)) : Int × Sl)) rfl rfl (bkS_pre (k := k) (by omega) (bk_eq (k := k) (by omega) rfl)) hds (fun j0 m0 o0 p0 => ?_) fun j0 m0 o0 p0 => ?_
  ·
   refine r_not (st_listInV rfl rfl) o0 rfl rfl rfl (by decide) fun m0 j0 => ?_
   refine li_nil ?_
   refine xn i0 <| wp_cond_false (j0.ev rfl) ?_
   refine wp_skip <| xn k0 <| c_region ?_
   refine lR j0 fun k0 m0 => ?_
   refine wpList_nil ?_
   refine x_block_n <| xn h0 <| c_region ?_
   refine mv m0 fun h0 k0 => ?_
   refine sbi (((many (nth t (t.length - 1)) : Nat) : Int) - ((k : Nat) : Int) - 2) k0 fun h0 m0 => ?_
   refine asg m0 fun h0 k0 => ?_
   refine wpList_nil ?_
   have h0 : (bkS tA tc t).take k ++ [((((((many (nth t (t.length - 1)) : Nat) : Int) - ((k : Nat) : Int) - 1), (((if tc = posL t (t.length - 1) (k + 1) then tA else (tA).map (·.add ((posL t (t.length - 1) (k + 1)) * 4))), (tc - (posL t (t.length - 1) (k + 1))), ((t).drop (posL t (t.length - 1) (k + 1))).take ((posL t (t.length - 1) k) - (posL t (t.length - 1) (k + 1)))) : Sl)) : Int × Sl))] = (bkS tA tc t).take (k + 1) := by rw [← bkS_step (show k < many (nth t (t.length - 1)) by omega)]; exact congrArg (fun z => (bkS tA tc t).take k ++ [z]) (bk_eq (k := k) (by omega) rfl)
   have m0 := p0
   rw [h0] at m0
   exact ⟨_, by omega, k + 1, (k0.sub (rc4 (rc rfl (rc (ri rfl (by omega)) rnl)))), m0, by omega, rfl⟩
  refine r_not (st_listInV rfl rfl) o0 rfl rfl rfl (by decide) fun m0 k0 => ?_
  refine li_nil ?_
  refine xn i0 <| wp_cond_true (k0.ev rfl) ?_
  refine wp_ret <| x_then_r <| x_block_r <| x_then_r <| x_then_r <| x_block_r <| e_ret0 k0 rfl rfl ?_
  exact it_stop p0 (i := 0) rfl (bkS_pre (k := k) (by omega) (bk_eq (k := k) (by omega) rfl))
 refine wcf f0 (decide_eq_false d0) fun p0 => ?_
 refine wp_exit ?_
 refine x_then_e ?_
 refine x_then_e ?_
 refine x_block_eq ?_
 refine e_end0 p0 rfl rfl ?_
 exact it_all c0 (i := 0) rfl (bkS_all (by omega))
theorem tbackMk_calls (w0 : World) (Z : Nat → Prop) (hZ : ∀ k, Z k → k < w0.heap.size) (tA : Option Addr) (tc : Nat) (t : List Nd) (msA : Option Addr) (msc : Nat) (ms : List (Int × Int)) (ht : (dRow 4 tA t.length tc (encNs t)).φ w0 Z) (hms : (dRow 2 msA ms.length msc (encMs ms)).φ w0 Z) (hl : t.length ≤ 1000000 := by first | assumption | omega | (simp <;> omega)) :
    Calls Tryd.prog 37 [.slice tA t.length tc, .slice msA ms.length msc].toArray w0 (fun e w' => ∃ q0_0 : Nat, ∃ q0_1 : Nat, e = .returned (.func (.func 55) #[] #[.pointer (some ⟨q0_0, 0, none⟩), .pointer (some ⟨q0_1, 0, none⟩)]) ∧ Fr none_ w0 w' ∧ (dBox q0_0 [.slice tA t.length tc]).φ w' (nxt Z w0 w') ∧ (dBox q0_1 [.slice msA ms.length msc]).φ w' (nxt Z w0 w')) := by
 have b0 := s0 (M := none_) hZ (zc ht (zc hms zn))
 refine c_enter Tryd.func37 rfl Tryd.ntmps37 rfl fun c0 d0 => ?_
 refine wsc fun c0 f0 => bxx d0 b0 fun c0 h0 i0 j0 k0 => ?_
 refine bxx j0 k0 fun h0 c0 d0 b0 m0 => ?_
 refine aw b0 f0 fun c0 h0 => ?_
 refine wsc fun f0 c0 => r_makeFunc sv h0 rfl rfl rfl (by decide) fun f0 b0 => ?_
 refine aw b0 c0 fun f0 h0 => ?_
 refine wp_ret <| er1 h0 ?_
 obtain ⟨h0, c0⟩ := m0.box_data (i := 0) rfl (fun _ h => h)
 have m0 := h0.data (dBox i0 [.slice tA t.length tc]) c0
 obtain ⟨c0, h0⟩ := m0.box_data (i := 0) rfl (fun _ h => h)
 have m0 := c0.data (dBox d0 [.slice msA ms.length msc]) h0
 refine ⟨i0, d0, ?_, m0.fr, ((m0.get (i := 2) rfl).imp imm_nxt id), ((m0.get (i := 3) rfl).imp imm_nxt id)⟩
 exact cr rfl
theorem args_calls (w0 : World) (Z : Nat → Prop) (hZ : ∀ k, Z k → k < w0.heap.size) (tA : Option Addr) (tc : Nat) (t : List Nd) (hShp : Shapes w0 Z) (ht : (dRow 4 tA t.length tc (encNs t)).φ w0 Z) (hsm : sml t := by first | assumption | omega | (simp <;> omega)) (hl : t.length ≤ 1000000 := by first | assumption | omega | (simp <;> omega)) :
    Calls Tryd.prog 19 [.slice tA t.length tc].toArray w0 (fun e w' => ∃ (rA0 : Option Addr) (rc0 : Nat) (rL0 : List Sl), e = .returned (.tuple #[.slice rA0 rL0.length rc0, .int .i64 (chk t)]) ∧ Fr none_ w0 w' ∧ (dRow 1 rA0 rL0.length rc0 (encSs rL0)).φ w' (nxt Z w0 w') ∧ (dAll rL0).φ w' (nxt Z w0 w') ∧ lsts rL0 = agA t) := by
 have b0 := s0 (M := none_) hZ (zc (d := dShapes) hShp (zc ht zn))
 refine c_enterM Tryd.func19 rfl Tryd.ntmps19 rfl fun c0 d0 => ?_
 refine wsc fun c0 f0 => lR d0 fun c0 h0 => ?_
 refine wn f0 <| wsc fun f0 c0 => mv h0 fun f0 d0 => ?_
 have f0 := b0.nf
 refine kcl d0 ok35 (look_calls _ _ f0.il _ _ _ (f0.g 0) (f0.g 1)) ?_
 rintro d0 b0 ⟨h0, i0, rfl, j0, k0⟩
 have b0 := f0.below j0.below
 have j0 := f0.dN b0 k0
 refine ⟨_, rfl, fun b0 k0 => ?_⟩
 refine lR k0 fun b0 f0 => ?_
 refine wn c0 <| wp_seq_k fun c0 b0 => wsc fun c0 k0 => lR f0 fun c0 d0 => ?_
 refine wn k0 ?_
 rcases Decidable.em (((chk t)) = 0) with k0 | k0
 ·
  have hc := k0
  have hb := meas_chk hc
  have hp0 := meas_pos hb
  have hrt := right_at hb (show t.length - 1 < t.length by omega)
  have hm8 := many_le hrt
  refine wcfb d0 rfl (by rw [(decide_eq_true k0)]; rfl) fun c0 => ?_
  refine wp_skip <| xn b0 <| wsc fun b0 f0 => lR c0 fun b0 m0 => ?_
  refine sbi (((t.length : Nat) : Int) - 1) m0 fun b0 c0 => ?_
  refine ix ((t.length) - (1)) (((t.length) - (1)) * 4) c0 (nds_elem (t := t) (k := (t.length) - (1)) (j0.row (i := 1) rfl).2 (by omega)).some_ fun b0 m0 => ?_
  refine m_loadEN sv m0 rfl rfl rfl (nds_elem (t := t) (k := (t.length) - (1)) (j0.row (i := 1) rfl).2 (by omega)) Tryd.underlying39 rfl sz39 (by decide) fun b0 c0 => ?_
  have b0 := j0.nf
  refine kcl c0 ok36 (many_calls _ _ b0.il (nth t ((t.length) - (1))) (b0.g 0) (hr := hrt)) ?_
  rintro c0 m0 ⟨rfl, n0⟩
  have m0 := b0.below n0.below
  refine ⟨_, rfl, fun n0 b0 => ?_⟩
  have n0 : ((many (nth t ((t.length) - (1))) : Nat) : Int) = ((many (nth t ((t.length) - (1))) : Nat) : Int) := by omega
  refine m_makeSs (n := many (nth t ((t.length) - (1)))) sv b0 m0 rfl rfl rfl rfl n0 n0 Tryd.underlying40 zi22 (by decide) (by omega) (by decide) fun c0 o0 p0 q0 t0 => ?_
  have o0 : (List.replicate (many (nth t ((t.length) - (1)))) slz).length = many (nth t ((t.length) - (1))) := by simp
  refine alc q0 t0 fun o0 c0 n0 b0 m0 => ?_
  refine sto 1 b0 m0 fun c0 o0 t0 q0 => ?_
  refine wn f0 <| wp_seq_k fun f0 o0 => wsc fun f0 c0 => lR t0 fun f0 m0 => ?_
  have f0 := q0.nf
  refine kcl m0 ok37 (tbackMk_calls _ _ f0.il _ _ _ _ _ (lookL t) (f0.g 1) (f0.g 2)) ?_
  rintro m0 q0 ⟨t0, b0, rfl, u0, v0, x0⟩
  have q0 := f0.below u0.below
  have u0 := f0.dN q0 v0
  have q0 := f0.dN u0 x0
  refine ⟨_, rfl, fun u0 x0 => ?_⟩
  refine wn c0 <| wp_block ?_
  have c0 := q0.nf
  have q0 : Reg u0 36 [(1000000, .bool false), (2, .slice none 0 0), (3, .int .i64 0), (6, .pointer (some ⟨n0, 0, none⟩)), (27, .func (.func 55) #[] #[.pointer (some ⟨t0, 0, none⟩), .pointer (some ⟨b0, 0, none⟩)])] := (x0.sub (rc4 (rc rfl rnl)))
  refine w_range (xs := bkS tA tc t) (encs := (fun x : Int × Sl => #[.int .i64 x.1, .slice x.2.1 x.2.2.2.length x.2.2.1])) (q0.ev rfl) ok55 (tback_yields _ (imm Z w0 [.row (some ⟨p0, 0, none⟩) ((List.replicate (many (nth t ((t.length) - (1)))) slz).length) ((List.replicate (many (nth t ((t.length) - (1)))) slz).length) 22 1 (encSs (List.replicate (many (nth t ((t.length) - (1)))) slz)), .box n0 40 [.slice (some ⟨p0, 0, none⟩) ((List.replicate (many (nth t ((t.length) - (1)))) slz).length) ((List.replicate (many (nth t ((t.length) - (1)))) slz).length)]] _) t0 tA tc t b0 h0 i0 (lookL t) (c0.get (i := 0) rfl) (c0.get (i := 1) rfl) (c0.get (i := 3) rfl) (c0.get (i := 2) rfl) (c0.get (i := 4) rfl) hl hsm hc (lookL_good hc)) (fun _ => rfl) c0 (fun _ h => h) (fun (pre : List (Int × Sl)) (mm : List Res) => ∃ k : Nat, ∃ Ao : Option Addr, ∃ co : Nat, ∃ Ls : List Sl, mm = ([.row Ao ((List.replicate (many (nth t (t.length - 1)) - k) slz ++ Ls.reverse).length) co 22 1 (encSs (List.replicate (many (nth t (t.length - 1)) - k) slz ++ Ls.reverse)), .box n0 40 [.slice Ao ((List.replicate (many (nth t (t.length - 1)) - k) slz ++ Ls.reverse).length) co]] ++ (Ls).map (rowOf 39)) ∧ (k ≤ many (nth t (t.length - 1))) ∧ (pre.length = k) ∧ (Ls.length = k) ∧ (lsts Ls.reverse = ptD t k)) (fun _ _ _ => False) ⟨0, (some ⟨p0, 0, none⟩), (List.replicate (many (nth t ((t.length) - (1)))) slz).length, [], (by rw [List.reverse_nil, List.append_nil, Nat.sub_zero]; rfl), by omega, rfl, rfl, (ptD_zero t).symm⟩ ?_ ?_ ?_
  ·
   rintro c0 pre x p0 m1 hp ⟨k, Ao, co, Ls, rfl, hk, hpk, hLn, hL⟩ x0
   obtain ⟨hkm, rfl⟩ := bkS_next hpk hp
   have hal : (bkAt tA tc t k).2.2.2.length ≤ t.length := by show ((t.drop _).take _).length ≤ t.length; rw [List.length_take, List.length_drop]; omega
   have hrl : (List.replicate (many (nth t (t.length - 1)) - k) slz ++ Ls.reverse).length = many (nth t (t.length - 1)) := by simp; omega
   refine (?_ : ∀ u0, Reg u0 36 [(29, .slice ((bkAt tA tc t k).2.1) ((bkAt tA tc t k).2.2.2.length) ((bkAt tA tc t k).2.2.1)), (28, .int .i64 ((many (nth t (t.length - 1)) - 1 - k : Nat) : Int)), (1000000, .bool false), (2, .slice none 0 0), (3, .int .i64 0), (6, .pointer (some ⟨n0, 0, none⟩)), (27, .func (.func 55) #[] #[.pointer (some ⟨t0, 0, none⟩), .pointer (some ⟨b0, 0, none⟩)])] → Code.wpIn (rI c0) 0 _ _ _ u0 p0) _ (Reg.round2n q0 (by decide) (by decide) rfl)
   intro u0 c0
   refine wpIn_seq_k fun u0 f0 => ?_
   refine ci_region (by kernel_rfl) (out_then (out_then (fun _ _ h => h))) ?_
   refine aw c0 f0 fun u0 v0 => ?_
   refine ci_region (by kernel_rfl) (out_then (fun _ _ h => h)) ?_
   refine asg v0 fun f0 u0 => ?_
   refine wpList_nil ?_
   have f0 : St w0 Z none_ p0 ([.row Ao ((List.replicate (many (nth t (t.length - 1)) - k) slz ++ Ls.reverse).length) co 22 1 (encSs (List.replicate (many (nth t (t.length - 1)) - k) slz ++ Ls.reverse)), .box n0 40 [.slice Ao ((List.replicate (many (nth t (t.length - 1)) - k) slz ++ Ls.reverse).length) co]] ++ (Ls).map (rowOf 39)) [dShapes, dRow 4 tA t.length tc (encNs t), dRow 2 h0 ((lookL t).length) i0 (encMs (lookL t)), dBox t0 [.slice tA t.length tc], dBox b0 [.slice h0 ((lookL t).length) i0], dAg p0 (imm Z w0 ([.row Ao ((List.replicate (many (nth t (t.length - 1)) - k) slz ++ Ls.reverse).length) co 22 1 (encSs (List.replicate (many (nth t (t.length - 1)) - k) slz ++ Ls.reverse)), .box n0 40 [.slice Ao ((List.replicate (many (nth t (t.length - 1)) - k) slz ++ Ls.reverse).length) co]] ++ (Ls).map (rowOf 39)) p0)] := x0
   refine x_then_n ⟨_, _, 5, f0, rfl, (fun _ h => False.elim h), (fun _ h => False.elim h), fun x0 p0 => ?_⟩
   have f0 := p0.data (dRow 4 ((bkAt tA tc t k).2.1) ((bkAt tA tc t k).2.2.2.length) ((bkAt tA tc t k).2.2.1) (encNs ((bkAt tA tc t k).2.2.2))) (bk_row hb (p0.get (i := 1) rfl) hkm)
   refine wpIn_block ?_
   obtain ⟨p0, v0, c0⟩ := f0.agree
   refine dli_region2 (S := (sW x0 p0 [cel n0 0 (.slice Ao ((List.replicate (many (nth t (t.length - 1)) - k) slz ++ Ls.reverse).length) co), (Res.row Ao ((List.replicate (many (nth t (t.length - 1)) - k) slz ++ Ls.reverse).length) co 22 1 (encSs (List.replicate (many (nth t (t.length - 1)) - k) slz ++ Ls.reverse))).holds])) (k := 6) [5] mixed rfl (by kernel_rfl) c0 (pan_block pan_rPost) (out_block out_rPost) fun v0 f0 m0 y0 z0 => ?_
   have v0 := sWI z0 7 (pc 1 0 (pr 0 pn))
   refine dlt 0 rfl f0 u0 (want_n rfl) (fun x hx => m_loadC (sy u0) u0 rfl rfl rfl (hx.c 0) Tryd.underlying40 rfl (by decide) gt) v0 fun c0 b1 => ?_
   refine dtv 1 f0 b1 fun c0 v0 => ?_
   refine dtv 2 f0 v0 fun c0 b1 => ?_
   refine dl_one (i := 3) (by kernel_rfl) ?_
   have c0 : St w0 Z none_ y0 ([.row Ao ((List.replicate (many (nth t (t.length - 1)) - k) slz ++ Ls.reverse).length) co 22 1 (encSs (List.replicate (many (nth t (t.length - 1)) - k) slz ++ Ls.reverse)), .box n0 40 [.slice Ao ((List.replicate (many (nth t (t.length - 1)) - k) slz ++ Ls.reverse).length) co]] ++ (Ls).map (rowOf 39)) [dShapes, dRow 4 tA t.length tc (encNs t), dRow 2 h0 ((lookL t).length) i0 (encMs (lookL t)), dBox t0 [.slice tA t.length tc], dBox b0 [.slice h0 ((lookL t).length) i0], dAg x0 (imm Z w0 ([.row Ao ((List.replicate (many (nth t (t.length - 1)) - k) slz ++ Ls.reverse).length) co 22 1 (encSs (List.replicate (many (nth t (t.length - 1)) - k) slz ++ Ls.reverse)), .box n0 40 [.slice Ao ((List.replicate (many (nth t (t.length - 1)) - k) slz ++ Ls.reverse).length) co]] ++ (Ls).map (rowOf 39)) x0), dRow 4 ((bkAt tA tc t k).2.1) ((bkAt tA tc t k).2.2.2.length) ((bkAt tA tc t k).2.2.1) (encNs ((bkAt tA tc t k).2.2.2)), dAg x0 p0] := z0
   refine kcl b1 ok38 (cloneN_calls _ _ c0.il _ _ ((bkAt tA tc t k).2.2.2) (c0.g 6)) ?_
   rintro b1 z0 ⟨y0, v0, rfl, u0, c1, d1⟩
   have z0 := c0.callO u0 c1 d1
   have d1 := St.rot (A := [.row Ao ((List.replicate (many (nth t (t.length - 1)) - k) slz ++ Ls.reverse).length) co 22 1 (encSs (List.replicate (many (nth t (t.length - 1)) - k) slz ++ Ls.reverse)), .box n0 40 [.slice Ao ((List.replicate (many (nth t (t.length - 1)) - k) slz ++ Ls.reverse).length) co]]) (T := (Ls).map (rowOf 39)) z0
   refine ⟨_, rfl, fun z0 c1 => ?_⟩
   have z0 := sWI d1 7 (pc 1 0 (pr 0 pn))
   refine ⟨fun _ _ => z0, ?_⟩
   refine dta 4 rfl f0 c1 (want_n rfl) (fun x => m_index (i := many (nth t (t.length - 1)) - 1 - k) (j := (many (nth t (t.length - 1)) - 1 - k) * 1) (sy c1) c1 rfl rfl rfl rfl Tryd.underlying40 sz22 (by omega) (by omega) (own_ss (t := List.replicate (many (nth t (t.length - 1)) - k) slz ++ Ls.reverse) (k := many (nth t (t.length - 1)) - 1 - k) (d1.res (i := 0) rfl) (by omega)).some_ rfl (by decide) gt) fun z0 u0 => ?_
   refine dl_one (i := 5) (by kernel_rfl) ?_
   have z0 := St.absorb (e := 39) (A := [.row Ao ((List.replicate (many (nth t (t.length - 1)) - k) slz ++ Ls.reverse).length) co 22 1 (encSs (List.replicate (many (nth t (t.length - 1)) - k) slz ++ Ls.reverse)), .box n0 40 [.slice Ao ((List.replicate (many (nth t (t.length - 1)) - k) slz ++ Ls.reverse).length) co]]) (Ls := Ls) (B := y0) (c := v0) (L := ((bkAt tA tc t k).2.2.2)) d1
   refine m_storeE (f := encS) (i := 0) (k := many (nth t (t.length - 1)) - 1 - k) (L := (List.replicate (many (nth t (t.length - 1)) - k) slz ++ Ls.reverse)) (z := ((y0, v0, ((bkAt tA tc t k).2.2.2)) : Sl)) (st_op rfl (want_n rfl)) u0 z0 rfl rfl rfl rfl rfl rfl (by omega) encS_len (one1 (f := encS) encS_one) rfl sz22 fun d1 c1 f0 c0 => ?_
   have f0 : ((List.replicate (many (nth t (t.length - 1)) - k) slz ++ Ls.reverse).set (many (nth t (t.length - 1)) - 1 - k) ((y0, v0, ((bkAt tA tc t k).2.2.2)) : Sl) : List Sl).length = (List.replicate (many (nth t (t.length - 1)) - k) slz ++ Ls.reverse).length := by simp
   refine ⟨fun h => absurd h (by decide), ?_⟩
   refine dl_done (by kernel_rfl) (m0 _ _ ?_) _
   refine x_block_n ?_
   have m0 : St w0 Z none_ c1 ([.row Ao (((List.replicate (many (nth t (t.length - 1)) - k) slz ++ Ls.reverse).set (many (nth t (t.length - 1)) - 1 - k) ((y0, v0, ((bkAt tA tc t k).2.2.2)) : Sl) : List Sl).length) co 22 1 (encSs ((List.replicate (many (nth t (t.length - 1)) - k) slz ++ Ls.reverse).set (many (nth t (t.length - 1)) - 1 - k) ((y0, v0, ((bkAt tA tc t k).2.2.2)) : Sl))), .box n0 40 [.slice Ao ((List.replicate (many (nth t (t.length - 1)) - k) slz ++ Ls.reverse).length) co]] ++ (Ls ++ [((y0, v0, ((bkAt tA tc t k).2.2.2)) : Sl)]).map (rowOf 39)) [dShapes, dRow 4 tA t.length tc (encNs t), dRow 2 h0 ((lookL t).length) i0 (encMs (lookL t)), dBox t0 [.slice tA t.length tc], dBox b0 [.slice h0 ((lookL t).length) i0], dAg x0 (imm Z w0 ([.row Ao ((List.replicate (many (nth t (t.length - 1)) - k) slz ++ Ls.reverse).length) co 22 1 (encSs (List.replicate (many (nth t (t.length - 1)) - k) slz ++ Ls.reverse)), .box n0 40 [.slice Ao ((List.replicate (many (nth t (t.length - 1)) - k) slz ++ Ls.reverse).length) co]] ++ (Ls).map (rowOf 39)) x0), dRow 4 ((bkAt tA tc t k).2.1) ((bkAt tA tc t k).2.2.2.length) ((bkAt tA tc t k).2.2.1) (encNs ((bkAt tA tc t k).2.2.2)), dAg x0 p0] := c0
   exact ⟨_, _, 5, m0, rfl, k + 1, _, _, Ls ++ [((y0, v0, ((bkAt tA tc t k).2.2.2)) : Sl)], (by rw [← rep_set (Ls := Ls) hkm rfl, List.length_set]), by omega, by simp [hpk], by simp [hLn], arg_step hb hL hkm⟩
  ·
   rintro m0 m1 v0 ⟨k, Ao, co, Ls, rfl, hk, hpk, hLn, hL⟩ y0
   have v0 := Reg.marked q0 m0
   have m0 := St.tail_data (e := 39) (A := [.row Ao ((List.replicate (many (nth t (t.length - 1)) - k) slz ++ Ls.reverse).length) co 22 1 (encSs (List.replicate (many (nth t (t.length - 1)) - k) slz ++ Ls.reverse)), .box n0 40 [.slice Ao ((List.replicate (many (nth t (t.length - 1)) - k) slz ++ Ls.reverse).length) co]]) (Ls := Ls) y0 (fun _ h => h)
   have hkm : k = many (nth t (t.length - 1)) := by rw [← hpk]; exact bkS_len tA tc t
   have y0 := m0.data (dAll (List.replicate (many (nth t (t.length - 1)) - k) slz ++ Ls.reverse)) (all_append (all_rep _) (all_rev (m0.get (i := 6) rfl)))
   refine x_block_n <| xn o0 <| wsc fun o0 m0 => lR v0 fun o0 n0 => ?_
   refine wn m0 <| wp_ret ?_
   have m0 := y0.pub 0 (dRow 1 Ao ((List.replicate (many (nth t (t.length - 1)) - k) slz ++ Ls.reverse).length) co (encSs (List.replicate (many (nth t (t.length - 1)) - k) slz ++ Ls.reverse)))
   have y0 := m0.nf
   obtain ⟨m0, o0⟩ := y0.shut (i := 5) rfl [dRow 1 Ao ((List.replicate (many (nth t (t.length - 1)) - k) slz ++ Ls.reverse).length) co (encSs (List.replicate (many (nth t (t.length - 1)) - k) slz ++ Ls.reverse)), dAll (List.replicate (many (nth t (t.length - 1)) - k) slz ++ Ls.reverse)] (by intro d hd; simp only [List.mem_cons, List.not_mem_nil, or_false] at hd; rcases hd with rfl | rfl; exact ⟨List.mem_of_getElem? (i := 8) rfl, datC_row (by decide) _ _ _ _⟩; exact ⟨List.mem_of_getElem? (i := 7) rfl, datC_all _⟩)
   refine m_mark (.inl rfl) n0 rfl m0 (res2 n0 rfl rfl rfl _) ?_
   refine ⟨Ao, co, (List.replicate (many (nth t (t.length - 1)) - k) slz ++ Ls.reverse), ?_, o0.fr, o0.rx 0, o0.rx 1, (by rw [agA_ok hc, lsts_app, hkm, Nat.sub_self, hL, ← ptD_all hb, hkm]; rfl)⟩
   exact ret_t2 (ret_s (by rfl)) (ret_i (by omega))
  rintro _ _ _ _ _ _ h _
  exact h.elim
 refine wctb d0 rfl (by rw [(decide_eq_false k0)]; rfl) fun o0 => ?_
 refine wsc fun k0 d0 => lR o0 fun k0 m0 => ?_
 refine wn d0 <| wp_ret <| x_then_r <| m_none (.inl rfl) m0 rfl (res2 m0 rfl rfl rfl _) ?_
 refine ⟨none, 0, [], ?_, j0.fr, ⟨Nat.le_refl _, RowI.nil _ _ _ _⟩, all_nil, (agA_no (by assumption)).symm⟩
 exact ret_t2 (ret_s (by rfl)) (ret_i (by rfl))
end Go.Proofs.YtpfmnpaifchleaaDoor
namespace Go.Proofs.YtpfmnpaifchleaaDoor
set_option linter.unusedSimpArgs false
set_option linter.unusedVariables false
section
/- Arrays of two numbers compared. -/
open Go Go.RowKit
section
variable {X : Prop} {Next : Act → World → Prop} {o : Oper} {a : Act} {w w0 : World} {N : Nat} {l : List (Nat × Value)} {d : Nat}
theorem pairs_equal (w : World) (a b c e : Int) : (Op.equalIn 10000 73 (.agg #[.int .i64 a, .int .i64 b]) (.agg #[.int .i64 c, .int .i64 e])).run Tryd.prog w = .ok (decide (a = c) && decide (b = e)) w := by
 have hsz : Tryd.prog.cellsOf 3 = 1 := by kernel_rfl
 have hi : ∃ i, Tryd.prog.info? 3 = some i := by
  cases h : Tryd.prog.info? 3 with
  | none => exact absurd (show (Tryd.prog.info? 3).isSome = true by kernel_rfl) (by rw [h]; simp)
  | some i => exact ⟨i, rfl⟩
 obtain ⟨i, hi⟩ := hi
 have hg : ∀ w, (isAgg 3).run Tryd.prog w = .ok false w := fun w => run_isAgg Tryd.underlying3 w
 have e1 : ∀ w x y, (Op.equalIn 9999 3 (.int .i64 x) (.int .i64 y)).run Tryd.prog w = .ok (x == y) w := fun w x y => run_equalIn_int w 9998 _ _ _ _ _ Tryd.underlying3
 rw [run_equalIn_array w 9999 _ _ Tryd.underlying73 hi, hsz]
 simp only [show List.range 2 = [0, 1] from rfl, Op.eqItems, part, Sem.run_bind, hg, Result.andThen_ok, Bool.false_eq_true, if_false, List.getElem?_toArray, List.getElem?_cons_zero, List.getElem?_cons_succ, Sem.run_pure, e1, Nat.zero_mul, Nat.one_mul]
 by_cases q1 : a = c <;> by_cases q2 : b = e <;> simp [q1, q2, e1]
theorem guard_pairs (op : BinOp) (x y : Operand) (xs ys : Array Value) : (eqGuard op 73 x y (.agg xs) (.agg ys)).run Tryd.prog w = .ok () w :=
 run_eqGuard_agg w op _ x y _ _ (by kernel_rfl)
theorem r_eqlP {x y : Operand} {u : TypeId} {p q r s : Int} (hs : SteV Tryd.prog X Next o a w) (hR : Reg a N l) (hd : o.dst = some d) (ho : o.op = .binOp .eql 73 x y u) (hx : ev l x = some (.agg #[.int .i64 p, .int .i64 q])) (hy : ev l y = some (.agg #[.int .i64 r, .int .i64 s])) (hdN : d < N)
  (k : ∀ a', Reg a' N ((d, .bool (decide (p = r) && decide (q = s))) :: l) → Next a' w) : X := by
 refine r_pure hs hR hd hdN ?_ k
 unfold execOp
 rw [ho]
 simp only [hR.ev hx, hR.ev hy, Sem.run_bind, guard_pairs, Result.andThen_ok, run_eql_struct, pairs_equal, Sem.run_pure]
end
end
end Go.Proofs.YtpfmnpaifchleaaDoor
namespace Go.Proofs.YtpfmnpaifchleaaDoor
open Go Go.RowKit
set_option linter.unusedSimpArgs false
set_option linter.unusedVariables false
set_option maxRecDepth 100000
set_option maxHeartbeats 1000000
theorem uroot_calls (w0 : World) (Z : Nat → Prop) (hZ : ∀ k, Z k → k < w0.heap.size) (tA : Option Addr) (tc : Nat) (t : List Nd) (ht : (dRow 4 tA t.length tc (encNs t)).φ w0 Z) (hl : t.length ≤ 1000000 := by first | assumption | omega | (simp <;> omega)) (h0 : 0 < t.length := by first | assumption | omega | (simp <;> omega)) :
    Calls Tryd.prog 20 [.slice tA t.length tc].toArray w0 (fun e w' => e = .returned (.agg #[.int .i64 (((nth t (t.length - 1)).K)), .int .i64 (((nth t (t.length - 1)).N)), .int .i64 (((nth t (t.length - 1)).M)), .string ((nth t (t.length - 1)).S)]) ∧ Fr none_ w0 w') := by
 have b0 := s0 (M := none_) hZ (zc ht zn)
 refine c_enter Tryd.func20 rfl Tryd.ntmps20 rfl fun c0 d0 => ?_
 refine wsc fun c0 f0 => alc d0 b0 fun c0 i0 j0 k0 m0 => ?_
 refine wn f0 <| wsc fun f0 j0 => lR k0 fun f0 i0 => ?_
 refine sbi (((t.length : Nat) : Int) - 1) i0 fun f0 k0 => ?_
 refine ix ((t.length) - (1)) (((t.length) - (1)) * 4) k0 (nds_elem (t := t) (k := (t.length) - (1)) (m0.row (i := 0) rfl).2 (by omega)).some_ fun f0 i0 => ?_
 refine m_loadEN sv i0 rfl rfl rfl (nds_elem (t := t) (k := (t.length) - (1)) (m0.row (i := 0) rfl).2 (by omega)) Tryd.underlying39 rfl sz39 (by decide) fun f0 k0 => ?_
 refine sto 0 k0 m0 fun f0 i0 c0 d0 => ?_
 refine wn j0 <| wp_ret <| e_cell (i := 0) (vs := [.int .i64 (((nth t ((t.length) - (1))).K)), .int .i64 (((nth t ((t.length) - (1))).N)), .int .i64 (((nth t ((t.length) - (1))).M)), .string ((nth t ((t.length) - (1))).S)]) (.inl rfl) c0 d0 rfl rfl rfl rfl Tryd.underlying39 rfl sz39 ?_
 refine ⟨?_, d0.fr⟩
 exact cr rfl
theorem utarget_calls (w0 : World) (Z : Nat → Prop) (hZ : ∀ k, Z k → k < w0.heap.size) (n : Nd) (hr : right n = true := by first | assumption | omega | (simp <;> omega)) :
    Calls Tryd.prog 21 [.agg #[.int .i64 (n.K), .int .i64 (n.N), .int .i64 (n.M), .string n.S]].toArray w0 (fun e w' => e = .returned (.int .i64 (tgK n)) ∧ Fr none_ w0 w') := by
 have b0 := s0 (M := none_) hZ zn
 have hM9 := right_M hr
 refine c_enter Tryd.func21 rfl Tryd.ntmps21 rfl fun c0 d0 => ?_
 refine wsc fun c0 f0 => bxx d0 b0 fun c0 h0 i0 j0 k0 => ?_
 refine aw j0 f0 fun i0 h0 => ?_
 refine wp_seq_k fun f0 i0 => wsc fun f0 j0 => lR h0 fun f0 c0 => ?_
 refine wn j0 <| wp_block ?_
 refine wp_seq_k fun j0 f0 => wsc fun j0 h0 => lR c0 fun j0 d0 => ?_
 refine wn h0 ?_
 rcases Decidable.em ((n.K) = 5) with h0 | h0
 ·
  refine wct d0 (decide_eq_true h0) fun j0 => ?_
  refine wp_skip <| xn f0 <| wp_cond_true (j0.ev rfl) ?_
  refine wsc fun c0 b0 => aw j0 b0 fun c0 m0 => ?_
  refine wp_ret <| x_block_r <| x_then_r <| er1 m0 ?_
  refine ⟨?_, k0.fr⟩
  exact cr (ret_i (by (unfold tgK; (repeat' split) <;> omega)))
 refine wcf d0 (decide_eq_false h0) fun m0 => ?_
 refine wsc fun h0 d0 => lR m0 fun h0 b0 => ?_
 refine wn d0 ?_
 rcases Decidable.em ((n.K) = 8) with d0 | d0
 ·
  refine wct b0 (decide_eq_true d0) fun h0 => ?_
  refine wp_skip <| xn f0 <| wp_cond_true (h0.ev rfl) ?_
  refine wsc fun m0 c0 => aw h0 c0 fun m0 j0 => ?_
  refine wp_ret <| x_block_r <| x_then_r <| er1 j0 ?_
  refine ⟨?_, k0.fr⟩
  exact cr (ret_i (by (unfold tgK; (repeat' split) <;> omega)))
 refine wcf b0 (decide_eq_false d0) fun j0 => ?_
 refine c_region ?_
 refine lR j0 fun d0 b0 => ?_
 refine wn f0 ?_
 rcases Decidable.em ((n.K) = 9) with f0 | f0
 ·
  refine wct b0 (decide_eq_true f0) fun d0 => ?_
  refine wsc fun j0 c0 => aw d0 c0 fun j0 m0 => ?_
  refine wp_ret <| x_block_r <| x_then_r <| er1 m0 ?_
  refine ⟨?_, k0.fr⟩
  exact cr (ret_i (by (unfold tgK; (repeat' split) <;> omega)))
 refine wcf b0 (decide_eq_false f0) fun m0 => ?_
 refine wp_seq_k fun f0 b0 => wsc fun f0 c0 => lR m0 fun f0 j0 => ?_
 refine wn c0 ?_
 rcases Decidable.em ((n.K) = 13) with c0 | c0
 ·
  refine wct j0 (decide_eq_true c0) fun f0 => ?_
  refine wp_skip <| xn b0 <| wp_cond_true (f0.ev rfl) ?_
  refine wsc fun m0 d0 => aw f0 d0 fun m0 h0 => ?_
  refine wp_ret <| x_block_r <| x_then_r <| er1 h0 ?_
  refine ⟨?_, k0.fr⟩
  exact cr (ret_i (by (unfold tgK; (repeat' split) <;> omega)))
 refine wcf j0 (decide_eq_false c0) fun h0 => ?_
 refine c_region ?_
 refine lR h0 fun c0 j0 => ?_
 refine wn b0 ?_
 rcases Decidable.em ((n.K) = 24) with b0 | b0
 ·
  refine wct j0 (decide_eq_true b0) fun c0 => ?_
  refine wsc fun h0 d0 => aw c0 d0 fun h0 m0 => ?_
  refine wp_ret <| x_block_r <| x_then_r <| er1 m0 ?_
  refine ⟨?_, k0.fr⟩
  exact cr (ret_i (by (unfold tgK; (repeat' split) <;> omega)))
 refine wcf j0 (decide_eq_false b0) fun m0 => ?_
 refine wsc fun b0 j0 => lR m0 fun b0 d0 => ?_
 refine wn j0 ?_
 rcases Decidable.em ((n.K) = 27) with j0 | j0
 ·
  refine wct d0 (decide_eq_true j0) fun b0 => ?_
  refine wsc fun m0 h0 => lR b0 fun m0 c0 => ?_
  refine adi (n.M + 1) c0 fun m0 b0 => ?_
  refine aw b0 h0 fun m0 c0 => ?_
  refine wp_ret <| x_block_r <| x_then_r <| er1 c0 ?_
  refine ⟨?_, k0.fr⟩
  exact cr (ret_i (by (unfold tgK; (repeat' split) <;> omega)))
 refine wcf d0 (decide_eq_false j0) fun c0 => ?_
 refine wp_skip <| x_block_n <| xn i0 <| wsc fun i0 j0 => aw c0 j0 fun i0 d0 => ?_
 refine wp_ret <| er1 d0 ?_
 refine ⟨?_, k0.fr⟩
 exact cr (ret_i (by (unfold tgK; (repeat' split) <;> omega)))
theorem uTarget_calls (w0 : World) (Z : Nat → Prop) (hZ : ∀ k, Z k → k < w0.heap.size) (tA : Option Addr) (tc : Nat) (t : List Nd) (hShp : Shapes w0 Z) (ht : (dRow 4 tA t.length tc (encNs t)).φ w0 Z) (hsm : sml t := by first | assumption | omega | (simp <;> omega)) (hl : t.length ≤ 1000000 := by first | assumption | omega | (simp <;> omega)) :
    Calls Tryd.prog 12 [.slice tA t.length tc].toArray w0 (fun e w' => e = .returned (.int .i64 (tgA t)) ∧ Fr none_ w0 w') := by
 have b0 := s0 (M := none_) hZ (zc (d := dShapes) hShp (zc ht zn))
 refine c_enter Tryd.func12 rfl Tryd.ntmps12 rfl fun c0 d0 => ?_
 refine wsc fun c0 f0 => aw d0 f0 fun c0 h0 => ?_
 refine wp_seq_k fun f0 c0 => wsc fun f0 d0 => mv h0 fun f0 i0 => ?_
 have f0 := b0.nf
 refine kcl i0 ok27 (check_calls _ _ f0.il _ _ _ (f0.g 0) (f0.g 1)) ?_
 rintro i0 b0 ⟨rfl, h0⟩
 have b0 := f0.below h0.below
 refine ⟨_, rfl, fun h0 f0 => ?_⟩
 refine lR f0 fun h0 i0 => ?_
 refine wn d0 ?_
 rcases Decidable.em (((chk t)) = 0) with d0 | d0
 ·
  have hpt := chk_pos d0
  have hrt := right_at (meas_chk d0) (show t.length - 1 < t.length by omega)
  refine wcfb i0 rfl (by rw [(decide_eq_true d0)]; rfl) fun h0 => ?_
  refine wp_skip <| xn c0 <| wsc fun c0 f0 => mv h0 fun c0 j0 => ?_
  have c0 := b0.nf
  refine kcl j0 ok20 (uroot_calls _ _ c0.il _ _ _ (c0.g 1)) ?_
  rintro j0 h0 ⟨rfl, k0⟩
  have h0 := c0.below k0.below
  refine ⟨_, rfl, fun k0 c0 => ?_⟩
  have k0 := h0.nf
  refine kcl c0 ok21 (utarget_calls _ _ k0.il (nth t (t.length - 1))) ?_
  rintro c0 h0 ⟨rfl, j0⟩
  have h0 := k0.below j0.below
  refine ⟨_, rfl, fun j0 k0 => ?_⟩
  refine aw k0 f0 fun j0 c0 => ?_
  refine wp_ret <| er1 c0 ?_
  refine ⟨?_, h0.fr⟩
  exact cr (ret_i (by (unfold tgA; first | (rw [if_neg (by assumption)]; done) | (rw [if_pos (by assumption)]; done))))
 refine wctb i0 rfl (by rw [(decide_eq_false d0)]; rfl) fun h0 => ?_
 refine wsc fun d0 i0 => aw h0 i0 fun d0 c0 => ?_
 refine wp_ret <| x_then_r <| er1 c0 ?_
 refine ⟨?_, b0.fr⟩
 exact cr (ret_i (by (unfold tgA; first | (rw [if_neg (by assumption)]; done) | (rw [if_pos (by assumption)]; done))))
theorem equalN_calls (w0 : World) (Z : Nat → Prop) (hZ : ∀ k, Z k → k < w0.heap.size) (tA : Option Addr) (tc : Nat) (t : List Nd) (uA : Option Addr) (uc : Nat) (u : List Nd) (ht : (dRow 4 tA t.length tc (encNs t)).φ w0 Z) (hu : (dRow 4 uA u.length uc (encNs u)).φ w0 Z) (hl : t.length ≤ 1000000 := by first | assumption | omega | (simp <;> omega)) (hl2 : u.length ≤ 1000000 := by first | assumption | omega | (simp <;> omega)) :
    Calls Tryd.prog 29 [.slice tA t.length tc, .slice uA u.length uc].toArray w0 (fun e w' => e = .returned (.bool (decide (t = u))) ∧ Fr none_ w0 w') := by
 have b0 := s0 (M := none_) hZ (zc ht (zc hu zn))
 refine c_enter Tryd.func29 rfl Tryd.ntmps29 rfl fun c0 d0 => ?_
 refine wsc fun c0 f0 => aw d0 f0 fun c0 h0 => ?_
 refine wp_seq_k fun f0 c0 => wsc fun f0 d0 => lR h0 fun f0 i0 => ?_
 refine wn d0 ?_
 rcases Decidable.em (((t.length : Nat) : Int) = ((u.length : Nat) : Int)) with d0 | d0
 ·
  refine wcfb i0 rfl (by rw [(decide_eq_true d0)]; rfl) fun f0 => ?_
  refine wp_skip <| xn c0 <| wp_seq_k fun c0 h0 => wsc fun c0 j0 => lR f0 fun c0 k0 => ?_
  refine wn j0 <| wp_block ?_
  refine wp_loop_ghost (fun gn ga gw => ∃ k : Nat, (Reg ga 26 [(1000000, .bool false), (0, .slice tA t.length tc), (1, .slice uA u.length uc), (12, .int .i64 ((t.length : Nat) : Int)), (13, .int .i64 ((k : Nat) : Int))]) ∧ (St w0 Z none_ gw [] [dRow 4 tA t.length tc (encNs t), dRow 4 uA u.length uc (encNs u)]) ∧ (k ≤ t.length) ∧ (t.take k = u.take k) ∧ (t.length - k) = gn) _ ⟨0, (k0.sub (rc4 (rc rfl rnl))), b0, by omega, rfl, rfl⟩ ?_
  rintro k0 j0 c0 ⟨k, f0, m0, hk, hi, n0⟩
  refine wsc fun n0 c0 => lR f0 fun n0 j0 => ?_
  refine wn c0 <| wp_seq_k fun c0 n0 => ?_
  rcases Decidable.em (((k : Nat) : Int) < ((t.length : Nat) : Int)) with c0 | c0
  ·
   refine wct j0 (decide_eq_true c0) fun f0 => ?_
   refine wp_skip <| xn n0 <| wp_seq_k fun n0 k0 => wp_block ?_
   refine wsc fun n0 o0 => lR f0 fun n0 p0 => ?_
   refine wn o0 <| wp_seq_k fun o0 n0 => ?_
   obtain ⟨o0, f0, q0⟩ := m0.agree
   refine d_reg3 (n := 9) q0 2 pn (pan_then (pan_block (pan_then (pan_then (pan_block (pan_then pan_body)))))) fun o0 t0 u0 v0 x0 y0 => ?_
   refine dR [0, 1] p0 fun v0 o0 => ?_
   refine dix 2 k (k * 4) o0 (fun x hx => (nds_elem (t := t) (k := k) (sdat (f0 0 _ rfl) hx.ag).2 (by omega)).some_) fun v0 p0 => ?_
   refine dt 3 rfl t0 p0 (want_n rfl) (fun x hx => m_loadEN (sy p0) p0 rfl rfl rfl (nds_elem (t := t) (k := k) (sdat (f0 0 _ rfl) hx.ag).2 (by omega)) Tryd.underlying39 rfl sz39 (by decide) gt) y0 fun v0 o0 => ?_
   refine dR [4, 5] o0 fun v0 p0 => ?_
   refine dix 6 k (k * 4) p0 (fun x hx => (nds_elem (t := u) (k := k) (sdat (f0 1 _ rfl) hx.ag).2 (by omega)).some_) fun v0 o0 => ?_
   refine dt 7 rfl t0 o0 (want_n rfl) (fun x hx => m_loadEN (sy o0) o0 rfl rfl rfl (nds_elem (t := u) (k := k) (sdat (f0 1 _ rfl) hx.ag).2 (by omega)) Tryd.underlying39 rfl sz39 (by decide) gt) y0 fun v0 p0 => ?_
   refine dt 8 rfl t0 p0 (want_n rfl) (fun x hx => r_neqN (m := (nth t k)) (n := (nth u k)) (sy p0) p0 rfl rfl rfl rfl (by decide) gt) y0 fun v0 o0 => ?_
   refine wpAnyH_done (by kernel_rfl) (u0 _ _ ?_) _
   refine xn n0 ?_
   rcases Decidable.em ((nth t k) = (nth u k)) with n0 | n0
   ·
    refine wcfb o0 rfl (by rw [(decide_eq_true n0)]; rfl) fun u0 => ?_
    refine wp_skip <| x_block_n <| xn k0 <| c_region ?_
    refine adi ((k + 1 : Nat) : Int) u0 fun k0 v0 => ?_
    refine mv v0 fun k0 u0 => ?_
    refine wpList_nil ?_
    have k0 := x0.forget 2
    exact ⟨_, by omega, k + 1, (u0.sub (rc4 (rc rfl rnl))), k0, by omega, same_step hi (by omega) (by omega) (by assumption), rfl⟩
   refine wctb o0 rfl (by rw [(decide_eq_false n0)]; rfl) fun k0 => ?_
   refine wsc fun n0 o0 => aw k0 o0 fun n0 u0 => ?_
   refine wp_ret <| x_block_r <| x_then_r <| x_then_r <| x_block_r <| x_then_r <| er1 u0 ?_
   refine ⟨?_, x0.fr⟩
   exact cr (ret_b (by exact (same_no (k := k) (by omega) (by omega) (by assumption)).symm))
  refine wcf j0 (decide_eq_false c0) fun x0 => ?_
  refine wp_exit ?_
  refine x_then_e ?_
  refine x_then_e ?_
  refine x_block_eq ?_
  refine xn h0 <| wsc fun h0 c0 => aw x0 c0 fun h0 j0 => ?_
  refine wp_ret <| er1 j0 ?_
  refine ⟨?_, m0.fr⟩
  exact cr (ret_b (by exact (same_end hi (by omega) (by omega)).symm))
 refine wctb i0 rfl (by rw [(decide_eq_false d0)]; rfl) fun m0 => ?_
 refine wsc fun d0 i0 => aw m0 i0 fun d0 j0 => ?_
 refine wp_ret <| x_then_r <| er1 j0 ?_
 refine ⟨?_, b0.fr⟩
 exact cr (ret_b (by exact (same_len (by omega)).symm))
theorem ukind_calls (w0 : World) (Z : Nat → Prop) (hZ : ∀ k, Z k → k < w0.heap.size) (s : ByteArray) (tA : Option Addr) (tc : Nat) (t : List Nd) (hShp : Shapes w0 Z) (ht : (dRow 4 tA t.length tc (encNs t)).φ w0 Z) (hsm : sml t := by first | assumption | omega | (simp <;> omega)) (hl : t.length ≤ 1000000 := by first | assumption | omega | (simp <;> omega)) :
    Calls Tryd.prog 14 [.string s, .slice tA t.length tc].toArray w0 (fun e w' => e = .returned (.int .i64 (kdA s t)) ∧ Fr none_ w0 w') := by
 have b0 := s0 (M := none_) hZ (zc (d := dShapes) hShp (zc ht zn))
 refine c_enter Tryd.func14 rfl Tryd.ntmps14 rfl fun c0 d0 => ?_
 refine wsc fun c0 f0 => aw d0 f0 fun c0 h0 => ?_
 refine wp_seq_k fun f0 c0 => wsc fun f0 d0 => mv h0 fun f0 i0 => ?_
 have f0 := b0.nf
 refine kcl i0 ok27 (check_calls _ _ f0.il _ _ _ (f0.g 0) (f0.g 1)) ?_
 rintro i0 b0 ⟨rfl, h0⟩
 have b0 := f0.below h0.below
 refine ⟨_, rfl, fun h0 f0 => ?_⟩
 refine lR f0 fun h0 i0 => ?_
 refine wn d0 ?_
 rcases Decidable.em (((chk t)) = 0) with d0 | d0
 ·
  have hct := d0
  have hpt := chk_pos hct
  have hrt := right_at (meas_chk hct) (show t.length - 1 < t.length by omega)
  refine wcfb i0 rfl (by rw [(decide_eq_true d0)]; rfl) fun h0 => ?_
  refine wp_skip <| xn c0 <| wsc fun c0 f0 => mv h0 fun c0 j0 => ?_
  refine bld j0 fun c0 h0 => ?_
  refine bsl h0 b0 fun c0 j0 k0 m0 n0 => ?_
  refine aw m0 f0 fun j0 c0 => ?_
  refine wp_seq_k fun f0 j0 => wsc fun f0 m0 => lR c0 fun f0 h0 => ?_
  have f0 := n0.nf
  have n0 := f0.pub 0 (dRow 4 (some ⟨k0, 0, none⟩) 1 1 (encNs ([(⟨25, 0, 0, s⟩ : Nd)])))
  refine kcl h0 ok29 (equalN_calls _ _ n0.il _ _ _ _ _ ([(⟨25, 0, 0, s⟩ : Nd)]) (n0.g 1) (n0.g 2)) ?_
  rintro h0 f0 ⟨rfl, k0⟩
  have f0 := n0.below k0.below
  refine ⟨_, rfl, fun k0 n0 => ?_⟩
  refine wn m0 ?_
  rcases Bool.eq_false_or_eq_true (decide (t = ([(⟨25, 0, 0, s⟩ : Nd)]))) with m0 | m0
  ·
   have k0 := of_decide_eq_true m0
   refine wct n0 m0 fun h0 => ?_
   refine wsc fun c0 o0 => aw h0 o0 fun c0 p0 => ?_
   refine wp_ret <| x_then_r <| er1 p0 ?_
   refine ⟨?_, f0.fr⟩
   exact cr (ret_i (by (unfold kdA ownL; first | (rw [if_neg (by assumption)]; done) | (simp only [d0, m0, k0, if_true, if_false, not_true_eq_false, not_false_eq_true, lsts_nth]; done) | (simp [d0, m0, k0, lsts_nth]; done) | (simp_all [lsts_nth]; done))))
  have k0 := of_decide_eq_false m0
  refine wcf n0 m0 fun p0 => ?_
  refine wp_skip <| xn j0 <| wp_seq_k fun j0 n0 => wsc fun j0 o0 => mv p0 fun j0 c0 => ?_
  have j0 := f0.nf
  refine kcl c0 ok20 (uroot_calls _ _ j0.il _ _ _ (j0.g 1)) ?_
  rintro c0 f0 ⟨rfl, p0⟩
  have f0 := j0.below p0.below
  refine ⟨_, rfl, fun p0 j0 => ?_⟩
  refine m_fieldV (v := .int .i64 (((nth t (t.length - 1)).K))) sv j0 rfl rfl rfl (fun _ => by kernel_rfl) (by decide) fun p0 c0 => ?_
  refine lR c0 fun p0 j0 => ?_
  refine wn o0 ?_
  rcases Decidable.em ((((nth t (t.length - 1)).K)) = 3) with o0 | o0
  ·
   have hm2 := many_3 o0
   refine wct j0 (decide_eq_true o0) fun p0 => ?_
   refine wsc fun c0 h0 => mv p0 fun c0 q0 => ?_
   have c0 := f0.nf
   refine kcl q0 ok19 (args_calls _ _ c0.il _ _ _ (c0.g 0) (c0.g 1)) ?_
   rintro q0 p0 ⟨t0, u0, v0, rfl, x0, y0, z0, b1⟩
   have u0 := c0.below x0.below
   have x0 := c0.dN u0 y0
   have u0 := c0.dN x0 z0
   refine ⟨_, rfl, fun x0 z0 => ?_⟩
   have hgl : v0.length = many (nth t (t.length - 1)) := by rw [← lsts_len, b1, agA_ok hct, ptL_length (meas_chk hct)]
   obtain ⟨hg1, hg2⟩ := ag_nth hct b1 hsm (show 1 < many (nth t (t.length - 1)) by omega)
   refine lR z0 fun x0 c0 => ?_
   refine wn h0 <| wsc fun h0 x0 => mv c0 fun h0 z0 => ?_
   refine ix 1 (1 * 1) z0 (ss_elem (t := v0) (k := 1) (u0.row (i := 3) rfl).2 (by omega)).some_ fun h0 c0 => ?_
   refine lde 0 (1 * 1) c0 (ss_elem (t := v0) (k := 1) (u0.row (i := 3) rfl).2 (by omega)) fun h0 z0 => ?_
   have h0 := u0.el 4 1
   refine mv z0 fun u0 c0 => ?_
   have u0 := h0.nf
   refine kcl c0 ok29 (equalN_calls _ _ u0.il _ _ ((nthS v0 1).2.2) _ _ ([(⟨25, 0, 0, s⟩ : Nd)]) (u0.g 5) (u0.g 2)) ?_
   rintro c0 h0 ⟨rfl, z0⟩
   have h0 := u0.below z0.below
   refine ⟨_, rfl, fun z0 u0 => ?_⟩
   refine wn x0 ?_
   rcases Bool.eq_false_or_eq_true (decide (((nthS v0 1).2.2) = ([(⟨25, 0, 0, s⟩ : Nd)]))) with x0 | x0
   ·
    have v0 := of_decide_eq_true x0
    refine wct u0 x0 fun z0 => ?_
    refine wsc fun c0 y0 => aw z0 y0 fun c0 t0 => ?_
    refine wp_ret <| x_then_r <| er1 t0 ?_
    refine ⟨?_, h0.fr⟩
    exact cr (ret_i (by (unfold kdA ownL; first | (rw [if_neg (by assumption)]; done) | (simp only [d0, m0, k0, o0, x0, v0, b1, if_true, if_false, not_true_eq_false, not_false_eq_true, lsts_nth]; done) | (simp [d0, m0, k0, o0, x0, v0, b1, lsts_nth]; done) | (simp_all [lsts_nth]; done))))
   have v0 := of_decide_eq_false x0
   refine wcf u0 x0 fun t0 => ?_
   refine wp_skip <| xn n0 <| wsc fun u0 y0 => aw t0 y0 fun u0 c0 => ?_
   refine wp_ret <| er1 c0 ?_
   refine ⟨?_, h0.fr⟩
   exact cr (ret_i (by (unfold kdA ownL; first | (rw [if_neg (by assumption)]; done) | (simp only [d0, m0, k0, o0, x0, v0, b1, if_true, if_false, not_true_eq_false, not_false_eq_true, lsts_nth]; done) | (simp [d0, m0, k0, o0, x0, v0, b1, lsts_nth]; done) | (simp_all [lsts_nth]; done))))
  refine wcf j0 (decide_eq_false o0) fun v0 => ?_
  refine wp_skip <| xn n0 <| wsc fun n0 j0 => aw v0 j0 fun n0 x0 => ?_
  refine wp_ret <| er1 x0 ?_
  refine ⟨?_, f0.fr⟩
  exact cr (ret_i (by (unfold kdA ownL; first | (rw [if_neg (by assumption)]; done) | (simp only [d0, m0, k0, o0, if_true, if_false, not_true_eq_false, not_false_eq_true, lsts_nth]; done) | (simp [d0, m0, k0, o0, lsts_nth]; done) | (simp_all [lsts_nth]; done))))
 refine wctb i0 rfl (by rw [(decide_eq_false d0)]; rfl) fun o0 => ?_
 refine wsc fun i0 k0 => aw o0 k0 fun i0 m0 => ?_
 refine wp_ret <| x_then_r <| er1 m0 ?_
 refine ⟨?_, b0.fr⟩
 exact cr (ret_i (by (unfold kdA ownL; first | (rw [if_neg (by assumption)]; done) | (simp only [d0, if_true, if_false, not_true_eq_false, not_false_eq_true, lsts_nth]; done) | (simp [d0, lsts_nth]; done) | (simp_all [lsts_nth]; done))))
theorem nodesMk_calls (w0 : World) (Z : Nat → Prop) (hZ : ∀ k, Z k → k < w0.heap.size) (tA : Option Addr) (tc : Nat) (t : List Nd) (ht : (dRow 4 tA t.length tc (encNs t)).φ w0 Z) (hl : t.length ≤ 1000000 := by first | assumption | omega | (simp <;> omega)) :
    Calls Tryd.prog 96 [.slice tA t.length tc].toArray w0 (fun e w' => ∃ q0_0 : Nat, e = .returned (.func (.func 102) #[] #[.pointer (some ⟨q0_0, 0, none⟩)]) ∧ Fr none_ w0 w' ∧ (dBox q0_0 [.slice tA t.length tc]).φ w' (nxt Z w0 w')) := by
 have b0 := s0 (M := none_) hZ (zc ht zn)
 refine c_enter Tryd.func96 rfl Tryd.ntmps96 rfl fun c0 d0 => ?_
 refine wsc fun c0 f0 => bxx d0 b0 fun c0 h0 i0 j0 k0 => ?_
 refine aw j0 f0 fun h0 c0 => ?_
 refine wsc fun f0 h0 => r_makeFunc sv c0 rfl rfl rfl (by decide) fun f0 j0 => ?_
 refine aw j0 h0 fun f0 c0 => ?_
 refine wp_ret <| er1 c0 ?_
 obtain ⟨c0, h0⟩ := k0.box_data (i := 0) rfl (fun _ h => h)
 have k0 := c0.data (dBox i0 [.slice tA t.length tc]) h0
 refine ⟨i0, ?_, k0.fr, ((k0.get (i := 1) rfl).imp imm_nxt id)⟩
 exact cr rfl
theorem nodes_yields (w0 : World) (Z : Nat → Prop) (tg : Nat) (tA : Option Addr) (tc : Nat) (t : List Nd) (hShp : Shapes w0 Z) (ht : (dRow 4 tA t.length tc (encNs t)).φ w0 Z) (htb : (dBox tg [.slice tA t.length tc]).φ w0 Z) (hl : t.length ≤ 1000000) (hsm : sml t) (hc : chk t = 0) :
    Yields Tryd.prog 102 [.pointer (some ⟨tg, 0, none⟩)].toArray (fun x : Int × Int => #[.int .i64 x.1, .int .i64 x.2]) (nodesL t) Z w0 := by
 refine yields_of Tryd.func102 rfl Tryd.ntmps102 rfl [dShapes, dRow 4 tA t.length tc (encNs t), dBox tg [.slice tA t.length tc]] (by
  intro d hd
  simp only [List.mem_cons, List.not_mem_nil, or_false] at hd
  rcases hd with rfl | rfl | rfl
  · exact hShp
  · exact ht
  · exact htb
  ) (fun lp jf jx w0 C0 M0 hY hds b0 c0 d0 => ?_)
 refine wsc fun b0 f0 => bsl c0 d0 fun b0 h0 i0 j0 k0 => ?_
 refine aw j0 f0 fun h0 b0 => ?_
 refine wsc fun f0 h0 => m_loadC sv b0 rfl rfl rfl (dbox_cell (k0.get (i := 3) rfl) rfl) Tryd.underlying22 rfl (by decide) fun f0 j0 => ?_
 refine lR j0 fun f0 b0 => ?_
 refine sbi (((t.length : Nat) : Int) - 1) b0 fun f0 j0 => ?_
 refine aw j0 h0 fun f0 b0 => ?_
 refine wp_block ?_
 refine wp_loop_ghost (fun gn ga gw => ∃ k : Nat, ∃ Ts : List T, ∃ us : List Int, ∃ Ao : Option Addr, ∃ co : Nat, (Reg ga 55 [(1000000, .bool false), (0, .func (.yield lp) #[] #[]), (1, .pointer (some ⟨tg, 0, none⟩)), (4, .int .i64 (((t.length : Nat) : Int) - ((k : Nat) : Int) - 1)), (3, .slice Ao ((us).length) co)]) ∧ (St w0 (oldB w0) M0 gw [.row Ao ((us).length) co 3 1 (encIs us)] [dJ jf ((nodesL t).take k) C0 M0 w0.heap.size, dShapes, dRow 4 tA t.length tc (encNs t), dBox tg [.slice tA t.length tc]]) ∧ (k ≤ t.length) ∧ (VInv t k Ts us) ∧ (t.length - k) = gn) _ ⟨0, [treeOf t], [0], (some ⟨i0, 0, none⟩), 1, (b0.sub (rc4 (rc rfl rnl))), k0, by omega, VInv.zero hc, rfl⟩ ?_
 rintro b0 k0 i0 ⟨k, Ts, us, Ao, co, h0, f0, hk, hv, j0⟩
 refine wp_seq_k fun j0 i0 => wsc fun j0 k0 => lR h0 fun j0 b0 => ?_
 refine wn k0 ?_
 rcases Decidable.em (0 ≤ (((t.length : Nat) : Int) - ((k : Nat) : Int) - 1)) with k0 | k0
 ·
  obtain ⟨hvr, hu0, hul, hub, hpre, Ts', hv'⟩ := hv.step (by omega)
  refine wct b0 (decide_eq_true k0) fun j0 => ?_
  refine wp_skip <| xn i0 <| wp_seq_k fun i0 h0 => wp_block ?_
  refine wsc fun i0 d0 => lR j0 fun i0 c0 => ?_
  refine sbi ((((us).length : Nat) : Int) - 1) c0 fun i0 j0 => ?_
  refine ix (((us).length) - (1)) ((((us).length) - (1)) * 1) j0 (own_ints (t := us) (k := ((us).length) - (1)) (f0.res (i := 0) rfl) (by omega)).some_ fun i0 c0 => ?_
  refine lde 0 ((((us).length) - (1)) * 1) c0 (own_ints (t := us) (k := ((us).length) - (1)) (f0.res (i := 0) rfl) (by omega)) fun i0 j0 => ?_
  refine aw j0 d0 fun i0 c0 => ?_
  refine wsc fun d0 i0 => lR c0 fun d0 j0 => ?_
  refine sbi ((((us).length : Nat) : Int) - 1) j0 fun d0 c0 => ?_
  have d0 := own_cap (f0.res (i := 0) rfl)
  refine m_sliceP (q := ((us).length) - (1)) sv c0 rfl rfl rfl rfl (by omega) Tryd.underlying82 sz3 (by omega) (by decide) fun d0 j0 => ?_
  refine aw j0 i0 fun d0 c0 => ?_
  refine wp_seq_k fun i0 d0 => wp_seq_k fun i0 j0 => cy_region ?_
  refine r_move (st_listInV rfl rfl) c0 rfl rfl rfl (by decide) fun i0 m0 => ?_
  refine r_move (st_listInV rfl rfl) m0 rfl rfl rfl (by decide) fun i0 c0 => ?_
  refine r_move (st_listInV rfl rfl) c0 rfl rfl rfl (by decide) fun i0 m0 => ?_
  have i0 := f0.nf
  refine y_call (t := .tmp 29) (xs := [.tmp 30, .tmp 31]) (pre := (nodesL t).take k) (i := 0) (ds0 := [dShapes, dRow 4 tA t.length tc (encNs t), dBox tg [.slice tA t.length tc]]) hY rfl m0 i0 rfl rfl rfl rfl (by decide) ((((((t.length : Nat) : Int) - ((k : Nat) : Int) - 1), ((nthI us (((us).length) - (1))))) : Int × Int)) rfl rfl (hpre.symm ▸ List.take_prefix _ _) hds (fun c0 n0 o0 p0 => ?_) fun c0 n0 o0 p0 => ?_
  ·
   refine r_not (st_listInV rfl rfl) o0 rfl rfl rfl (by decide) fun n0 c0 => ?_
   refine li_nil ?_
   refine xn j0 <| wp_cond_false (c0.ev rfl) ?_
   refine wp_skip <| xn d0 <| wsc fun d0 n0 => m_loadC sv c0 rfl rfl rfl (dbox_cell (p0.get (i := 3) rfl) rfl) Tryd.underlying22 rfl (by decide) fun d0 i0 => ?_
   refine mv i0 fun d0 c0 => ?_
   refine ix ((t.length) - (k + 1)) (((t.length) - (k + 1)) * 4) c0 (nds_elem (t := t) (k := (t.length) - (k + 1)) (p0.row (i := 2) rfl).2 (by omega)).some_ fun d0 i0 => ?_
   refine m_loadEN sv i0 rfl rfl rfl (nds_elem (t := t) (k := (t.length) - (k + 1)) (p0.row (i := 2) rfl).2 (by omega)) Tryd.underlying39 rfl sz39 (by decide) fun d0 c0 => ?_
   have d0 := p0.nf
   refine kcl c0 ok94 (binds_calls _ _ d0.il (nth t ((t.length) - (k + 1))) (d0.g 1) (hs := (hsm _ (by omega)))) ?_
   rintro c0 i0 ⟨m0, q0, rfl, s0, t0⟩
   have i0 := d0.below s0.below
   have s0 := d0.dN i0 t0
   refine ⟨_, rfl, fun i0 t0 => ?_⟩
   refine lR t0 fun i0 d0 => ?_
   refine wn n0 <| wsc fun n0 i0 => lR d0 fun n0 t0 => ?_
   refine wn i0 <| wp_block ?_
   have i0 := s0.trim encI_len (i := 0) (L := us) rfl (us.length - 1) (by omega)
   have s0 : (us).take (us.length - 1) = us.take (us.length - 1) ++ ((bindsR (nth t (t.length - (k + 1)))).take 0).map (nthI us (us.length - 1) + ·) := by simp
   have n0 := i0
   simp only [List.set_cons_zero, List.set_cons_succ, List.set_nil] at n0
   rw [s0] at n0
   refine wp_loop_ghost (fun gn ga gw => ∃ j : Nat, ∃ Al : Option Addr, ∃ cl : Nat, (Reg ga 55 [(1000000, .bool false), (0, .func (.yield lp) #[] #[]), (1, .pointer (some ⟨tg, 0, none⟩)), (4, .int .i64 (((t.length : Nat) : Int) - ((k : Nat) : Int) - 1)), (5, .int .i64 ((nthI us (((us).length) - (1))))), (42, .slice m0 ((bindsR (nth t ((t.length) - (k + 1)))).length) q0), (43, .int .i64 (((bindsR (nth t ((t.length) - (k + 1)))).length : Nat) : Int)), (44, .int .i64 ((j : Nat) : Int)), (3, .slice Al ((us.take (us.length - 1) ++ ((bindsR (nth t (t.length - (k + 1)))).take j).map (nthI us (us.length - 1) + ·)).length) cl)]) ∧ (St w0 (oldB w0) M0 gw [.row Al ((us.take (us.length - 1) ++ ((bindsR (nth t (t.length - (k + 1)))).take j).map (nthI us (us.length - 1) + ·)).length) cl 3 1 (encIs (us.take (us.length - 1) ++ ((bindsR (nth t (t.length - (k + 1)))).take j).map (nthI us (us.length - 1) + ·)))] [dJ jf ((nodesL t).take k ++ [((((((t.length : Nat) : Int) - ((k : Nat) : Int) - 1), ((nthI us (((us).length) - (1))))) : Int × Int))]) C0 M0 w0.heap.size, dShapes, dRow 4 tA t.length tc (encNs t), dBox tg [.slice tA t.length tc], dRow 1 m0 ((bindsR (nth t ((t.length) - (k + 1)))).length) q0 (encIs (bindsR (nth t ((t.length) - (k + 1)))))]) ∧ (j ≤ (bindsR (nth t (t.length - (k + 1)))).length) ∧ ((bindsR (nth t (t.length - (k + 1)))).length - j) = gn) _ ⟨0, Ao, co, (t0.sub (rc4 (rc4 (rc (rs rfl (by simp)) rnl)))), n0, by omega, rfl⟩ ?_
   rintro n0 t0 q0 ⟨j, Al, cl, m0, s0, hj, i0⟩
   have hbl := bindsR_le (nth t (t.length - (k + 1)))
   have hbj := bindsR_nth (n := nth t (t.length - (k + 1))) j
   have hjl : (us.take (us.length - 1) ++ ((bindsR (nth t (t.length - (k + 1)))).take j).map (nthI us (us.length - 1) + ·)).length ≤ t.length + 8 := by have := bindsR_le (nth t (t.length - (k + 1))); rw [List.length_append, List.length_take, List.length_map, List.length_take]; omega
   refine wsc fun i0 q0 => lR m0 fun i0 t0 => ?_
   refine wn q0 <| wp_seq_k fun q0 i0 => ?_
   rcases Decidable.em (((j : Nat) : Int) < (((bindsR (nth t ((t.length) - (k + 1)))).length : Nat) : Int)) with q0 | q0
   ·
    refine wct t0 (decide_eq_true q0) fun m0 => ?_
    refine wp_skip <| xn i0 <| wp_seq_k fun i0 n0 => wp_block ?_
    refine wsc fun i0 d0 => ix j (j * 1) m0 (ints_elem (t := bindsR (nth t ((t.length) - (k + 1)))) (k := j) (s0.row (i := 4) rfl).2 (by omega)).some_ fun i0 c0 => ?_
    refine lde 0 (j * 1) c0 (ints_elem (t := bindsR (nth t ((t.length) - (k + 1)))) (k := j) (s0.row (i := 4) rfl).2 (by omega)) fun i0 m0 => ?_
    refine asg m0 fun i0 c0 => ?_
    refine wpList_nil (x_then_n (d0 _ _ (c_region ?_)))
    refine lR c0 fun d0 i0 => ?_
    refine adi ((nthI us (((us).length) - (1))) + (nthI (bindsR (nth t ((t.length) - (k + 1)))) j)) i0 fun d0 c0 => ?_
    refine bsl c0 s0 fun d0 i0 m0 u0 v0 => ?_
    refine m_appendF (f := encI) (i := 0) (us.take (us.length - 1) ++ ((bindsR (nth t (t.length - (k + 1)))).take j).map (nthI us (us.length - 1) + ·)) ([((nthI us (((us).length) - (1))) + (nthI (bindsR (nth t ((t.length) - (k + 1)))) j))]) sv u0 v0 rfl rfl rfl rfl rfl encI_len (encI_one _) Tryd.underlying82 zi3 rfl rfl (own_lnews (f := encI) (v0.res (i := 1) rfl)) rfl (by (simp only [List.length_cons, List.length_nil]; omega)) (by decide) fun m0 i0 d0 c0 x0 y0 z0 => ?_
    have x0 : ((us.take (us.length - 1) ++ ((bindsR (nth t (t.length - (k + 1)))).take j).map (nthI us (us.length - 1) + ·)) ++ ([((nthI us (((us).length) - (1))) + (nthI (bindsR (nth t ((t.length) - (k + 1)))) j))]) : List Int).length = (us.take (us.length - 1) ++ ((bindsR (nth t (t.length - (k + 1)))).take j).map (nthI us (us.length - 1) + ·)).length + 1 := by (simp only [List.length_append, List.length_take, List.length_cons, List.length_nil]; done)
    have x0 := z0.erase 1
    refine asg y0 fun z0 i0 => ?_
    refine wpList_nil ?_
    refine x_block_n <| xn n0 <| c_region ?_
    refine adi ((j + 1 : Nat) : Int) i0 fun n0 z0 => ?_
    refine mv z0 fun n0 i0 => ?_
    refine wpList_nil ?_
    have n0 : (us.take (us.length - 1) ++ ((bindsR (nth t (t.length - (k + 1)))).take j).map (nthI us (us.length - 1) + ·)) ++ ([((nthI us (((us).length) - (1))) + (nthI (bindsR (nth t ((t.length) - (k + 1)))) j))]) = us.take (us.length - 1) ++ ((bindsR (nth t (t.length - (k + 1)))).take (j + 1)).map (nthI us (us.length - 1) + ·) := by rw [map_step (by omega), ← List.append_assoc]
    have z0 := i0
    have i0 := x0
    rw [n0] at z0 i0
    exact ⟨_, by omega, j + 1, d0, c0, (z0.sub (rc4 (rc4 (rc rfl rnl)))), i0, by omega, rfl⟩
   refine wcf t0 (decide_eq_false q0) fun i0 => ?_
   refine wp_exit ?_
   refine x_then_e ?_
   refine x_then_e ?_
   refine x_block_eq ?_
   refine x_block_n <| xn h0 <| c_region ?_
   refine mv i0 fun h0 q0 => ?_
   refine sbi (((t.length : Nat) : Int) - ((k : Nat) : Int) - 2) q0 fun h0 i0 => ?_
   refine asg i0 fun h0 q0 => ?_
   refine wpList_nil ?_
   have h0 : us.take (us.length - 1) ++ ((bindsR (nth t (t.length - (k + 1)))).take j).map (nthI us (us.length - 1) + ·) = us.take (us.length - 1) ++ (bindsR (nth t (t.length - (k + 1)))).map (nthI us (us.length - 1) + ·) := by rw [show j = (bindsR (nth t (t.length - (k + 1)))).length by omega, List.take_length]
   have i0 := q0
   have q0 := s0
   rw [h0] at i0 q0
   have h0 : (nodesL t).take k ++ [((((((t.length : Nat) : Int) - ((k : Nat) : Int) - 1), ((nthI us (((us).length) - (1))))) : Int × Int))] = (nodesL t).take (k + 1) := hpre
   have s0 := q0
   rw [h0] at s0
   have h0 := s0.forget 4
   exact ⟨_, by omega, k + 1, Ts', _, Al, cl, (i0.sub (rc2 (rc rfl (rc (ri rfl (by omega)) (rc rfl rnl))))), h0, by omega, hv', rfl⟩
  refine r_not (st_listInV rfl rfl) o0 rfl rfl rfl (by decide) fun h0 i0 => ?_
  refine li_nil ?_
  refine xn j0 <| wp_cond_true (i0.ev rfl) ?_
  refine wp_ret <| x_then_r <| x_block_r <| x_then_r <| x_then_r <| x_block_r <| e_ret0 i0 rfl rfl ?_
  exact it_stop p0 (i := 0) rfl (hpre.symm ▸ List.take_prefix _ _)
 refine wcf b0 (decide_eq_false k0) fun p0 => ?_
 refine wp_exit ?_
 refine x_then_e ?_
 refine x_then_e ?_
 refine x_block_eq ?_
 refine e_end0 p0 rfl rfl ?_
 exact it_all f0 (i := 0) rfl (hv.all (by omega))
theorem clamp_calls (w0 : World) (Z : Nat → Prop) (hZ : ∀ k, Z k → k < w0.heap.size) (n : Int)  :
    Calls Tryd.prog 95 [.int .i64 n].toArray w0 (fun e w' => e = .returned (.int .i64 (clamp n)) ∧ Fr none_ w0 w') := by
 have b0 := s0 (M := none_) hZ zn
 refine c_enter Tryd.func95 rfl Tryd.ntmps95 rfl fun c0 d0 => ?_
 refine wsc fun c0 f0 => aw d0 f0 fun c0 h0 => ?_
 refine wsc fun f0 c0 => mv h0 fun f0 d0 => ?_
 refine r_min sv d0 rfl rfl rfl rfl rfl (by decide) fun f0 h0 => ?_
 refine r_max sv h0 rfl rfl rfl rfl rfl (by decide) fun f0 d0 => ?_
 refine aw d0 c0 fun f0 h0 => ?_
 refine wp_ret <| er1 h0 ?_
 refine ⟨?_, b0.fr⟩
 exact cr (ret_i (by unfold clamp; omega))
theorem shift_calls (w0 : World) (Z : Nat → Prop) (hZ : ∀ k, Z k → k < w0.heap.size) (tA : Option Addr) (tc : Nat) (t : List Nd) (b : Int) (fr : Int) (hShp : Shapes w0 Z) (ht : (dRow 4 tA t.length tc (encNs t)).φ w0 Z) (hsm : sml t := by first | assumption | omega | (simp <;> omega)) (hl : t.length ≤ 1000000 := by first | assumption | omega | (simp <;> omega)) :
    Calls Tryd.prog 83 [.slice tA t.length tc, .int .i64 b, .int .i64 fr].toArray w0 (fun e w' => ∃ (rA0 : Option Addr) (rc0 : Nat), e = .returned (.tuple #[.slice rA0 (sfA t b fr).length rc0, .int .i64 (sfE t b fr)]) ∧ Fr none_ w0 w' ∧ (Res.row rA0 (sfA t b fr).length rc0 39 4 (encNs (sfA t b fr))).holds w' ∧ (∀ k, (Res.row rA0 (sfA t b fr).length rc0 39 4 (encNs (sfA t b fr))).blk = some k → w0.heap.size ≤ k)) := by
 have b0 := s0 (M := none_) hZ (zc (d := dShapes) hShp (zc ht zn))
 refine c_enterM Tryd.func83 rfl Tryd.ntmps83 rfl fun c0 d0 => ?_
 refine wsc fun c0 f0 => bxx d0 b0 fun c0 h0 i0 j0 k0 => ?_
 refine bxx j0 k0 fun h0 c0 d0 b0 m0 => ?_
 refine lR b0 fun h0 k0 => ?_
 refine wn f0 <| wsc fun f0 h0 => mv k0 fun f0 b0 => ?_
 have f0 : St w0 Z none_ c0 [.box i0 3 [.int .i64 (b)], .box d0 3 [.int .i64 (fr)]] [dShapes, dRow 4 tA t.length tc (encNs t)] := m0
 refine kcl b0 ok27 (check_calls _ _ f0.il _ _ _ (f0.g 0) (f0.g 1)) ?_
 rintro b0 m0 ⟨rfl, c0⟩
 have m0 := f0.below c0.below
 refine ⟨_, rfl, fun c0 f0 => ?_⟩
 refine alc f0 m0 fun c0 b0 k0 j0 n0 => ?_
 refine sto 2 j0 n0 fun b0 c0 f0 m0 => ?_
 refine wn h0 <| wp_seq_k fun h0 b0 => wsc fun h0 n0 => lR f0 fun h0 j0 => ?_
 refine wn n0 ?_
 rcases Decidable.em (((chk t)) = 0) with n0 | n0
 ·
  have hc := n0
  refine wcfb j0 rfl (by rw [(decide_eq_true n0)]; rfl) fun h0 => ?_
  refine wp_skip <| xn b0 <| wp_seq_k fun b0 f0 => ?_
  obtain ⟨b0, o0, p0⟩ := m0.agree
  refine dl_region2 (S := (sW c0 b0 [cel d0 0 (.int .i64 (fr))])) (n := 7) [6] mixed rfl p0 (pan_then pan_bodyM) fun o0 q0 t0 u0 v0 => ?_
  have o0 := sWI v0 2 (pc 1 0 pn)
  refine dlt 2 rfl q0 h0 (want_n rfl) (fun x hx => m_loadC (sy h0) h0 rfl rfl rfl (hx.c 0) Tryd.underlying3 rfl (by decide) gt) o0 fun p0 x0 => ?_
  refine dl_one (i := 0) (by kernel_rfl) ?_
  refine m_load (i := 0) (st_opV rfl (want_n rfl)) x0 v0 rfl rfl rfl rfl rfl Tryd.underlying3 rfl (by decide) fun p0 o0 => ?_
  have p0 := sWI v0 2 (pc 1 0 pn)
  refine ⟨fun _ _ => p0, ?_⟩
  refine dl_one (i := 1) (by kernel_rfl) ?_
  have p0 : St w0 Z none_ u0 [.box i0 3 [.int .i64 (b)], .box d0 3 [.int .i64 (fr)], .box k0 27 [.int .i64 ((chk t))]] [dShapes, dRow 4 tA t.length tc (encNs t), dAg c0 b0] := v0
  refine kcl o0 ok95 (clamp_calls _ _ p0.il (b)) ?_
  rintro o0 v0 ⟨rfl, u0⟩
  have o0 := p0.below u0.below
  refine ⟨_, rfl, fun u0 p0 => ?_⟩
  have u0 := sWI o0 2 (pc 1 0 pn)
  refine ⟨fun _ _ => u0, ?_⟩
  refine dl_one (i := 3) (by kernel_rfl) ?_
  have u0 : St w0 Z none_ v0 [.box i0 3 [.int .i64 (b)], .box d0 3 [.int .i64 (fr)], .box k0 27 [.int .i64 ((chk t))]] [dShapes, dRow 4 tA t.length tc (encNs t), dAg c0 b0] := o0
  refine kcl p0 ok95 (clamp_calls _ _ u0.il (fr)) ?_
  rintro p0 o0 ⟨rfl, v0⟩
  have o0 := u0.below v0.below
  refine ⟨_, rfl, fun v0 u0 => ?_⟩
  have v0 := sWI o0 2 (pc 1 0 pn)
  refine ⟨fun _ _ => v0, ?_⟩
  refine dta 4 rfl q0 u0 (want_n rfl) (fun x => r_max (sy u0) u0 rfl rfl rfl rfl rfl (by decide) gt) fun v0 p0 => ?_
  refine dl_one (i := 5) (by kernel_rfl) ?_
  refine sto 0 p0 o0 fun v0 u0 q0 x0 => ?_
  have u0 := sWI x0 2 (pc 1 0 pn)
  refine ⟨fun _ _ => u0, ?_⟩
  refine dl_one (i := 6) (by kernel_rfl) ?_
  refine sto 1 q0 x0 fun u0 v0 p0 o0 => ?_
  refine ⟨fun h => absurd h (by decide), ?_⟩
  refine dl_done (by kernel_rfl) (t0 _ _ ?_) _
  refine xn f0 <| wsc fun f0 t0 => mv p0 fun f0 v0 => ?_
  have f0 := o0.nilrow 39 4
  refine m_appendF (f := encN) (i := 3) ([]) (t) sv v0 f0 rfl rfl rfl rfl rfl encN_len (encN_one _) Tryd.underlying22 zi39 rfl rfl (f0.row (i := 1) rfl).2.news rfl (by (simp only [List.length_cons, List.length_nil]; omega)) (by decide) fun o0 p0 u0 x0 q0 h0 y0 => ?_
  have q0 : (([]) ++ t : List Nd).length = t.length := by (simp only [List.length_append, List.length_take, List.length_cons, List.length_nil]; omega)
  refine alc h0 y0 fun q0 p0 o0 f0 v0 => ?_
  refine sto 4 f0 v0 fun p0 q0 y0 h0 => ?_
  refine wn t0 <| wp_seq_k fun t0 p0 => wsc fun t0 v0 => mv y0 fun t0 f0 => ?_
  have t0 : St w0 Z none_ q0 [.box i0 3 [.int .i64 ((clamp (b)))], .box d0 3 [.int .i64 ((max 0 ((clamp (fr)))))], .box k0 27 [.int .i64 ((chk t))], .row u0 ((([]) ++ t : List Nd).length) x0 39 4 (encNs (([]) ++ t)), .box o0 22 [.slice u0 ((([]) ++ t : List Nd).length) x0]] [dShapes, dRow 4 tA t.length tc (encNs t), dAg c0 b0] := h0
  refine kcl f0 ok96 (nodesMk_calls _ _ t0.il _ _ _ (t0.g 1)) ?_
  rintro f0 h0 ⟨q0, rfl, y0, z0⟩
  have f0 := t0.below y0.below
  have y0 := t0.dN f0 z0
  refine ⟨_, rfl, fun f0 z0 => ?_⟩
  refine wn v0 <| wp_block ?_
  have v0 : St w0 Z none_ h0 [.box i0 3 [.int .i64 ((clamp (b)))], .box d0 3 [.int .i64 ((max 0 ((clamp (fr)))))], .box k0 27 [.int .i64 ((chk t))], .row u0 ((([]) ++ t : List Nd).length) x0 39 4 (encNs (([]) ++ t)), .box o0 22 [.slice u0 ((([]) ++ t : List Nd).length) x0]] [dShapes, dRow 4 tA t.length tc (encNs t), dAg c0 b0, dBox q0 [.slice tA t.length tc]] := y0
  have y0 : Reg f0 74 [(1000000, .bool false), (4, .pointer (some ⟨i0, 0, none⟩)), (5, .pointer (some ⟨d0, 0, none⟩)), (6, .slice none 0 0), (7, .int .i64 0), (8, .pointer (some ⟨k0, 0, none⟩)), (9, .pointer (some ⟨o0, 0, none⟩)), (26, .func (.func 102) #[] #[.pointer (some ⟨q0, 0, none⟩)])] := (z0.sub (rc4 (rc2 (rc rfl (rc rfl rnl)))))
  refine w_range (xs := nodesL t) (encs := (fun x : Int × Int => #[.int .i64 x.1, .int .i64 x.2])) (y0.ev rfl) ok102 (nodes_yields _ (imm Z w0 [.box i0 3 [.int .i64 ((clamp (b)))], .box d0 3 [.int .i64 ((max 0 ((clamp (fr)))))], .box k0 27 [.int .i64 ((chk t))], .row u0 ((([]) ++ t : List Nd).length) x0 39 4 (encNs (([]) ++ t)), .box o0 22 [.slice u0 ((([]) ++ t : List Nd).length) x0]] _) q0 tA tc t (v0.get (i := 0) rfl) (v0.get (i := 1) rfl) (v0.get (i := 3) rfl) (by assumption) (by assumption) (by assumption)) (fun _ => rfl) v0 (fun _ h => h) (fun (pre : List (Int × Int)) (mm : List Res) => ∃ Ao : Option Addr, ∃ co : Nat, mm = [.box i0 3 [.int .i64 ((clamp (b)))], .box d0 3 [.int .i64 ((max 0 ((clamp (fr)))))], .box k0 27 [.int .i64 (((foldS (clamp b) (max 0 (clamp fr)) (t, chk t) pre).2))], .row Ao (((foldS (clamp b) (max 0 (clamp fr)) (t, chk t) pre).1).length) co 39 4 (encNs ((foldS (clamp b) (max 0 (clamp fr)) (t, chk t) pre).1)), .box o0 22 [.slice Ao (((foldS (clamp b) (max 0 (clamp fr)) (t, chk t) pre).1).length) co]]) (fun _ _ _ => False) ⟨u0, x0, rfl⟩ ?_ ?_ ?_
  ·
   rintro v0 pre x x0 m1 hp ⟨Ao, co, rfl⟩ u0
   obtain ⟨xi, xj, rfl, hxi, hxj⟩ := nodesL_nat hc hp
   refine (?_ : ∀ z0, Reg z0 74 [(28, .int .i64 ((xj : Nat) : Int)), (27, .int .i64 ((xi : Nat) : Int)), (1000000, .bool false), (4, .pointer (some ⟨i0, 0, none⟩)), (5, .pointer (some ⟨d0, 0, none⟩)), (6, .slice none 0 0), (7, .int .i64 0), (8, .pointer (some ⟨k0, 0, none⟩)), (9, .pointer (some ⟨o0, 0, none⟩)), (26, .func (.func 102) #[] #[.pointer (some ⟨q0, 0, none⟩)])] → Code.wpIn (rI v0) 0 _ _ _ z0 x0) _ (Reg.round2n y0 (by decide) (by decide) rfl)
   intro z0 v0
   have hfl : (foldS (clamp b) (max 0 (clamp fr)) (t, chk t) pre).1.length = t.length := foldS_len (clamp b) (max 0 (clamp fr)) (t, chk t) pre
   have hcb : -1000 ≤ clamp b ∧ clamp b ≤ 1000 := by unfold clamp; omega
   have hcf : -1000 ≤ clamp fr ∧ clamp fr ≤ 1000 := by unfold clamp; omega
   have hfN := fold_N (f := max 0 (clamp fr)) (e := chk t) hc hcb (List.IsPrefix.trans (List.prefix_append _ _) hp) xi
   refine wpIn_seq_k fun z0 f0 => ?_
   refine ci_region (by kernel_rfl) (out_then (out_then (fun _ _ h => h))) ?_
   refine aw v0 f0 fun z0 h0 => ?_
   refine ci_region (by kernel_rfl) (out_then (fun _ _ h => h)) ?_
   refine asg h0 fun f0 z0 => ?_
   refine wpList_nil ?_
   have f0 : St w0 Z none_ x0 [.box i0 3 [.int .i64 ((clamp (b)))], .box d0 3 [.int .i64 ((max 0 ((clamp (fr)))))], .box k0 27 [.int .i64 (((foldS (clamp b) (max 0 (clamp fr)) (t, chk t) pre).2))], .row Ao (((foldS (clamp b) (max 0 (clamp fr)) (t, chk t) pre).1).length) co 39 4 (encNs ((foldS (clamp b) (max 0 (clamp fr)) (t, chk t) pre).1)), .box o0 22 [.slice Ao (((foldS (clamp b) (max 0 (clamp fr)) (t, chk t) pre).1).length) co]] [dShapes, dRow 4 tA t.length tc (encNs t), dAg c0 b0, dBox q0 [.slice tA t.length tc], dAg x0 (imm Z w0 [.box i0 3 [.int .i64 ((clamp (b)))], .box d0 3 [.int .i64 ((max 0 ((clamp (fr)))))], .box k0 27 [.int .i64 (((foldS (clamp b) (max 0 (clamp fr)) (t, chk t) pre).2))], .row Ao (((foldS (clamp b) (max 0 (clamp fr)) (t, chk t) pre).1).length) co 39 4 (encNs ((foldS (clamp b) (max 0 (clamp fr)) (t, chk t) pre).1)), .box o0 22 [.slice Ao (((foldS (clamp b) (max 0 (clamp fr)) (t, chk t) pre).1).length) co]] x0)] := u0
   refine x_then_n ⟨_, _, 4, f0, rfl, (fun _ h => False.elim h), (fun _ h => False.elim h), fun u0 x0 => ?_⟩
   refine wpIn_block ?_
   refine wpIn_seq_k fun f0 h0 => ?_
   refine ci_region (by kernel_rfl) (out_then (out_block out_rPost)) ?_
   refine lR z0 fun f0 v0 => ?_
   refine ix xi (xi * 4) v0 (own_nds (t := (foldS (clamp b) (max 0 (clamp fr)) (t, chk t) pre).1) (k := xi) (x0.res (i := 3) rfl) (by omega)).some_ fun f0 z0 => ?_
   refine aw z0 h0 fun f0 v0 => ?_
   refine wpIn_seq_k fun h0 f0 => ?_
   refine wpIn_seq_k fun h0 z0 => ?_
   obtain ⟨h0, t0, b1⟩ := x0.agree
   refine di_region2 (S := (sW u0 h0 [cel d0 0 (.int .i64 ((max 0 ((clamp (fr)))))), (Res.row Ao (((foldS (clamp b) (max 0 (clamp fr)) (t, chk t) pre).1).length) co 39 4 (encNs ((foldS (clamp b) (max 0 (clamp fr)) (t, chk t) pre).1))).holds])) (k := 15) mixed rfl (by kernel_rfl) b1 (pan_then (pan_then (pan_block pan_rPost))) (out_then (out_then (out_block out_rPost))) fun t0 x0 c1 d1 f1 => ?_
   have t0 := sWI f1 5 (pc 1 0 (pr 3 pn))
   refine dR [0] v0 fun b1 h1 => ?_
   refine dt 1 rfl x0 h1 (want_n rfl) (fun x hx => r_nilCheckE (sy h1) h1 rfl rfl rfl (own_nds (t := (foldS (clamp b) (max 0 (clamp fr)) (t, chk t) pre).1) (k := xi) (f1.res (i := 3) rfl) (by omega)).some_ (by decide) gt) t0 fun b1 v0 => ?_
   refine dt 2 rfl x0 v0 (want_n rfl) (fun x hx => m_fieldE (j' := xi * 4) (sy v0) v0 rfl rfl rfl (own_nds (t := (foldS (clamp b) (max 0 (clamp fr)) (t, chk t) pre).1) (k := xi) (f1.res (i := 3) rfl) (by omega)).some_ Tryd.underlying39 rfl sz3 rfl rfl (by decide) gt) t0 fun b1 h1 => ?_
   refine dle 3 0 (xi * 4) h1 (fun x hx => own_nds (t := (foldS (clamp b) (max 0 (clamp fr)) (t, chk t) pre).1) (k := xi) (hx.r 1) (by omega)) fun b1 v0 => ?_
   refine dR [4, 5] v0 fun b1 h1 => ?_
   refine d_or 6 [7, 8, 9, 10, 11, 12, 13] 14 (decide ((((nth ((foldS (clamp b) (max 0 (clamp fr)) (t, chk t) pre).1) xi).N) - ((xj : Nat) : Int)) < ((max 0 ((clamp (fr))))))) x0 h1 t0 (fun b1 v0 i1 => ?_) fun j1 k1 => ?_
   ·
    have j1 := not_f b1
    have b1 := of_decide_eq_true j1
    refine dR [6] v0 fun b1 j1 => ?_
    refine dt 7 rfl x0 j1 (wt j1) (fun x hx => r_nilCheckE (sy j1) j1 rfl rfl rfl (own_nds (t := (foldS (clamp b) (max 0 (clamp fr)) (t, chk t) pre).1) (k := xi) (f1.res (i := 3) rfl) (by omega)).some_ (by decide) gt) t0 fun b1 v0 => ?_
    refine dt 8 rfl x0 v0 (wt v0) (fun x hx => m_fieldE (j' := xi * 4 + 1) (sy v0) v0 rfl rfl rfl (own_nds (t := (foldS (clamp b) (max 0 (clamp fr)) (t, chk t) pre).1) (k := xi) (f1.res (i := 3) rfl) (by omega)).some_ Tryd.underlying39 rfl sz3 rfl rfl (by decide) gt) t0 fun b1 j1 => ?_
    refine dle 9 1 (xi * 4) j1 (fun x hx => own_nds (t := (foldS (clamp b) (max 0 (clamp fr)) (t, chk t) pre).1) (k := xi) (hx.r 1) (by omega)) fun b1 v0 => ?_
    refine dR [10] v0 fun b1 j1 => ?_
    refine dt 11 rfl x0 j1 (wt j1) (fun x hx => r_sub (z := (((nth ((foldS (clamp b) (max 0 (clamp fr)) (t, chk t) pre).1) xi).N) - ((xj : Nat) : Int))) (sy j1) j1 rfl rfl rfl rfl (by decide) (by omega) (by omega) (by omega) gt) t0 fun b1 v0 => ?_
    refine dR [12, 13, 14] v0 fun b1 j1 => ?_
    exact i1.fin j1
   refine wpAnyH_done (by kernel_rfl) (c1 _ _ ?_) _
   refine xn z0 ?_
   rcases Bool.eq_false_or_eq_true (((!(decide ((((nth ((foldS (clamp b) (max 0 (clamp fr)) (t, chk t) pre).1) xi).K)) = 0))) || (decide ((((nth ((foldS (clamp b) (max 0 (clamp fr)) (t, chk t) pre).1) xi).N) - ((xj : Nat) : Int)) < ((max 0 ((clamp (fr))))))))) with z0 | z0
   ·
    have c1 := z0
    try simp only [bz] at c1
    have c1 := k1.setb (d := 46) (b := true) rfl z0
    refine wpIn_cond_true (c1.ev rfl) ?_
    refine wpIn_exit ?_
    refine x_then_e ?_
    refine x_block_eq ?_
    have c1 : St w0 Z none_ d1 [.box i0 3 [.int .i64 ((clamp (b)))], .box d0 3 [.int .i64 ((max 0 ((clamp (fr)))))], .box k0 27 [.int .i64 (((foldS (clamp b) (max 0 (clamp fr)) (t, chk t) pre).2))], .row Ao (((foldS (clamp b) (max 0 (clamp fr)) (t, chk t) pre).1).length) co 39 4 (encNs ((foldS (clamp b) (max 0 (clamp fr)) (t, chk t) pre).1)), .box o0 22 [.slice Ao (((foldS (clamp b) (max 0 (clamp fr)) (t, chk t) pre).1).length) co]] [dShapes, dRow 4 tA t.length tc (encNs t), dAg c0 b0, dBox q0 [.slice tA t.length tc], dAg u0 (imm Z w0 [.box i0 3 [.int .i64 ((clamp (b)))], .box d0 3 [.int .i64 ((max 0 ((clamp (fr)))))], .box k0 27 [.int .i64 (((foldS (clamp b) (max 0 (clamp fr)) (t, chk t) pre).2))], .row Ao (((foldS (clamp b) (max 0 (clamp fr)) (t, chk t) pre).1).length) co 39 4 (encNs ((foldS (clamp b) (max 0 (clamp fr)) (t, chk t) pre).1)), .box o0 22 [.slice Ao (((foldS (clamp b) (max 0 (clamp fr)) (t, chk t) pre).1).length) co]] u0), dAg u0 h0] := f1
    exact ⟨_, _, 4, c1, rfl, _, _, (by rw [foldS_snoc, step_no (by omega)])⟩
   have c1 := or_fl z0
   have j1 := not_f c1
   have c1 := of_decide_eq_true j1
   have c1 := or_fr z0
   have j1 := of_decide_eq_false c1
   have j1 := k1.setb (d := 46) (b := false) rfl z0
   refine wpIn_cond_false (j1.ev rfl) ?_
   refine wpIn_skip ?_
   refine xn f0 <| wpIn_seq_k fun f0 z0 => ?_
   obtain ⟨f0, k1, c1⟩ := f1.agree
   refine dli_region2 (S := (sW d1 f0 [cel i0 0 (.int .i64 ((clamp (b)))), (Res.row Ao (((foldS (clamp b) (max 0 (clamp fr)) (t, chk t) pre).1).length) co 39 4 (encNs ((foldS (clamp b) (max 0 (clamp fr)) (t, chk t) pre).1))).holds])) (k := 9) [8] mixed rfl (by kernel_rfl) c1 (pan_then (pan_block pan_rPost)) (out_then (out_block out_rPost)) fun k1 f1 i1 b1 v0 => ?_
   have b1 := sWI v0 6 (pc 0 0 (pr 3 pn))
   refine dtv 0 f1 j1 fun k1 c1 => ?_
   refine dta 1 rfl f1 c1 (want_n rfl) (fun x => r_nilCheckE (sy c1) c1 rfl rfl rfl (own_nds (t := (foldS (clamp b) (max 0 (clamp fr)) (t, chk t) pre).1) (k := xi) (v0.res (i := 3) rfl) (by omega)).some_ (by decide) gt) fun k1 j1 => ?_
   refine dta 2 rfl f1 j1 (want_n rfl) (fun x => m_fieldE (j' := xi * 4 + 1) (sy j1) j1 rfl rfl rfl (own_nds (t := (foldS (clamp b) (max 0 (clamp fr)) (t, chk t) pre).1) (k := xi) (v0.res (i := 3) rfl) (by omega)).some_ Tryd.underlying39 rfl sz3 rfl rfl (by decide) gt) fun k1 c1 => ?_
   refine dlt 3 rfl f1 c1 (want_n rfl) (fun x hx => m_loadE (sy c1) c1 rfl rfl rfl 1 (xi * 4) (own_nds (t := (foldS (clamp b) (max 0 (clamp fr)) (t, chk t) pre).1) (k := xi) (hx.r 1) (by omega)) rfl rfl Tryd.underlying3 rfl (by decide) gt) b1 fun k1 j1 => ?_
   refine dlt 4 rfl f1 j1 (want_n rfl) (fun x hx => m_loadC (sy j1) j1 rfl rfl rfl (hx.c 0) Tryd.underlying3 rfl (by decide) gt) b1 fun k1 c1 => ?_
   refine dta 5 rfl f1 c1 (want_n rfl) (fun x => r_add (z := (((nth ((foldS (clamp b) (max 0 (clamp fr)) (t, chk t) pre).1) xi).N) + (clamp (b)))) (sy c1) c1 rfl rfl rfl rfl (by decide) (by omega) (by omega) (by omega) gt) fun k1 j1 => ?_
   refine dta 6 rfl f1 j1 (want_n rfl) (fun x => r_nilCheckE (sy j1) j1 rfl rfl rfl (own_nds (t := (foldS (clamp b) (max 0 (clamp fr)) (t, chk t) pre).1) (k := xi) (v0.res (i := 3) rfl) (by omega)).some_ (by decide) gt) fun k1 c1 => ?_
   refine dta 7 rfl f1 c1 (want_n rfl) (fun x => m_fieldE (j' := xi * 4 + 1) (sy c1) c1 rfl rfl rfl (own_nds (t := (foldS (clamp b) (max 0 (clamp fr)) (t, chk t) pre).1) (k := xi) (v0.res (i := 3) rfl) (by omega)).some_ Tryd.underlying39 rfl sz3 rfl rfl (by decide) gt) fun k1 j1 => ?_
   refine dl_one (i := 8) (by kernel_rfl) ?_
   refine m_storeF (i := 3) (k := xi) (off := 1) (L := ((foldS (clamp b) (max 0 (clamp fr)) (t, chk t) pre).1)) (z := (⟨(nth ((foldS (clamp b) (max 0 (clamp fr)) (t, chk t) pre).1) xi).K, (((nth ((foldS (clamp b) (max 0 (clamp fr)) (t, chk t) pre).1) xi).N) + (clamp (b))), (nth ((foldS (clamp b) (max 0 (clamp fr)) (t, chk t) pre).1) xi).M, (nth ((foldS (clamp b) (max 0 (clamp fr)) (t, chk t) pre).1) xi).S⟩ : Nd)) (st_op rfl (want_n rfl)) j1 v0 rfl rfl rfl rfl rfl (by omega) (by omega) (by decide) rfl rfl rfl sz3 fun k1 c1 f1 b1 => ?_
   have k1 : (((foldS (clamp b) (max 0 (clamp fr)) (t, chk t) pre).1).set (xi) (⟨(nth ((foldS (clamp b) (max 0 (clamp fr)) (t, chk t) pre).1) xi).K, (((nth ((foldS (clamp b) (max 0 (clamp fr)) (t, chk t) pre).1) xi).N) + (clamp (b))), (nth ((foldS (clamp b) (max 0 (clamp fr)) (t, chk t) pre).1) xi).M, (nth ((foldS (clamp b) (max 0 (clamp fr)) (t, chk t) pre).1) xi).S⟩ : Nd)).length = ((foldS (clamp b) (max 0 (clamp fr)) (t, chk t) pre).1).length := by simp
   have k1 : nth (((foldS (clamp b) (max 0 (clamp fr)) (t, chk t) pre).1).set (xi) (⟨(nth ((foldS (clamp b) (max 0 (clamp fr)) (t, chk t) pre).1) xi).K, (((nth ((foldS (clamp b) (max 0 (clamp fr)) (t, chk t) pre).1) xi).N) + (clamp (b))), (nth ((foldS (clamp b) (max 0 (clamp fr)) (t, chk t) pre).1) xi).M, (nth ((foldS (clamp b) (max 0 (clamp fr)) (t, chk t) pre).1) xi).S⟩ : Nd)) (xi) = (⟨(nth ((foldS (clamp b) (max 0 (clamp fr)) (t, chk t) pre).1) xi).K, (((nth ((foldS (clamp b) (max 0 (clamp fr)) (t, chk t) pre).1) xi).N) + (clamp (b))), (nth ((foldS (clamp b) (max 0 (clamp fr)) (t, chk t) pre).1) xi).M, (nth ((foldS (clamp b) (max 0 (clamp fr)) (t, chk t) pre).1) xi).S⟩ : Nd) := nth_set_self (by omega)
   have j1 : (nth (((foldS (clamp b) (max 0 (clamp fr)) (t, chk t) pre).1).set (xi) (⟨(nth ((foldS (clamp b) (max 0 (clamp fr)) (t, chk t) pre).1) xi).K, (((nth ((foldS (clamp b) (max 0 (clamp fr)) (t, chk t) pre).1) xi).N) + (clamp (b))), (nth ((foldS (clamp b) (max 0 (clamp fr)) (t, chk t) pre).1) xi).M, (nth ((foldS (clamp b) (max 0 (clamp fr)) (t, chk t) pre).1) xi).S⟩ : Nd)) (xi)).N = (((nth ((foldS (clamp b) (max 0 (clamp fr)) (t, chk t) pre).1) xi).N) + (clamp (b))) := by rw [k1]
   refine ⟨fun h => absurd h (by decide), ?_⟩
   refine dl_done (by kernel_rfl) (i1 _ _ ?_) _
   refine xn z0 <| wpIn_block ?_
   refine wpIn_seq_k fun z0 i1 => ?_
   obtain ⟨z0, j1, k1⟩ := b1.agree
   refine di_region2 (S := (sW c1 z0 [cel d0 0 (.int .i64 ((max 0 ((clamp (fr)))))), (Res.row Ao ((((foldS (clamp b) (max 0 (clamp fr)) (t, chk t) pre).1).set (xi) (⟨(nth ((foldS (clamp b) (max 0 (clamp fr)) (t, chk t) pre).1) xi).K, (((nth ((foldS (clamp b) (max 0 (clamp fr)) (t, chk t) pre).1) xi).N) + (clamp (b))), (nth ((foldS (clamp b) (max 0 (clamp fr)) (t, chk t) pre).1) xi).M, (nth ((foldS (clamp b) (max 0 (clamp fr)) (t, chk t) pre).1) xi).S⟩ : Nd)).length) co 39 4 (encNs (((foldS (clamp b) (max 0 (clamp fr)) (t, chk t) pre).1).set (xi) (⟨(nth ((foldS (clamp b) (max 0 (clamp fr)) (t, chk t) pre).1) xi).K, (((nth ((foldS (clamp b) (max 0 (clamp fr)) (t, chk t) pre).1) xi).N) + (clamp (b))), (nth ((foldS (clamp b) (max 0 (clamp fr)) (t, chk t) pre).1) xi).M, (nth ((foldS (clamp b) (max 0 (clamp fr)) (t, chk t) pre).1) xi).S⟩ : Nd)))).holds])) (k := 9) mixed rfl (by kernel_rfl) k1 (pan_then (pan_block (pan_block pan_rPost))) (out_then (out_block (out_block out_rPost))) fun j1 b1 v0 t0 x0 => ?_
   have j1 := sWI x0 7 (pc 1 0 (pr 3 pn))
   refine dR [0] f1 fun k1 h1 => ?_
   refine dt 1 rfl b1 h1 (want_n rfl) (fun x hx => r_nilCheckE (sy h1) h1 rfl rfl rfl (own_nds (t := ((foldS (clamp b) (max 0 (clamp fr)) (t, chk t) pre).1).set (xi) (⟨(nth ((foldS (clamp b) (max 0 (clamp fr)) (t, chk t) pre).1) xi).K, (((nth ((foldS (clamp b) (max 0 (clamp fr)) (t, chk t) pre).1) xi).N) + (clamp (b))), (nth ((foldS (clamp b) (max 0 (clamp fr)) (t, chk t) pre).1) xi).M, (nth ((foldS (clamp b) (max 0 (clamp fr)) (t, chk t) pre).1) xi).S⟩ : Nd)) (k := xi) (x0.res (i := 3) rfl) (by omega)).some_ (by decide) gt) j1 fun k1 f1 => ?_
   refine dt 2 rfl b1 f1 (want_n rfl) (fun x hx => m_fieldE (j' := xi * 4 + 1) (sy f1) f1 rfl rfl rfl (own_nds (t := ((foldS (clamp b) (max 0 (clamp fr)) (t, chk t) pre).1).set (xi) (⟨(nth ((foldS (clamp b) (max 0 (clamp fr)) (t, chk t) pre).1) xi).K, (((nth ((foldS (clamp b) (max 0 (clamp fr)) (t, chk t) pre).1) xi).N) + (clamp (b))), (nth ((foldS (clamp b) (max 0 (clamp fr)) (t, chk t) pre).1) xi).M, (nth ((foldS (clamp b) (max 0 (clamp fr)) (t, chk t) pre).1) xi).S⟩ : Nd)) (k := xi) (x0.res (i := 3) rfl) (by omega)).some_ Tryd.underlying39 rfl sz3 rfl rfl (by decide) gt) j1 fun k1 h1 => ?_
   refine dle 3 1 (xi * 4) h1 (fun x hx => own_nds (t := ((foldS (clamp b) (max 0 (clamp fr)) (t, chk t) pre).1).set (xi) (⟨(nth ((foldS (clamp b) (max 0 (clamp fr)) (t, chk t) pre).1) xi).K, (((nth ((foldS (clamp b) (max 0 (clamp fr)) (t, chk t) pre).1) xi).N) + (clamp (b))), (nth ((foldS (clamp b) (max 0 (clamp fr)) (t, chk t) pre).1) xi).M, (nth ((foldS (clamp b) (max 0 (clamp fr)) (t, chk t) pre).1) xi).S⟩ : Nd)) (k := xi) (hx.r 1) (by omega)) fun k1 f1 => ?_
   refine dR [4] f1 fun k1 h1 => ?_
   refine dt 5 rfl b1 h1 (want_n rfl) (fun x hx => r_sub (z := (((nth (((foldS (clamp b) (max 0 (clamp fr)) (t, chk t) pre).1).set (xi) (⟨(nth ((foldS (clamp b) (max 0 (clamp fr)) (t, chk t) pre).1) xi).K, (((nth ((foldS (clamp b) (max 0 (clamp fr)) (t, chk t) pre).1) xi).N) + (clamp (b))), (nth ((foldS (clamp b) (max 0 (clamp fr)) (t, chk t) pre).1) xi).M, (nth ((foldS (clamp b) (max 0 (clamp fr)) (t, chk t) pre).1) xi).S⟩ : Nd)) xi).N) - ((xj : Nat) : Int))) (sy h1) h1 rfl rfl rfl rfl (by decide) (by omega) (by omega) (by omega) gt) j1 fun k1 f1 => ?_
   refine dR [6, 7, 8] f1 fun k1 h1 => ?_
   refine wpAnyH_done (by kernel_rfl) (v0 _ _ ?_) _
   refine xn i1 ?_
   rcases Decidable.em ((((nth (((foldS (clamp b) (max 0 (clamp fr)) (t, chk t) pre).1).set (xi) (⟨(nth ((foldS (clamp b) (max 0 (clamp fr)) (t, chk t) pre).1) xi).K, (((nth ((foldS (clamp b) (max 0 (clamp fr)) (t, chk t) pre).1) xi).N) + (clamp (b))), (nth ((foldS (clamp b) (max 0 (clamp fr)) (t, chk t) pre).1) xi).M, (nth ((foldS (clamp b) (max 0 (clamp fr)) (t, chk t) pre).1) xi).S⟩ : Nd)) xi).N) - ((xj : Nat) : Int)) < ((max 0 ((clamp (fr)))))) with i1 | i1
   ·
    have v0 := h1.setb (d := 55) (b := true) rfl (decide_eq_true i1)
    refine wpIn_cond_true (v0.ev rfl) ?_
    refine ci_region (by kernel_rfl) (out_block (out_block out_rPost)) ?_
    refine sto 2 v0 x0 fun k1 f1 j1 b1 => ?_
    refine wpList_nil ?_
    refine x_block_n <| x_block_n ?_
    have j1 : St w0 Z none_ f1 [.box i0 3 [.int .i64 ((clamp (b)))], .box d0 3 [.int .i64 ((max 0 ((clamp (fr)))))], .box k0 27 [.int .i64 30], .row Ao ((((foldS (clamp b) (max 0 (clamp fr)) (t, chk t) pre).1).set (xi) (⟨(nth ((foldS (clamp b) (max 0 (clamp fr)) (t, chk t) pre).1) xi).K, (((nth ((foldS (clamp b) (max 0 (clamp fr)) (t, chk t) pre).1) xi).N) + (clamp (b))), (nth ((foldS (clamp b) (max 0 (clamp fr)) (t, chk t) pre).1) xi).M, (nth ((foldS (clamp b) (max 0 (clamp fr)) (t, chk t) pre).1) xi).S⟩ : Nd)).length) co 39 4 (encNs (((foldS (clamp b) (max 0 (clamp fr)) (t, chk t) pre).1).set (xi) (⟨(nth ((foldS (clamp b) (max 0 (clamp fr)) (t, chk t) pre).1) xi).K, (((nth ((foldS (clamp b) (max 0 (clamp fr)) (t, chk t) pre).1) xi).N) + (clamp (b))), (nth ((foldS (clamp b) (max 0 (clamp fr)) (t, chk t) pre).1) xi).M, (nth ((foldS (clamp b) (max 0 (clamp fr)) (t, chk t) pre).1) xi).S⟩ : Nd))), .box o0 22 [.slice Ao (((foldS (clamp b) (max 0 (clamp fr)) (t, chk t) pre).1).length) co]] [dShapes, dRow 4 tA t.length tc (encNs t), dAg c0 b0, dBox q0 [.slice tA t.length tc], dAg u0 (imm Z w0 [.box i0 3 [.int .i64 ((clamp (b)))], .box d0 3 [.int .i64 ((max 0 ((clamp (fr)))))], .box k0 27 [.int .i64 (((foldS (clamp b) (max 0 (clamp fr)) (t, chk t) pre).2))], .row Ao (((foldS (clamp b) (max 0 (clamp fr)) (t, chk t) pre).1).length) co 39 4 (encNs ((foldS (clamp b) (max 0 (clamp fr)) (t, chk t) pre).1)), .box o0 22 [.slice Ao (((foldS (clamp b) (max 0 (clamp fr)) (t, chk t) pre).1).length) co]] u0), dAg u0 h0, dAg d1 f0, dAg c1 z0] := b1
    exact ⟨_, _, 4, j1, rfl, _, _, (by rw [foldS_snoc, step_yes (by omega) (by omega)]; simp only [List.length_set]; (repeat' split) <;> first | rfl | (exfalso; omega))⟩
   have j1 := h1.setb (d := 55) (b := false) rfl (decide_eq_false i1)
   refine wpIn_cond_false (j1.ev rfl) ?_
   refine wpIn_seq_k fun i1 h1 => ?_
   refine ci_region (by kernel_rfl) (out_then (out_block (out_block out_rPost))) ?_
   refine mv j1 fun i1 b1 => ?_
   refine r_nilCheckE sv b1 rfl rfl rfl (own_nds (t := ((foldS (clamp b) (max 0 (clamp fr)) (t, chk t) pre).1).set (xi) (⟨(nth ((foldS (clamp b) (max 0 (clamp fr)) (t, chk t) pre).1) xi).K, (((nth ((foldS (clamp b) (max 0 (clamp fr)) (t, chk t) pre).1) xi).N) + (clamp (b))), (nth ((foldS (clamp b) (max 0 (clamp fr)) (t, chk t) pre).1) xi).M, (nth ((foldS (clamp b) (max 0 (clamp fr)) (t, chk t) pre).1) xi).S⟩ : Nd)) (k := xi) (x0.res (i := 3) rfl) (by omega)).some_ (by decide) fun i1 j1 => ?_
   refine m_fieldE (j' := xi * 4 + 1) sv j1 rfl rfl rfl (own_nds (t := ((foldS (clamp b) (max 0 (clamp fr)) (t, chk t) pre).1).set (xi) (⟨(nth ((foldS (clamp b) (max 0 (clamp fr)) (t, chk t) pre).1) xi).K, (((nth ((foldS (clamp b) (max 0 (clamp fr)) (t, chk t) pre).1) xi).N) + (clamp (b))), (nth ((foldS (clamp b) (max 0 (clamp fr)) (t, chk t) pre).1) xi).M, (nth ((foldS (clamp b) (max 0 (clamp fr)) (t, chk t) pre).1) xi).S⟩ : Nd)) (k := xi) (x0.res (i := 3) rfl) (by omega)).some_ Tryd.underlying39 rfl sz3 rfl rfl (by decide) fun i1 b1 => ?_
   refine lde 1 (xi * 4) b1 (own_nds (t := ((foldS (clamp b) (max 0 (clamp fr)) (t, chk t) pre).1).set (xi) (⟨(nth ((foldS (clamp b) (max 0 (clamp fr)) (t, chk t) pre).1) xi).K, (((nth ((foldS (clamp b) (max 0 (clamp fr)) (t, chk t) pre).1) xi).N) + (clamp (b))), (nth ((foldS (clamp b) (max 0 (clamp fr)) (t, chk t) pre).1) xi).M, (nth ((foldS (clamp b) (max 0 (clamp fr)) (t, chk t) pre).1) xi).S⟩ : Nd)) (k := xi) (x0.res (i := 3) rfl) (by omega)) fun i1 j1 => ?_
   refine lR j1 fun i1 b1 => ?_
   refine wn h1 ?_
   rcases Decidable.em (99 < (((nth (((foldS (clamp b) (max 0 (clamp fr)) (t, chk t) pre).1).set (xi) (⟨(nth ((foldS (clamp b) (max 0 (clamp fr)) (t, chk t) pre).1) xi).K, (((nth ((foldS (clamp b) (max 0 (clamp fr)) (t, chk t) pre).1) xi).N) + (clamp (b))), (nth ((foldS (clamp b) (max 0 (clamp fr)) (t, chk t) pre).1) xi).M, (nth ((foldS (clamp b) (max 0 (clamp fr)) (t, chk t) pre).1) xi).S⟩ : Nd)) xi).N))) with h1 | h1
   ·
    have i1 := b1.setb (d := 64) (b := true) rfl (decide_eq_true h1)
    refine wpIn_cond_true (i1.ev rfl) ?_
    refine ci_region (by kernel_rfl) (out_block (out_block out_rPost)) ?_
    refine sto 2 i1 x0 fun j1 f1 k1 v0 => ?_
    refine wpList_nil ?_
    refine x_block_n <| x_block_n ?_
    have k1 : St w0 Z none_ f1 [.box i0 3 [.int .i64 ((clamp (b)))], .box d0 3 [.int .i64 ((max 0 ((clamp (fr)))))], .box k0 27 [.int .i64 2], .row Ao ((((foldS (clamp b) (max 0 (clamp fr)) (t, chk t) pre).1).set (xi) (⟨(nth ((foldS (clamp b) (max 0 (clamp fr)) (t, chk t) pre).1) xi).K, (((nth ((foldS (clamp b) (max 0 (clamp fr)) (t, chk t) pre).1) xi).N) + (clamp (b))), (nth ((foldS (clamp b) (max 0 (clamp fr)) (t, chk t) pre).1) xi).M, (nth ((foldS (clamp b) (max 0 (clamp fr)) (t, chk t) pre).1) xi).S⟩ : Nd)).length) co 39 4 (encNs (((foldS (clamp b) (max 0 (clamp fr)) (t, chk t) pre).1).set (xi) (⟨(nth ((foldS (clamp b) (max 0 (clamp fr)) (t, chk t) pre).1) xi).K, (((nth ((foldS (clamp b) (max 0 (clamp fr)) (t, chk t) pre).1) xi).N) + (clamp (b))), (nth ((foldS (clamp b) (max 0 (clamp fr)) (t, chk t) pre).1) xi).M, (nth ((foldS (clamp b) (max 0 (clamp fr)) (t, chk t) pre).1) xi).S⟩ : Nd))), .box o0 22 [.slice Ao (((foldS (clamp b) (max 0 (clamp fr)) (t, chk t) pre).1).length) co]] [dShapes, dRow 4 tA t.length tc (encNs t), dAg c0 b0, dBox q0 [.slice tA t.length tc], dAg u0 (imm Z w0 [.box i0 3 [.int .i64 ((clamp (b)))], .box d0 3 [.int .i64 ((max 0 ((clamp (fr)))))], .box k0 27 [.int .i64 (((foldS (clamp b) (max 0 (clamp fr)) (t, chk t) pre).2))], .row Ao (((foldS (clamp b) (max 0 (clamp fr)) (t, chk t) pre).1).length) co 39 4 (encNs ((foldS (clamp b) (max 0 (clamp fr)) (t, chk t) pre).1)), .box o0 22 [.slice Ao (((foldS (clamp b) (max 0 (clamp fr)) (t, chk t) pre).1).length) co]] u0), dAg u0 h0, dAg d1 f0, dAg c1 z0] := v0
    exact ⟨_, _, 4, k1, rfl, _, _, (by rw [foldS_snoc, step_yes (by omega) (by omega)]; simp only [List.length_set]; (repeat' split) <;> first | rfl | (exfalso; omega))⟩
   have k1 := b1.setb (d := 64) (b := false) rfl (decide_eq_false h1)
   refine wpIn_cond_false (k1.ev rfl) ?_
   refine wpIn_skip ?_
   refine x_block_n <| x_block_n ?_
   have k1 : St w0 Z none_ t0 [.box i0 3 [.int .i64 ((clamp (b)))], .box d0 3 [.int .i64 ((max 0 ((clamp (fr)))))], .box k0 27 [.int .i64 (((foldS (clamp b) (max 0 (clamp fr)) (t, chk t) pre).2))], .row Ao ((((foldS (clamp b) (max 0 (clamp fr)) (t, chk t) pre).1).set (xi) (⟨(nth ((foldS (clamp b) (max 0 (clamp fr)) (t, chk t) pre).1) xi).K, (((nth ((foldS (clamp b) (max 0 (clamp fr)) (t, chk t) pre).1) xi).N) + (clamp (b))), (nth ((foldS (clamp b) (max 0 (clamp fr)) (t, chk t) pre).1) xi).M, (nth ((foldS (clamp b) (max 0 (clamp fr)) (t, chk t) pre).1) xi).S⟩ : Nd)).length) co 39 4 (encNs (((foldS (clamp b) (max 0 (clamp fr)) (t, chk t) pre).1).set (xi) (⟨(nth ((foldS (clamp b) (max 0 (clamp fr)) (t, chk t) pre).1) xi).K, (((nth ((foldS (clamp b) (max 0 (clamp fr)) (t, chk t) pre).1) xi).N) + (clamp (b))), (nth ((foldS (clamp b) (max 0 (clamp fr)) (t, chk t) pre).1) xi).M, (nth ((foldS (clamp b) (max 0 (clamp fr)) (t, chk t) pre).1) xi).S⟩ : Nd))), .box o0 22 [.slice Ao (((foldS (clamp b) (max 0 (clamp fr)) (t, chk t) pre).1).length) co]] [dShapes, dRow 4 tA t.length tc (encNs t), dAg c0 b0, dBox q0 [.slice tA t.length tc], dAg u0 (imm Z w0 [.box i0 3 [.int .i64 ((clamp (b)))], .box d0 3 [.int .i64 ((max 0 ((clamp (fr)))))], .box k0 27 [.int .i64 (((foldS (clamp b) (max 0 (clamp fr)) (t, chk t) pre).2))], .row Ao (((foldS (clamp b) (max 0 (clamp fr)) (t, chk t) pre).1).length) co 39 4 (encNs ((foldS (clamp b) (max 0 (clamp fr)) (t, chk t) pre).1)), .box o0 22 [.slice Ao (((foldS (clamp b) (max 0 (clamp fr)) (t, chk t) pre).1).length) co]] u0), dAg u0 h0, dAg d1 f0, dAg c1 z0] := x0
   exact ⟨_, _, 4, k1, rfl, _, _, (by rw [foldS_snoc, step_yes (by omega) (by omega)]; simp only [List.length_set]; (repeat' split) <;> first | rfl | (exfalso; omega))⟩
  ·
   rintro k1 m1 x0 ⟨Ao, co, rfl⟩ t0
   have z0 := Reg.marked y0 k1
   refine x_block_n <| xn p0 <| wp_seq_k fun p0 y0 => wsc fun p0 c1 => lR z0 fun p0 f0 => ?_
   refine wn c1 ?_
   rcases Decidable.em (((((foldS (clamp b) (max 0 (clamp fr)) (t, chk t) (nodesL t)).2))) = 0) with c1 | c1
   ·
    refine wcfb f0 rfl (by rw [(decide_eq_true c1)]; rfl) fun p0 => ?_
    refine wp_skip <| xn y0 <| wsc fun y0 z0 => lR p0 fun y0 d1 => ?_
    refine wn z0 <| wp_ret ?_
    have z0 : St w0 Z none_ x0 [.box i0 3 [.int .i64 ((clamp (b)))], .box d0 3 [.int .i64 ((max 0 ((clamp (fr)))))], .box k0 27 [.int .i64 ((((foldS (clamp b) (max 0 (clamp fr)) (t, chk t) (nodesL t)).2)))], .row Ao (((foldS (clamp b) (max 0 (clamp fr)) (t, chk t) (nodesL t)).1).length) co 39 4 (encNs ((foldS (clamp b) (max 0 (clamp fr)) (t, chk t) (nodesL t)).1)), .box o0 22 [.slice Ao (((foldS (clamp b) (max 0 (clamp fr)) (t, chk t) (nodesL t)).1).length) co]] [dShapes, dRow 4 tA t.length tc (encNs t), dAg c0 b0, dBox q0 [.slice tA t.length tc], dMark w0.heap.size k1] := t0
    obtain ⟨y0, p0⟩ := z0.shut (i := 4) rfl [] (fun _ h => by cases h)
    refine m_mark (.inl rfl) d1 rfl y0 (res2 d1 rfl rfl rfl _) ?_
    have y0 : sfA t b fr = (foldS (clamp b) (max 0 (clamp fr)) (t, chk t) (nodesL t)).1 := (sfE_prog hc).2 (by rw [(sfE_prog hc).1]; assumption)
    rw [y0]
    refine ⟨Ao, co, ?_, p0.fr, (p0.res (i := 3) rfl), (p0.fresh (i := 3) rfl)⟩
    exact ret_t2 rfl (ret_i (by first | exact (sfE_prog hc).1.symm | (rw [(sfE_prog hc).1]; symm; assumption)))
   refine wctb f0 rfl (by rw [(decide_eq_false c1)]; rfl) fun p0 => ?_
   refine wp_seq_k fun c1 f0 => ?_
   obtain ⟨c1, y0, d1⟩ := t0.agree
   refine d_reg3 (n := 3) d1 5 (pc 2 0 pn) (pan_then (pan_then pan_bodyM)) fun y0 t0 z0 h0 u0 h1 => ?_
   refine dR [0, 1, 2] p0 fun h1 t0 => ?_
   refine wpAnyH_done (by kernel_rfl) (z0 _ _ ?_) _
   refine xn f0 <| wp_ret <| x_then_r ?_
   have f0 : St w0 Z none_ h0 [.box i0 3 [.int .i64 ((clamp (b)))], .box d0 3 [.int .i64 ((max 0 ((clamp (fr)))))], .box k0 27 [.int .i64 ((((foldS (clamp b) (max 0 (clamp fr)) (t, chk t) (nodesL t)).2)))], .row Ao (((foldS (clamp b) (max 0 (clamp fr)) (t, chk t) (nodesL t)).1).length) co 39 4 (encNs ((foldS (clamp b) (max 0 (clamp fr)) (t, chk t) (nodesL t)).1)), .box o0 22 [.slice Ao (((foldS (clamp b) (max 0 (clamp fr)) (t, chk t) (nodesL t)).1).length) co]] [dShapes, dRow 4 tA t.length tc (encNs t), dAg c0 b0, dBox q0 [.slice tA t.length tc], dMark w0.heap.size k1, dAg x0 c1] := u0
   obtain ⟨u0, h0⟩ := f0.shut (i := 4) rfl [] (fun _ h => by cases h)
   refine m_mark (.inl rfl) t0 rfl u0 (res2 t0 rfl rfl rfl _) ?_
   have u0 : sfA t b fr = [] := sf_bad (by rw [(sfE_prog hc).1]; assumption)
   rw [u0]
   refine ⟨none, 0, ?_, h0.fr, nil_row1, nil_row2⟩
   exact ret_t2 rfl (ret_i (by first | exact (sfE_prog hc).1.symm | (rw [(sfE_prog hc).1]; symm; assumption)))
  rintro _ _ _ _ _ _ h _
  exact h.elim
 refine wctb j0 rfl (by rw [(decide_eq_false n0)]; rfl) fun h0 => ?_
 refine wp_seq_k fun n0 j0 => ?_
 obtain ⟨n0, u0, t0⟩ := m0.agree
 refine d_reg3 (n := 3) t0 2 (pc 2 0 pn) (pan_then (pan_then pan_bodyM)) fun u0 n0 m0 f0 c1 x0 => ?_
 refine dR [0, 1, 2] h0 fun x0 f0 => ?_
 refine wpAnyH_done (by kernel_rfl) (m0 _ _ ?_) _
 refine xn j0 <| wp_ret <| x_then_r <| m_none (.inl rfl) f0 rfl (res2 f0 rfl rfl rfl _) ?_
 have f0 : sfA t b fr = [] := (sfE_no (by assumption)).2
 rw [f0]
 refine ⟨none, 0, ?_, c1.fr, nil_row1, nil_row2⟩
 exact ret_t2 rfl (ret_i (by exact (sfE_no (by assumption)).1.symm))
theorem backwardMk_calls (w0 : World) (Z : Nat → Prop) (hZ : ∀ k, Z k → k < w0.heap.size) (tA : Option Addr) (tc : Nat) (t : List Nd) (ht : (dRow 4 tA t.length tc (encNs t)).φ w0 Z) (hl : t.length ≤ 1000000 := by first | assumption | omega | (simp <;> omega)) :
    Calls Tryd.prog 93 [.slice tA t.length tc].toArray w0 (fun e w' => ∃ q0 : Nat, e = .returned (.func (.func 100) #[] #[.pointer (some ⟨q0, 0, none⟩)]) ∧ Fr none_ w0 w' ∧ (Res.box q0 22 [.slice tA t.length tc]).holds w' ∧ (∀ k, (Res.box q0 22 [.slice tA t.length tc]).blk = some k → w0.heap.size ≤ k)) := by
 have b0 := s0 (M := none_) hZ (zc ht zn)
 refine c_enter Tryd.func93 rfl Tryd.ntmps93 rfl fun c0 d0 => ?_
 refine wsc fun c0 f0 => bxx d0 b0 fun c0 h0 i0 j0 k0 => ?_
 refine aw j0 f0 fun h0 c0 => ?_
 refine wsc fun f0 h0 => r_makeFunc sv c0 rfl rfl rfl (by decide) fun f0 j0 => ?_
 refine aw j0 h0 fun f0 c0 => ?_
 refine wp_ret <| er1 c0 ?_
 refine ⟨i0, ?_, k0.fr, (k0.res (i := 0) rfl), (k0.fresh (i := 0) rfl)⟩
 exact cr rfl
theorem snodes_yields (w0 : World) (Z : Nat → Prop) (tg : Nat) (tA : Option Addr) (tc : Nat) (t : List Nd) (hShp : Shapes w0 Z) (ht : (dRow 4 tA t.length tc (encNs t)).φ w0 Z) (htb : (dBox tg [.slice tA t.length tc]).φ w0 Z) (hl : t.length ≤ 1000000) (hsm : sml t) (hc : chk t = 0) :
    Yields Tryd.prog 92 [.pointer (some ⟨tg, 0, none⟩)].toArray (fun x : Nd × Int => #[.agg (encN x.1).toArray, .int .i64 x.2]) (nodesN t) Z w0 := by
 refine yields_ofM Tryd.func92 rfl Tryd.ntmps92 rfl [dShapes, dRow 4 tA t.length tc (encNs t), dBox tg [.slice tA t.length tc]] (by
  intro d hd
  simp only [List.mem_cons, List.not_mem_nil, or_false] at hd
  rcases hd with rfl | rfl | rfl
  · exact hShp
  · exact ht
  · exact htb
  ) (fun lp jf jx w0 C0 M0 hY hds b0 c0 d0 => ?_)
 refine wsc fun b0 f0 => bxx c0 d0 fun b0 h0 i0 j0 k0 => ?_
 refine wn f0 <| wsc fun f0 h0 => bsl j0 k0 fun f0 b0 d0 c0 m0 => ?_
 refine alc c0 m0 fun b0 f0 k0 j0 n0 => ?_
 refine sto 2 j0 n0 fun f0 b0 m0 c0 => ?_
 refine wn h0 <| wsc fun h0 b0 => m_loadC sv m0 rfl rfl rfl (dbox_cell (c0.get (i := 3) rfl) rfl) Tryd.underlying22 rfl (by decide) fun h0 f0 => ?_
 have h0 := c0.nf
 refine kcl f0 ok93 (backwardMk_calls _ _ h0.il _ _ _ (h0.g 2)) ?_
 rintro f0 c0 ⟨m0, rfl, n0, j0, o0⟩
 have c0 := h0.callO n0 j0 o0
 refine ⟨_, rfl, fun o0 j0 => ?_⟩
 refine wn b0 <| wp_block ?_
 have b0 := c0.nf
 have c0 : Reg o0 50 [(1000000, .bool false), (2, .pointer (some ⟨i0, 0, none⟩)), (3, .pointer (some ⟨k0, 0, none⟩)), (13, .func (.func 100) #[] #[.pointer (some ⟨m0, 0, none⟩)])] := (j0.sub (rc2 (rc rfl (rc rfl rnl))))
 refine w_rangeP (jx := jx) (xs := bwL t) (encs := (fun x : Int × Nd => #[.int .i64 x.1, .agg (encN x.2).toArray])) (i := 0) (ds0 := [dShapes, dRow 4 tA t.length tc (encNs t), dBox tg [.slice tA t.length tc]]) (c0.ev rfl) ok100 (backward_pure m0 tA tc t (by omega)) (fun _ => rfl) b0 rfl hY.zd hds (fun (pre : List (Int × Nd)) (sb : List (Nd × Int)) (mm : List Res) => ∃ k : Nat, ∃ Ts : List T, ∃ us : List Int, ∃ Ao : Option Addr, ∃ co : Nat, mm = [.box i0 126 [.func (.yield lp) #[] #[]], .row Ao ((us).length) co 3 1 (encIs us), .box k0 82 [.slice Ao ((us).length) co], .box m0 22 [.slice tA t.length tc]] ∧ sb = (nodesN t).take k ∧ pre = (bwL t).take k ∧ (k ≤ t.length) ∧ (VInv t k Ts us)) (fun cc (sb : List (Nd × Int)) (mm : List Res) => cc = Code.ret ∧ sb <+: nodesN t) ⟨0, [treeOf t], [0], (some ⟨d0, 0, none⟩), 1, rfl, rfl, rfl, by omega, VInv.zero hc⟩ ?_ ?_ ?_ ?_
 ·
  rintro _ _ _ W ⟨k, Ts, us, Ao, co, rfl, rfl, rfl, hk, hv⟩ hm hd
  exact ⟨box_cell (hm _ (List.mem_of_getElem? (i := 3) rfl)) rfl, fun k hk => nds_elem (hd _ (List.mem_of_getElem? (i := 1) rfl)).2 hk⟩
 ·
  rintro b0 d0 j0 pre x sb o0 m1 hp ⟨k, Ts, us, Ao, co, rfl, rfl, rfl, hk, hv⟩ n0
  obtain ⟨hkl, rfl, hbs⟩ := bwL_next hk hp
  obtain ⟨hvr, hu0, hul, hub, hpre, Ts', hv'⟩ := hv.step hkl
  have hpn := nodesN_step (n := t.length - (k + 1)) hpre (by omega)
  refine (?_ : ∀ j0, Reg j0 50 [(15, .agg #[.int .i64 (((nth t (t.length - (k + 1))).K)), .int .i64 (((nth t (t.length - (k + 1))).N)), .int .i64 (((nth t (t.length - (k + 1))).M)), .string ((nth t (t.length - (k + 1))).S)]), (14, .int .i64 ((t.length - (k + 1) : Nat) : Int)), (1000000, .bool false), (2, .pointer (some ⟨i0, 0, none⟩)), (3, .pointer (some ⟨k0, 0, none⟩)), (13, .func (.func 100) #[] #[.pointer (some ⟨m0, 0, none⟩)])] → Code.wpIn (rI b0) 0 _ _ _ j0 o0) _ (Reg.round2n c0 (by decide) (by decide) rfl)
  intro j0 o0
  refine ci_region (by kernel_rfl) (out_then (fun _ _ h => h)) ?_
  refine alc o0 n0 fun j0 h0 f0 p0 q0 => ?_
  refine sto 4 p0 q0 fun h0 j0 o0 n0 => ?_
  refine wpList_nil ?_
  have j0 := n0.nf
  refine x_then_n ⟨_, _, j0, fun n0 h0 q0 => ?_⟩
  refine wpIn_block ?_
  refine wpIn_seq_k fun h0 j0 => ?_
  refine ci_region (by kernel_rfl) (out_then (out_block out_rPostP)) ?_
  refine lR o0 fun h0 p0 => ?_
  refine sbi ((((us).length : Nat) : Int) - 1) p0 fun h0 o0 => ?_
  refine ix (((us).length) - (1)) ((((us).length) - (1)) * 1) o0 (own_ints (t := us) (k := ((us).length) - (1)) (q0.res (i := 1) rfl) (by omega)).some_ fun h0 p0 => ?_
  refine lde 0 ((((us).length) - (1)) * 1) p0 (own_ints (t := us) (k := ((us).length) - (1)) (q0.res (i := 1) rfl) (by omega)) fun h0 o0 => ?_
  refine aw o0 j0 fun h0 p0 => ?_
  refine wpIn_seq_k fun j0 h0 => ?_
  refine ci_region (by kernel_rfl) (out_then (out_block out_rPostP)) ?_
  refine lR p0 fun j0 o0 => ?_
  refine sbi ((((us).length : Nat) : Int) - 1) o0 fun j0 p0 => ?_
  have j0 := own_cap (q0.res (i := 1) rfl)
  refine m_sliceP (q := ((us).length) - (1)) sv p0 rfl rfl rfl rfl (by omega) Tryd.underlying82 sz3 (by omega) (by decide) fun j0 o0 => ?_
  have j0 := q0.trim encI_len (i := 1) (L := us) rfl (((us).length) - (1)) (by omega)
  have q0 := Reg.cons o0 o0 (rs (i := 26) (n' := ((us).take (((us).length) - (1))).length) rfl (by rw [List.length_take]; omega))
  refine sto 2 q0 j0 fun o0 p0 s0 t0 => ?_
  refine wn h0 <| wpIn_seq_k fun h0 p0 => ?_
  refine wpIn_seq_k fun h0 o0 => ?_
  refine cyi_region ?_
  refine m_load (i := 0) (st_listInV rfl rfl) s0 t0 rfl rfl rfl rfl rfl Tryd.underlying126 rfl (by decide) fun h0 q0 => ?_
  refine m_loadN (i := 4) (vs := [.int .i64 (((nth t (t.length - (k + 1))).K)), .int .i64 (((nth t (t.length - (k + 1))).N)), .int .i64 (((nth t (t.length - (k + 1))).M)), .string ((nth t (t.length - (k + 1))).S)]) (st_listInV rfl rfl) q0 t0 rfl rfl rfl rfl rfl Tryd.underlying39 rfl sz39 (by decide) fun h0 s0 => ?_
  refine r_move (st_listInV rfl rfl) s0 rfl rfl rfl (by decide) fun h0 q0 => ?_
  have h0 := t0.nf
  refine y_callX (t := .tmp 27) (xs := [.tmp 28, .tmp 29]) (pre := (nodesN t).take k) (i := 0) (ds0 := [dShapes, dRow 4 tA t.length tc (encNs t), dBox tg [.slice tA t.length tc]]) hY rfl q0 h0 rfl rfl rfl rfl (by decide) ((((nth t (t.length - (k + 1))), ((nthI us (((us).length) - (1))))) : Nd × Int)) rfl rfl (nodesN_pre hpn) hds (fun t0 s0 j0 u0 => ?_) fun t0 s0 j0 u0 => ?_
  ·
   refine r_not (st_listInV rfl rfl) j0 rfl rfl rfl (by decide) fun s0 t0 => ?_
   refine li_nil ?_
   refine xn o0 <| wpIn_cond_false (t0.ev rfl) ?_
   refine wpIn_skip ?_
   refine xn p0 <| wpIn_seq_k fun p0 s0 => ?_
   refine ci_region (by kernel_rfl) (out_then (out_block out_rPostP)) ?_
   refine lR t0 fun p0 h0 => ?_
   have p0 := u0.nf
   refine kcl h0 ok94 (binds_calls _ _ p0.il (nth t (t.length - (k + 1))) (p0.g 1) (hs := (hsm _ (by omega)))) ?_
   rintro h0 t0 ⟨q0, v0, rfl, x0, y0⟩
   have t0 := p0.below x0.below
   have x0 := p0.dN t0 y0
   refine ⟨_, rfl, fun t0 y0 => ?_⟩
   refine lR y0 fun t0 p0 => ?_
   refine wn s0 <| wpIn_seq_k fun s0 t0 => ?_
   refine ci_region (by kernel_rfl) (out_then (out_block out_rPostP)) ?_
   refine lR p0 fun s0 y0 => ?_
   refine wn t0 <| wpIn_block ?_
   have t0 : (us).take (((us).length) - (1)) = us.take (us.length - 1) ++ ((bindsR (nth t (t.length - (k + 1)))).take 0).map (nthI us (us.length - 1) + ·) := by simp
   have s0 := x0
   try simp only [List.set_cons_zero, List.set_cons_succ, List.set_nil] at s0
   rw [t0] at s0
   refine wpIn_loop_ghost (fun gn ga gw => ∃ j : Nat, ∃ Al : Option Addr, ∃ cl : Nat, (Reg ga 50 [(3, .pointer (some ⟨k0, 0, none⟩)), (1000000, .bool false), (6, .int .i64 ((nthI us (((us).length) - (1))))), (37, .slice q0 ((bindsR (nth t (t.length - (k + 1)))).length) v0), (38, .int .i64 (((bindsR (nth t (t.length - (k + 1)))).length : Nat) : Int)), (39, .int .i64 ((j : Nat) : Int))]) ∧ (St w0 (oldB w0) M0 gw [.box i0 126 [.func (.yield lp) #[] #[]], .row Al ((us.take (us.length - 1) ++ ((bindsR (nth t (t.length - (k + 1)))).take j).map (nthI us (us.length - 1) + ·)).length) cl 3 1 (encIs (us.take (us.length - 1) ++ ((bindsR (nth t (t.length - (k + 1)))).take j).map (nthI us (us.length - 1) + ·))), .box k0 82 [.slice Al ((us.take (us.length - 1) ++ ((bindsR (nth t (t.length - (k + 1)))).take j).map (nthI us (us.length - 1) + ·)).length) cl], .box m0 22 [.slice tA t.length tc], .box f0 39 [.int .i64 (((nth t (t.length - (k + 1))).K)), .int .i64 (((nth t (t.length - (k + 1))).N)), .int .i64 (((nth t (t.length - (k + 1))).M)), .string ((nth t (t.length - (k + 1))).S)]] [dJX jf ((nodesN t).take k ++ [((((nth t (t.length - (k + 1))), ((nthI us (((us).length) - (1))))) : Nd × Int))]) C0 M0 w0.heap.size b0 d0 n0, dShapes, dRow 4 tA t.length tc (encNs t), dBox tg [.slice tA t.length tc], dRow 1 q0 ((bindsR (nth t (t.length - (k + 1)))).length) v0 (encIs (bindsR (nth t (t.length - (k + 1)))))]) ∧ (j ≤ (bindsR (nth t (t.length - (k + 1)))).length) ∧ ((bindsR (nth t (t.length - (k + 1)))).length - j) = gn) _ ⟨0, Ao, co, (y0.sub (rc4 (rc rfl (rc rfl rnl)))), s0, by omega, rfl⟩ ?_
   rintro s0 y0 v0 ⟨j, Al, cl, q0, n0, hj, f0⟩
   have hbl := bindsR_le (nth t (t.length - (k + 1)))
   have hbj := bindsR_nth (n := nth t (t.length - (k + 1))) j
   have hjl : (us.take (us.length - 1) ++ ((bindsR (nth t (t.length - (k + 1)))).take j).map (nthI us (us.length - 1) + ·)).length ≤ t.length + 8 := by have := bindsR_le (nth t (t.length - (k + 1))); rw [List.length_append, List.length_take, List.length_map, List.length_take]; omega
   refine wpIn_seq_k fun f0 v0 => ?_
   refine ci_region (by kernel_rfl) (out_then (out_then (out_block (out_block out_rPostP)))) ?_
   refine lR q0 fun f0 y0 => ?_
   refine wn v0 <| wpIn_seq_k fun v0 f0 => ?_
   rcases Decidable.em (((j : Nat) : Int) < (((bindsR (nth t (t.length - (k + 1)))).length : Nat) : Int)) with v0 | v0
   ·
    have q0 := y0.setb (d := 40) (b := true) rfl (decide_eq_true v0)
    refine wpIn_cond_true (q0.ev rfl) ?_
    refine wpIn_skip ?_
    refine xn f0 <| wpIn_seq_k fun f0 s0 => ?_
    refine wpIn_block ?_
    refine wpIn_seq_k fun f0 d0 => ?_
    refine ci_region (by kernel_rfl) (out_then (out_block (out_then (out_then (out_block (out_block out_rPostP)))))) ?_
    refine ix j (j * 1) q0 (ints_elem (t := bindsR (nth t (t.length - (k + 1)))) (k := j) (n0.row (i := 4) rfl).2 (by omega)).some_ fun f0 b0 => ?_
    refine lde 0 (j * 1) b0 (ints_elem (t := bindsR (nth t (t.length - (k + 1)))) (k := j) (n0.row (i := 4) rfl).2 (by omega)) fun f0 q0 => ?_
    refine aw q0 d0 fun f0 b0 => ?_
    refine ci_region (by kernel_rfl) (out_block (out_then (out_then (out_block (out_block out_rPostP))))) ?_
    refine lR b0 fun d0 f0 => ?_
    refine adi ((nthI us (((us).length) - (1))) + (nthI (bindsR (nth t (t.length - (k + 1)))) j)) f0 fun d0 b0 => ?_
    refine bsl b0 n0 fun d0 f0 q0 m0 k0 => ?_
    refine m_appendF (f := encI) (i := 1) (us.take (us.length - 1) ++ ((bindsR (nth t (t.length - (k + 1)))).take j).map (nthI us (us.length - 1) + ·)) ([((nthI us (((us).length) - (1))) + (nthI (bindsR (nth t (t.length - (k + 1)))) j))]) sv m0 k0 rfl rfl rfl rfl rfl encI_len (encI_one _) Tryd.underlying82 zi3 rfl rfl (own_lnews (f := encI) (k0.res (i := 5) rfl)) rfl (by (simp only [List.length_cons, List.length_nil]; omega)) (by decide) fun q0 f0 d0 b0 i0 t0 x0 => ?_
    have i0 : ((us.take (us.length - 1) ++ ((bindsR (nth t (t.length - (k + 1)))).take j).map (nthI us (us.length - 1) + ·)) ++ ([((nthI us (((us).length) - (1))) + (nthI (bindsR (nth t (t.length - (k + 1)))) j))]) : List Int).length = (us.take (us.length - 1) ++ ((bindsR (nth t (t.length - (k + 1)))).take j).map (nthI us (us.length - 1) + ·)).length + 1 := by (simp only [List.length_append, List.length_take, List.length_cons, List.length_nil]; done)
    have i0 := x0.erase 5
    refine sto 2 t0 i0 fun x0 f0 q0 k0 => ?_
    refine wpList_nil ?_
    refine x_block_n <| xn s0 <| ci_region (by kernel_rfl) (out_then (out_block (out_block out_rPostP))) ?_
    refine adi ((j + 1 : Nat) : Int) q0 fun s0 f0 => ?_
    refine mv f0 fun s0 q0 => ?_
    refine wpList_nil ?_
    have s0 : (us.take (us.length - 1) ++ ((bindsR (nth t (t.length - (k + 1)))).take j).map (nthI us (us.length - 1) + ·)) ++ ([((nthI us (((us).length) - (1))) + (nthI (bindsR (nth t (t.length - (k + 1)))) j))]) = us.take (us.length - 1) ++ ((bindsR (nth t (t.length - (k + 1)))).take (j + 1)).map (nthI us (us.length - 1) + ·) := by rw [map_step (by omega), ← List.append_assoc]
    have f0 := k0
    rw [s0] at f0
    exact ⟨_, by omega, j + 1, d0, b0, (q0.sub (rc4 (rc rfl (rc rfl rnl)))), f0, by omega, rfl⟩
   have f0 := y0.setb (d := 40) (b := false) rfl (decide_eq_false v0)
   refine wpIn_cond_false (f0.ev rfl) ?_
   refine wpIn_exit ?_
   refine x_then_e ?_
   refine x_then_e ?_
   refine x_block_eq ?_
   refine x_block_n ?_
   have f0 := n0.nf
   have n0 := f0.erase 4
   have f0 : us.take (us.length - 1) ++ ((bindsR (nth t (t.length - (k + 1)))).take j).map (nthI us (us.length - 1) + ·) = us.take (us.length - 1) ++ (bindsR (nth t (t.length - (k + 1)))).map (nthI us (us.length - 1) + ·) := by rw [show j = (bindsR (nth t (t.length - (k + 1)))).length by omega, List.take_length]
   have v0 := n0
   rw [f0] at v0
   exact ⟨_, _, _, v0, k + 1, Ts', _, _, _, rfl, hpn, hbs, by omega, hv'⟩
  refine r_not (st_listInV rfl rfl) j0 rfl rfl rfl (by decide) fun v0 f0 => ?_
  refine li_nil ?_
  refine xn o0 <| wpIn_cond_true (f0.ev rfl) ?_
  refine wpIn_ret ?_
  refine x_then_r <| x_block_r ?_
  have f0 := u0.nf
  exact ⟨_, _, _, f0, rfl, nodesN_pre hpn⟩
 ·
  rintro f0 u0 o0 sb m1 v0 hDn ⟨k, Ts, us, Ao, co, rfl, rfl, hpe, hk, hv⟩ j0
  have v0 := Reg.marked c0 u0
  have hkf := bwL_full hk hpe
  refine x_block_n ?_
  have u0 := j0.nf
  exact m_allX (.inr rfl) v0 rfl rfl u0 hDn (nodesN_all (hv.all (by omega)))
 rintro u0 v0 j0 cc sb m1 o0 hDn ⟨rfl, hsp⟩ f0
 have o0 := Reg.marked c0 v0
 refine wp_ret <| x_block_r ?_
 exact m_stopX (.inl rfl) o0 rfl rfl f0 hDn (hsp)
theorem snodesMk_calls (w0 : World) (Z : Nat → Prop) (hZ : ∀ k, Z k → k < w0.heap.size) (tA : Option Addr) (tc : Nat) (t : List Nd) (ht : (dRow 4 tA t.length tc (encNs t)).φ w0 Z) (hl : t.length ≤ 1000000 := by first | assumption | omega | (simp <;> omega)) :
    Calls Tryd.prog 82 [.slice tA t.length tc].toArray w0 (fun e w' => ∃ q0_0 : Nat, e = .returned (.func (.func 92) #[] #[.pointer (some ⟨q0_0, 0, none⟩)]) ∧ Fr none_ w0 w' ∧ (dBox q0_0 [.slice tA t.length tc]).φ w' (nxt Z w0 w')) := by
 have b0 := s0 (M := none_) hZ (zc ht zn)
 refine c_enter Tryd.func82 rfl Tryd.ntmps82 rfl fun c0 d0 => ?_
 refine wsc fun c0 f0 => bxx d0 b0 fun c0 h0 i0 j0 k0 => ?_
 refine aw j0 f0 fun h0 c0 => ?_
 refine wsc fun f0 h0 => r_makeFunc sv c0 rfl rfl rfl (by decide) fun f0 j0 => ?_
 refine aw j0 h0 fun f0 c0 => ?_
 refine wp_ret <| er1 c0 ?_
 obtain ⟨c0, h0⟩ := k0.box_data (i := 0) rfl (fun _ h => h)
 have k0 := c0.data (dBox i0 [.slice tA t.length tc]) h0
 refine ⟨i0, ?_, k0.fr, ((k0.get (i := 1) rfl).imp imm_nxt id)⟩
 exact cr rfl
theorem revN_calls (w0 : World) (Z : Nat → Prop) (hZ : ∀ k, Z k → k < w0.heap.size) (tA : Option Addr) (tc : Nat) (t : List Nd) (ht : (Res.row tA (t).length tc 39 4 (encNs t)).holds w0) (htz : ∀ k, rM tA k → ¬ Z k) (hl : t.length ≤ 1000000 := by first | assumption | omega | (simp <;> omega)) :
    Calls Tryd.prog 84 [.slice tA t.length tc].toArray w0 (fun e w' => e = .returned (.tuple #[]) ∧ Fr (rM tA) w0 w' ∧ (Res.row tA (t.reverse).length tc 39 4 (encNs t.reverse)).holds w') := by
 have hstart : ∀ k, Z k → imm Z w0 [.row tA ((t).length) tc 39 4 (encNs t)] w0 k ∧ w0.heap[k]? = w0.heap[k]? := fun k hk => imm_startR hZ htz hk
 have b0 : St w0 Z (rM tA) w0 [.row tA ((t).length) tc 39 4 (encNs t)] [] := St.startR w0 Z _ _ _ _ _ _ _ ht (by
  intro d hd
  cases hd
  )
 refine c_enter Tryd.func84 rfl Tryd.ntmps84 rfl fun c0 d0 => ?_
 refine wsc fun c0 f0 => lR d0 fun c0 h0 => ?_
 refine sbi (((t.length : Nat) : Int) - 1) h0 fun c0 d0 => ?_
 refine lR d0 fun c0 h0 => ?_
 refine wn f0 <| wp_block ?_
 refine wp_loop_ghost (fun gn ga gw => ∃ k : Nat, ∃ R : List Nd, (Reg ga 28 [(1000000, .bool false), (0, .slice tA t.length tc), (2, .int .i64 ((k : Nat) : Int)), (3, .int .i64 (((t.length : Nat) : Int) - ((k : Nat) : Int) - 1))]) ∧ (St w0 Z (rM tA) gw [.row tA ((R).length) tc 39 4 (encNs R)] []) ∧ (RevN t R k) ∧ (2 * k ≤ t.length + 1) ∧ (t.length - k) = gn) _ ⟨0, t, (h0.sub (rc2 (rc rfl (rc rfl rnl)))), b0, RevN.zero t, by omega, rfl⟩ ?_
 rintro h0 b0 f0 ⟨k, R, c0, d0, hr, hkn, i0⟩
 have hrl := hr.len
 refine wp_seq_k fun i0 b0 => wsc fun i0 h0 => lR c0 fun i0 j0 => ?_
 refine wn h0 ?_
 rcases Decidable.em (((k : Nat) : Int) < (((t.length : Nat) : Int) - ((k : Nat) : Int) - 1)) with h0 | h0
 ·
  refine wct j0 (decide_eq_true h0) fun i0 => ?_
  refine wp_skip <| xn b0 <| wp_seq_k fun b0 c0 => wp_block ?_
  obtain ⟨b0, k0, m0⟩ := d0.agree
  refine dl_region2 (S := (sW f0 b0 [(Res.row tA ((R).length) tc 39 4 (encNs R)).holds])) (n := 16) [13, 14, 15] mixed rfl m0 (pan_block (pan_then (pan_then (pan_block pan_body)))) fun k0 n0 o0 p0 q0 => ?_
  have p0 := sWI q0 0 (pr 0 pn)
  refine dtv 0 n0 i0 fun k0 m0 => ?_
  refine dtv 1 n0 m0 fun k0 i0 => ?_
  refine dtv 2 n0 i0 fun k0 m0 => ?_
  refine dtv 3 n0 m0 fun k0 i0 => ?_
  refine dtv 4 n0 i0 fun k0 m0 => ?_
  refine dtv 5 n0 m0 fun k0 i0 => ?_
  refine dta 6 rfl n0 i0 (want_n rfl) (fun x => m_index (i := (t.length) - (k + 1)) (j := ((t.length) - (k + 1)) * 4) (sy i0) i0 rfl rfl rfl rfl Tryd.underlying22 sz39 (by omega) (by omega) (own_nds (t := R) (k := (t.length) - (k + 1)) (q0.res (i := 0) rfl) (by omega)).some_ rfl (by decide) gt) fun k0 m0 => ?_
  refine dlt 7 rfl n0 m0 (want_n rfl) (fun x hx => m_loadEN (sy m0) m0 rfl rfl rfl (own_nds (t := R) (k := (t.length) - (k + 1)) (hx.r 0) (by omega)) Tryd.underlying39 rfl sz39 (by decide) gt) p0 fun k0 i0 => ?_
  refine dtv 8 n0 i0 fun k0 m0 => ?_
  refine dtv 9 n0 m0 fun k0 i0 => ?_
  refine dta 10 rfl n0 i0 (want_n rfl) (fun x => m_index (i := k) (j := k * 4) (sy i0) i0 rfl rfl rfl rfl Tryd.underlying22 sz39 (by omega) (by omega) (own_nds (t := R) (k := k) (q0.res (i := 0) rfl) (by omega)).some_ rfl (by decide) gt) fun k0 m0 => ?_
  refine dlt 11 rfl n0 m0 (want_n rfl) (fun x hx => m_loadEN (sy m0) m0 rfl rfl rfl (own_nds (t := R) (k := k) (hx.r 0) (by omega)) Tryd.underlying39 rfl sz39 (by decide) gt) p0 fun k0 i0 => ?_
  refine dta 12 rfl n0 i0 (want_n rfl) (fun x => m_index (i := k) (j := k * 4) (sy i0) i0 rfl rfl rfl rfl Tryd.underlying22 sz39 (by omega) (by omega) (own_nds (t := R) (k := k) (q0.res (i := 0) rfl) (by omega)).some_ rfl (by decide) gt) fun k0 m0 => ?_
  refine dl_one (i := 13) (by kernel_rfl) ?_
  refine m_storeE (f := encN) (i := 0) (k := k) (L := R) (z := (nth R ((t.length) - (k + 1)))) (st_op rfl (want_n rfl)) m0 q0 rfl rfl rfl rfl rfl rfl (by omega) encN_len (one1 (f := encN) encN_one) rfl sz39 fun k0 i0 p0 b0 => ?_
  have i0 : (R.set (k) (nth R ((t.length) - (k + 1)))).length = (R).length := by simp
  refine ⟨fun h => absurd h (by decide), ?_⟩
  refine dta 14 rfl n0 p0 (want_n rfl) (fun x => m_index (i := (t.length) - (k + 1)) (j := ((t.length) - (k + 1)) * 4) (sy p0) p0 rfl rfl rfl rfl Tryd.underlying22 sz39 (by omega) (by omega) (own_nds (t := R.set (k) (nth R ((t.length) - (k + 1)))) (k := (t.length) - (k + 1)) (b0.res (i := 0) rfl) (by omega)).some_ rfl (by decide) gt) fun i0 k0 => ?_
  refine dl_one (i := 15) (by kernel_rfl) ?_
  refine m_storeE (f := encN) (i := 0) (k := (t.length) - (k + 1)) (L := (R.set (k) (nth R ((t.length) - (k + 1))))) (z := (nth R k)) (st_op rfl (want_n rfl)) k0 b0 rfl rfl rfl rfl rfl rfl (by omega) encN_len (one1 (f := encN) encN_one) rfl sz39 fun i0 p0 n0 m0 => ?_
  have p0 : ((R.set (k) (nth R ((t.length) - (k + 1)))).set ((t.length) - (k + 1)) (nth R k)).length = (R.set (k) (nth R ((t.length) - (k + 1)))).length := by simp
  refine ⟨fun h => absurd h (by decide), ?_⟩
  refine dl_done (by kernel_rfl) (o0 _ _ ?_) _
  refine x_block_n <| xn c0 <| c_region ?_
  refine mv n0 fun c0 o0 => ?_
  refine adi ((k + 1 : Nat) : Int) o0 fun c0 n0 => ?_
  refine mv n0 fun c0 o0 => ?_
  refine sbi (((t.length : Nat) : Int) - ((k : Nat) : Int) - 2) o0 fun c0 n0 => ?_
  refine lR n0 fun c0 o0 => ?_
  refine wpList_nil ?_
  have c0 := m0.forget 0
  exact ⟨_, by omega, k + 1, (R.set (k) (nth R ((t.length) - (k + 1)))).set ((t.length) - (k + 1)) (nth R k), (o0.sub (rc2 (rc rfl (rc (ri rfl (by omega)) rnl)))), c0, RevN.step hr (by omega) (by omega) rfl rfl, by omega, rfl⟩
 refine wcf j0 (decide_eq_false h0) fun c0 => ?_
 refine wp_exit ?_
 refine x_then_e ?_
 refine x_then_e ?_
 refine x_block_eq ?_
 refine e_end0 c0 rfl rfl ?_
 have c0 : R = t.reverse := hr.done (by omega)
 have h0 := d0
 rw [c0] at h0
 refine ⟨?_, h0.fr, h0.res (i := 0) rfl⟩
 rfl
theorem instP_calls (w0 : World) (Z : Nat → Prop) (hZ : ∀ k, Z k → k < w0.heap.size) (v : Int) (u : Int) (psg : Nat) (psA : Option Addr) (psc : Nat) (ps : List Sl) (hps : (dRow 1 psA ps.length psc (encSs ps)).φ w0 Z) (hpss : (dAll ps).φ w0 Z) (hpsb : (dBox psg [.slice psA ps.length psc]).φ w0 Z) (hv : 0 ≤ v := by first | assumption | omega | (simp <;> omega)) (hl0 : ps.length ≤ 1000 := by first | assumption | omega | (simp <;> omega)) (hne : ∀ s ∈ ps, s.2.2 ≠ [] := by first | assumption | omega | (simp <;> omega)) :
    Calls Tryd.prog 70 [.int .i64 v, .int .i64 u, .pointer (some ⟨psg, 0, none⟩)].toArray w0 (fun e w' => ∃ (rA0 : Option Addr) (rc0 : Nat), e = .returned (.tuple #[.slice rA0 ((if v < ps.length then (nthS ps v.toNat).2.2 else [])).length rc0, .int .i64 ((if v < ps.length then u else ps.length))]) ∧ Fr none_ w0 w' ∧ (dRow 4 rA0 (((if v < ps.length then (nthS ps v.toNat).2.2 else [])).length) rc0 (encNs (if v < ps.length then (nthS ps v.toNat).2.2 else []))).φ w' (nxt Z w0 w') ∧ ((if v < ps.length then (nthS ps v.toNat).2.2 else []) = [] → rA0 = none)) := by
 have b0 := s0 (M := none_) hZ (zc hps (zc hpss (zc hpsb zn)))
 refine c_enter Tryd.func70 rfl Tryd.ntmps70 rfl fun c0 d0 => ?_
 refine wsc fun c0 f0 => lR d0 fun c0 h0 => ?_
 refine wn f0 <| wp_seq_k fun f0 c0 => wsc fun f0 d0 => mv h0 fun f0 i0 => ?_
 refine m_loadC sv i0 rfl rfl rfl (dbox_cell (b0.get (i := 2) rfl) rfl) Tryd.underlying40 rfl (by decide) fun f0 h0 => ?_
 refine lR h0 fun f0 i0 => ?_
 refine wn d0 ?_
 rcases Decidable.em ((v) < ((ps.length : Nat) : Int)) with d0 | d0
 ·
  refine wct i0 (decide_eq_true d0) fun f0 => ?_
  refine wsc fun h0 j0 => m_loadC sv f0 rfl rfl rfl (dbox_cell (b0.get (i := 2) rfl) rfl) Tryd.underlying40 rfl (by decide) fun h0 k0 => ?_
  refine mv k0 fun h0 f0 => ?_
  refine ix (((v)).toNat) ((((v)).toNat) * 1) f0 (ss_elem (t := ps) (k := ((v)).toNat) (b0.row (i := 0) rfl).2 (by omega)).some_ fun h0 k0 => ?_
  refine lde 0 ((((v)).toNat) * 1) k0 (ss_elem (t := ps) (k := ((v)).toNat) (b0.row (i := 0) rfl).2 (by omega)) fun h0 f0 => ?_
  have h0 := b0.el 1 (((v)).toNat)
  refine lR f0 fun k0 m0 => ?_
  refine wn j0 <| wp_ret <| x_then_r <| er2 m0 ?_
  have m0 : (if v < ps.length then (nthS ps v.toNat).2.2 else []) = (nthS ps (((v)).toNat)).2.2 := if_pos (by omega)
  rw [m0]
  refine ⟨((nthS ps (((v)).toNat)).1), ((nthS ps (((v)).toNat)).2.1), ?_, h0.fr, h0.rx 3, (fun h => absurd h (hne _ (nthS_mem (by omega))))⟩
  exact ret_t2 rfl (ret_i (by first | exact (if_pos (by omega)).symm | exact (if_neg (by omega)).symm))
 refine wcf i0 (decide_eq_false d0) fun h0 => ?_
 refine wp_skip <| xn c0 <| wp_seq_k fun c0 d0 => ?_
 obtain ⟨c0, i0, m0⟩ := b0.agree
 refine d_reg3 (n := 4) m0 3 pn (pan_then pan_body) fun c0 b0 j0 k0 f0 n0 => ?_
 refine dt 0 rfl b0 h0 (want_n rfl) (fun x hx => m_loadC (sy h0) h0 rfl rfl rfl (dbox_cell (sdat (i0 2 _ rfl) hx.ag) rfl) Tryd.underlying40 rfl (by decide) gt) n0 fun k0 c0 => ?_
 refine dR [1, 2, 3] c0 fun k0 n0 => ?_
 refine wpAnyH_done (by kernel_rfl) (j0 _ _ ?_) _
 refine xn d0 <| wp_ret <| er2 n0 ?_
 have n0 : (if v < ps.length then (nthS ps v.toNat).2.2 else []) = [] := if_neg (by omega)
 rw [n0]
 refine ⟨none, 0, ?_, f0.fr, ⟨Nat.le_refl _, RowI.nil _ _ _ _⟩, (fun _ => rfl)⟩
 exact ret_t2 rfl (ret_i (by first | exact (if_pos (by omega)).symm | exact (if_neg (by omega)).symm))
theorem put_calls (w0 : World) (Z : Nat → Prop) (hZ : ∀ k, Z k → k < w0.heap.size) (tA : Option Addr) (tc : Nat) (t : List Nd) (psg : Nat) (psA : Option Addr) (psc : Nat) (ps : List Sl) (hShp : Shapes w0 Z) (ht : (dRow 4 tA t.length tc (encNs t)).φ w0 Z) (hps : (dRow 1 psA ps.length psc (encSs ps)).φ w0 Z) (hpss : (dAll ps).φ w0 Z) (hpsb : (dBox psg [.slice psA ps.length psc]).φ w0 Z) (hsm : sml t := by first | assumption | omega | (simp <;> omega)) (hl : t.length ≤ 1000000 := by first | assumption | omega | (simp <;> omega)) (hc : chk t = 0 := by first | assumption | omega | (simp <;> omega)) (hok : oks (lsts ps) := by first | assumption | omega | (simp <;> omega)) (hls : ∀ x ∈ lsts ps, sml x := by first | assumption | omega | (simp <;> omega)) (hl0 : ps.length ≤ 1000 := by first | assumption | omega | (simp <;> omega)) :
    Calls Tryd.prog 69 [.slice tA t.length tc, .func (.func 70) #[] #[.pointer (some ⟨psg, 0, none⟩)]].toArray w0 (fun e w' => ∃ (rA0 : Option Addr) (rc0 : Nat), e = .returned (.tuple #[.slice rA0 (poA t 0 (lsts ps)).length rc0, .int .i64 (poE t 0 (lsts ps))]) ∧ Fr none_ w0 w' ∧ (dRow 4 rA0 ((poA t 0 (lsts ps)).length) rc0 (encNs (poA t 0 (lsts ps)))).φ w' (nxt Z w0 w')) := by
 have b0 := s0 (M := none_) hZ (zc (d := dShapes) hShp (zc ht (zc hps (zc hpss (zc hpsb zn)))))
 have hne : ∀ s ∈ ps, s.2.2 ≠ [] := fun s hs e => by have c0 := hok s.2.2 (List.mem_map_of_mem hs); rw [e] at c0; have := chk_pos c0; simp at this
 refine c_enterM Tryd.func69 rfl Tryd.ntmps69 rfl fun c0 d0 => ?_
 refine wsc fun c0 f0 => bxx d0 b0 fun c0 h0 i0 j0 k0 => ?_
 refine alc j0 k0 fun h0 c0 d0 b0 m0 => ?_
 refine alc b0 m0 fun c0 h0 k0 j0 n0 => ?_
 refine wn f0 <| wsc fun f0 h0 => alc j0 n0 fun f0 c0 m0 b0 o0 => ?_
 refine wn h0 <| wp_seq_k fun h0 c0 => wsc fun h0 f0 => mv b0 fun h0 n0 => ?_
 have h0 := o0.nf
 refine kcl n0 ok82 (snodesMk_calls _ _ h0.il _ _ _ (h0.g 1)) ?_
 rintro n0 o0 ⟨b0, rfl, j0, p0⟩
 have o0 := h0.below j0.below
 have j0 := h0.dN o0 p0
 refine ⟨_, rfl, fun o0 p0 => ?_⟩
 refine wn f0 <| wp_block ?_
 have f0 := j0.nf
 have j0 := f0.nilrow 39 4
 have f0 := j0.nf
 have j0 : Reg o0 82 [(1000000, .bool false), (3, .pointer (some ⟨i0, 0, none⟩)), (4, .pointer (some ⟨d0, 0, none⟩)), (5, .pointer (some ⟨k0, 0, none⟩)), (6, .pointer (some ⟨m0, 0, none⟩)), (15, .func (.func 92) #[] #[.pointer (some ⟨b0, 0, none⟩)])] := (p0.sub (rc4 (rc rfl (rc rfl rnl))))
 refine w_range (xs := nodesN t) (encs := (fun x : Nd × Int => #[.agg (encN x.1).toArray, .int .i64 x.2])) (j0.ev rfl) ok92 (snodes_yields _ (imm Z w0 [.box i0 109 [.func (.func 70) #[] #[.pointer (some ⟨psg, 0, none⟩)]], .box d0 22 [.slice none 0 0], .box k0 27 [.int .i64 0], .box m0 22 [.slice none 0 0], .row none 0 0 39 4 (encNs ([]))] _) b0 tA tc t (f0.get (i := 0) rfl) (f0.get (i := 1) rfl) (f0.get (i := 5) rfl) (by assumption) (by assumption) (by assumption)) (fun _ => rfl) f0 (fun _ h => h) (fun (pre : List (Nd × Int)) (mm : List Res) => ∃ O : List Nd, ∃ ev : Int, ∃ Ao : Option Addr, ∃ co : Nat, mm = [.box i0 109 [.func (.func 70) #[] #[.pointer (some ⟨psg, 0, none⟩)]], .box d0 22 [.slice none 0 0], .box k0 27 [.int .i64 (ev)], .box m0 22 [.slice Ao ((O).length) co], .row Ao ((O).length) co 39 4 (encNs O)] ∧ (OutI (lsts ps) pre O) ∧ (ev = 0)) (fun cc (pre : List (Nd × Int)) (mm : List Res) => cc = Code.ret ∧ ∃ O : List Nd, ∃ ev : Int, ∃ Ao : Option Addr, ∃ co : Nat, mm = [.box i0 109 [.func (.func 70) #[] #[.pointer (some ⟨psg, 0, none⟩)]], .box d0 22 [.slice none 0 0], .box k0 27 [.int .i64 (ev)], .box m0 22 [.slice Ao ((O).length) co], .row Ao ((O).length) co 39 4 (encNs O)] ∧ (poE t 0 (lsts ps) = ev ∧ poA t 0 (lsts ps) = [])) ⟨[], 0, none, 0, rfl, OutI.nil _, rfl⟩ ?_ ?_ ?_
 ·
  rintro f0 pre x p0 m1 hp ⟨O, ev, Ao, co, rfl, hO, hev⟩ o0
  obtain ⟨hxm, hxr, hx0, hx1, hx2, hx3, hx4⟩ := nodesN_at hc hp
  have hOl := hO.len hc (List.IsPrefix.trans (List.prefix_append _ _) hp)
  have hct := (treeOf_ok hc).2.2.2
  refine (?_ : ∀ h0, Reg h0 82 [(17, .int .i64 (x.2)), (16, .agg #[.int .i64 (x.1.K), .int .i64 (x.1.N), .int .i64 (x.1.M), .string x.1.S]), (1000000, .bool false), (3, .pointer (some ⟨i0, 0, none⟩)), (4, .pointer (some ⟨d0, 0, none⟩)), (5, .pointer (some ⟨k0, 0, none⟩)), (6, .pointer (some ⟨m0, 0, none⟩)), (15, .func (.func 92) #[] #[.pointer (some ⟨b0, 0, none⟩)])] → Code.wpIn (rI f0) 0 _ _ _ h0 p0) _ (Reg.round2n j0 (by decide) (by decide) rfl)
  intro h0 p0
  refine wpIn_seq_k fun h0 f0 => ?_
  refine ci_region (by kernel_rfl) (out_then (out_then (fun _ _ h => h))) ?_
  refine alc p0 o0 fun h0 b0 n0 q0 t0 => ?_
  refine sto 5 q0 t0 fun n0 b0 h0 p0 => ?_
  refine wn f0 <| ci_region (by kernel_rfl) (out_then (fun _ _ h => h)) ?_
  refine asg h0 fun f0 b0 => ?_
  refine wpList_nil ?_
  have f0 := p0.nf
  refine x_then_n ⟨_, _, 6, f0, rfl, (fun _ h => False.elim h), (fun _ h => False.elim h), fun p0 h0 => ?_⟩
  refine wpIn_block ?_
  refine wpIn_seq_k fun p0 f0 => ?_
  refine wpIn_seq_k fun p0 n0 => ?_
  refine ci_region (by kernel_rfl) (out_then (out_then (out_block out_rPost))) ?_
  refine lR b0 fun p0 t0 => ?_
  refine lOr 4 (decide ((x.1.N) < (x.2))) t0 fun p0 b0 => ?_
  refine wn n0 ?_
  rcases Bool.eq_false_or_eq_true (((!(decide ((x.1.K) = 0))) || (decide ((x.1.N) < (x.2))))) with n0 | n0
  ·
   have p0 := n0
   try simp only [bz] at p0
   have p0 := b0.setb (d := 26) (b := true) rfl n0
   refine wpIn_cond_true (p0.ev rfl) ?_
   refine wpIn_seq_k fun t0 q0 => ?_
   refine ci_region (by kernel_rfl) (out_then (out_then (out_block out_rPost))) ?_
   refine lR p0 fun t0 o0 => ?_
   refine bsl o0 h0 fun t0 p0 u0 v0 x0 => ?_
   refine m_appendF (f := encN) (i := 4) (O) ([x.1]) sv v0 x0 rfl rfl rfl rfl rfl encN_len (encN_one _) Tryd.underlying22 zi39 rfl rfl (own_lnews (f := encN) (x0.res (i := 6) rfl)) rfl (by (simp only [List.length_cons, List.length_nil]; omega)) (by decide) fun u0 p0 t0 o0 y0 z0 b1 => ?_
   have y0 : (O ++ ([x.1]) : List Nd).length = (O).length + 1 := by (simp only [List.length_append, List.length_take, List.length_cons, List.length_nil]; done)
   have y0 := b1.erase 6
   refine sto 3 z0 y0 fun b1 o0 t0 p0 => ?_
   refine wn q0 <| wpIn_exit ?_
   refine x_then_e ?_
   refine x_block_eq ?_
   have q0 := p0.nf
   have p0 := q0.erase 5
   exact ⟨_, _, 6, p0, rfl, O ++ ([x.1]), _, _, _, rfl, hO.step (x := x) (re_keep (by omega)).1 (re_keep (by omega)).2 (.inr rfl), hev⟩
  have p0 := or_fl n0
  have q0 := not_f p0
  have p0 := of_decide_eq_true q0
  have p0 := or_fr n0
  have q0 := of_decide_eq_false p0
  have q0 := b0.setb (d := 26) (b := false) rfl n0
  refine wpIn_cond_false (q0.ev rfl) ?_
  refine wpIn_skip ?_
  refine xn f0 <| wpIn_seq_k fun f0 n0 => ?_
  refine ci_region (by kernel_rfl) (out_then (out_block out_rPost)) ?_
  refine lR q0 fun f0 b0 => ?_
  refine sbi (x.1.N - x.2) b0 fun f0 q0 => ?_
  refine mv q0 fun f0 b0 => ?_
  have f0 := h0.nf
  refine k_callV (xs := [.tmp 36, .tmp 37]) se b0 rfl rfl rfl rfl (by decide) ok70 (instP_calls _ _ f0.il (x.1.N - x.2) (x.2) psg psA psc ps (f0.g 2) (f0.g 3) (f0.g 4) (hv := (by omega)) (hl0 := hl0) (hne := hne)) ?_
  rintro b0 h0 ⟨q0, p0, rfl, t0, o0, b1⟩
  have p0 := f0.below t0.below
  have t0 := f0.dN p0 o0
  refine ⟨_, rfl, fun p0 o0 => ?_⟩
  refine lR o0 fun p0 f0 => ?_
  refine wn n0 <| wpIn_seq_k fun n0 p0 => ?_
  refine wpIn_seq_k fun n0 o0 => ?_
  refine ci_region (by kernel_rfl) (out_then (out_then (out_block out_rPost))) ?_
  refine mv f0 fun n0 h0 => ?_
  refine r_eqlNil sv h0 rfl rfl rfl rfl Tryd.underlying22 (by decide) fun n0 f0 => ?_
  refine wn o0 ?_
  rcases Bool.eq_false_or_eq_true (Option.isNone q0) with o0 | o0
  ·
   have hz : (if x.1.N - x.2 < (ps.length : Int) then (nthS ps (x.1.N - x.2).toNat).2.2 else []).length = 0 := nil_len (t0.get (i := 7) rfl) o0
   have hvl : ¬ x.1.N - x.2 < (ps.length : Int) := fun q => by rw [if_pos q] at hz; have := hne _ (nthS_mem (t := ps) (k := (x.1.N - x.2).toNat) (by omega)); exact this (List.eq_nil_of_length_eq_zero hz)
   have hlv : (if x.1.N - x.2 < (ps.length : Int) then x.2 else (ps.length : Int)) = ps.length := if_neg hvl
   have q0 := f0.setb (d := 42) (b := true) rfl o0
   refine wpIn_cond_true (q0.ev rfl) ?_
   refine wpIn_seq_k fun n0 h0 => ?_
   refine ci_region (by kernel_rfl) (out_then (out_then (out_block out_rPost))) ?_
   refine lR q0 fun n0 b0 => ?_
   refine sbi (x.1.N - (if (x.1.N - x.2) < ps.length then (x.2) else ps.length)) b0 fun n0 q0 => ?_
   refine lR q0 fun n0 b0 => ?_
   refine sto 5 b0 t0 fun n0 q0 y0 z0 => ?_
   refine wn h0 <| wpIn_seq_k fun h0 q0 => ?_
   refine ci_region (by kernel_rfl) (out_then (out_then (out_block out_rPost))) ?_
   refine lR y0 fun h0 n0 => ?_
   refine bsl n0 z0 fun h0 y0 b0 u0 x0 => ?_
   refine m_appendF (f := encN) (i := 4) (O) ([(⟨(x.1.K), (x.1.N - (if (x.1.N - x.2) < ps.length then (x.2) else ps.length)), (x.1.M), x.1.S⟩ : Nd)]) sv u0 x0 rfl rfl rfl rfl rfl encN_len (encN_one _) Tryd.underlying22 zi39 rfl rfl (own_lnews (f := encN) (x0.res (i := 6) rfl)) rfl (by (simp only [List.length_cons, List.length_nil]; omega)) (by decide) fun b0 y0 h0 n0 z0 v0 c1 => ?_
   have z0 : (O ++ ([(⟨(x.1.K), (x.1.N - (if (x.1.N - x.2) < ps.length then (x.2) else ps.length)), (x.1.M), x.1.S⟩ : Nd)]) : List Nd).length = (O).length + 1 := by (simp only [List.length_append, List.length_take, List.length_cons, List.length_nil]; done)
   have z0 := c1.erase 6
   refine sto 3 v0 z0 fun c1 n0 h0 y0 => ?_
   refine wn q0 <| wpIn_exit ?_
   refine x_then_e ?_
   refine x_block_eq ?_
   have q0 := y0.nf
   have y0 := q0.erase 5
   exact ⟨_, _, 6, y0, rfl, O ++ ([(⟨(x.1.K), (x.1.N - (if (x.1.N - x.2) < ps.length then (x.2) else ps.length)), (x.1.M), x.1.S⟩ : Nd)]), _, _, _, rfl, hO.step (x := x) (re_out hxr (by omega) (by omega) (by rw [lsts_len]; exact hvl)).1 (by rw [show reL (lsts ps) x = _ from (re_out hxr (by omega) (by omega) (by rw [lsts_len]; exact hvl)).2, lsts_len, hlv]; rfl) (.inr rfl), hev⟩
  have hvl : x.1.N - x.2 < (ps.length : Int) := Decidable.byContradiction fun q => by have := b1 (if_neg q); rw [this] at o0; cases o0
  have hle : (if x.1.N - x.2 < (ps.length : Int) then (nthS ps (x.1.N - x.2).toNat).2.2 else []) = nthL (lsts ps) (x.1.N - x.2).toNat := by rw [if_pos hvl, lsts_nth]
  have hlu : (if x.1.N - x.2 < (ps.length : Int) then x.2 else (ps.length : Int)) = x.2 := if_pos hvl
  have hlm : nthL (lsts ps) (x.1.N - x.2).toNat ∈ lsts ps := nthL_mem (by rw [lsts_len]; omega)
  have hlc := hok _ hlm
  have hlb := (treeOf_ok hlc).2.2.2
  obtain ⟨hre, hrl⟩ := re_in (l := lsts ps) (n := x.1) (u := x.2) (by omega) (by omega) (by rw [lsts_len]; omega)
  have b1 := f0.setb (d := 42) (b := false) rfl o0
  refine wpIn_cond_false (b1.ev rfl) ?_
  refine wpIn_skip ?_
  refine xn p0 <| wpIn_seq_k fun p0 o0 => ?_
  refine ci_region (by kernel_rfl) (out_then (out_block out_rPost)) ?_
  refine lR b1 fun p0 f0 => ?_
  have p0 := t0.nf
  refine kcl f0 ok83 (shift_calls _ _ p0.il _ _ (if (x.1.N - x.2) < ps.length then (nthS ps (x.1.N - x.2).toNat).2.2 else []) ((if (x.1.N - x.2) < ps.length then (x.2) else ps.length)) 0 (p0.g 0) (p0.g 7) (hsm := (by rw [hle]; exact hls _ hlm)) (hl := (by rw [hle]; omega))) ?_
  rintro f0 t0 ⟨b1, y0, rfl, q0, h0, n0⟩
  have t0 := p0.callO q0 h0 n0
  refine ⟨_, rfl, fun n0 h0 => ?_⟩
  refine lR h0 fun n0 q0 => ?_
  refine wn o0 <| wpIn_seq_k fun o0 n0 => ?_
  refine wpIn_seq_k fun o0 h0 => ?_
  refine ci_region (by kernel_rfl) (out_then (out_then (out_block out_rPost))) ?_
  refine lR q0 fun o0 p0 => ?_
  refine wn h0 ?_
  rcases Decidable.em (((sfE (if (x.1.N - x.2) < ps.length then (nthS ps (x.1.N - x.2).toNat).2.2 else []) ((if (x.1.N - x.2) < ps.length then (x.2) else ps.length)) 0)) = 0) with h0 | h0
  ·
   have hse0 := h0
   rw [hle, hlu] at hse0
   have hre0 : reE (lsts ps) x = 0 := (show reE (lsts ps) x = _ from hre).trans hse0
   have hSe := hrl hse0
   have hSe2 : (sfA (if x.1.N - x.2 < (ps.length : Int) then (nthS ps (x.1.N - x.2).toNat).2.2 else []) (if x.1.N - x.2 < (ps.length : Int) then x.2 else (ps.length : Int)) 0).reverse = (reL (lsts ps) x).reverse := by rw [show reL (lsts ps) x = _ from hSe, hle, hlu]
   have hsl : (sfA (if x.1.N - x.2 < (ps.length : Int) then (nthS ps (x.1.N - x.2).toNat).2.2 else []) (if x.1.N - x.2 < (ps.length : Int) then x.2 else (ps.length : Int)) 0).reverse.length ≤ 4000 := by rw [List.length_reverse]; exact Nat.le_trans (sfA_len _ _ _) (by rw [hle]; omega)
   have hsl2 : (sfA (if x.1.N - x.2 < (ps.length : Int) then (nthS ps (x.1.N - x.2).toNat).2.2 else []) (if x.1.N - x.2 < (ps.length : Int) then x.2 else (ps.length : Int)) 0).length ≤ 4000 := Nat.le_trans (sfA_len _ _ _) (by rw [hle]; omega)
   have o0 := p0.setb (d := 59) (b := false) rfl (by rw [(decide_eq_true h0)]; rfl)
   refine wpIn_cond_false (o0.ev rfl) ?_
   refine wpIn_skip ?_
   refine xn n0 <| wpIn_seq_k fun n0 q0 => ?_
   refine ci_region (by kernel_rfl) (out_then (out_block out_rPost)) ?_
   refine mv o0 fun n0 f0 => ?_
   have n0 := t0.nf
   refine kcl f0 ok84 (revN_calls _ _ n0.il b1 y0 (sfA (if (x.1.N - x.2) < ps.length then (nthS ps (x.1.N - x.2).toNat).2.2 else []) ((if (x.1.N - x.2) < ps.length then (x.2) else ps.length)) 0) (n0.z 6) (imm_row (i := 6) rfl)) ?_
   rintro f0 y0 ⟨rfl, b1, o0⟩
   have y0 := n0.callR (i := 6) rfl b1 o0
   refine ⟨_, rfl, fun o0 b1 => ?_⟩
   have o0 := (Reg.cons b1 (Reg.cons b1 (Reg.cons b1 b1 (rs (i := 56) (n' := ((sfA (if (x.1.N - x.2) < ps.length then (nthS ps (x.1.N - x.2).toNat).2.2 else []) ((if (x.1.N - x.2) < ps.length then (x.2) else ps.length)) 0).reverse).length) rfl (by simp only [List.length_reverse, List.set_cons_succ, List.set_cons_zero]))) (rs (i := 11) (n' := ((sfA (if (x.1.N - x.2) < ps.length then (nthS ps (x.1.N - x.2).toNat).2.2 else []) ((if (x.1.N - x.2) < ps.length then (x.2) else ps.length)) 0).reverse).length) rfl (by simp only [List.length_reverse, List.set_cons_succ, List.set_cons_zero]))) (rs (i := 61) (n' := ((sfA (if (x.1.N - x.2) < ps.length then (nthS ps (x.1.N - x.2).toNat).2.2 else []) ((if (x.1.N - x.2) < ps.length then (x.2) else ps.length)) 0).reverse).length) rfl (by simp only [List.length_reverse, List.set_cons_succ, List.set_cons_zero])))
   refine wn q0 <| wpIn_seq_k fun q0 b1 => ?_
   refine ci_region (by kernel_rfl) (out_then (out_block out_rPost)) ?_
   refine lR o0 fun q0 n0 => ?_
   refine m_appendF (f := encN) (i := 4) (O) ((sfA (if (x.1.N - x.2) < ps.length then (nthS ps (x.1.N - x.2).toNat).2.2 else []) ((if (x.1.N - x.2) < ps.length then (x.2) else ps.length)) 0).reverse) sv n0 y0 rfl rfl rfl rfl rfl encN_len (encN_one _) Tryd.underlying22 zi39 rfl rfl (own_lnews (f := encN) (y0.res (i := 6) rfl)) rfl (by omega) (by decide) fun q0 o0 f0 c1 z0 v0 b0 => ?_
   have z0 : (O ++ ((sfA (if (x.1.N - x.2) < ps.length then (nthS ps (x.1.N - x.2).toNat).2.2 else []) ((if (x.1.N - x.2) < ps.length then (x.2) else ps.length)) 0).reverse) : List Nd).length = (O).length + ((sfA (if (x.1.N - x.2) < ps.length then (nthS ps (x.1.N - x.2).toNat).2.2 else []) ((if (x.1.N - x.2) < ps.length then (x.2) else ps.length)) 0).reverse).length := by (simp only [List.length_append, List.length_take, List.length_cons, List.length_nil]; done)
   have z0 := b0.erase 6
   refine sto 3 v0 z0 fun b0 c1 f0 o0 => ?_
   refine wn b1 <| wpIn_seq_k fun b1 c1 => ?_
   refine ci_region (by kernel_rfl) (out_then (out_block out_rPost)) ?_
   refine lR f0 fun b1 b0 => ?_
   refine wn c1 ?_
   rcases Decidable.em (16000 < (((O ++ ((sfA (if (x.1.N - x.2) < ps.length then (nthS ps (x.1.N - x.2).toNat).2.2 else []) ((if (x.1.N - x.2) < ps.length then (x.2) else ps.length)) 0).reverse) : List Nd).length : Nat) : Int)) with c1 | c1
   ·
    have b1 := b0.setb (d := 68) (b := true) rfl (decide_eq_true c1)
    refine wpIn_cond_true (b1.ev rfl) ?_
    refine ci_region (by kernel_rfl) (out_block out_rPost) ?_
    refine lR b1 fun f0 z0 => ?_
    have f0 := own_cap (o0.res (i := 4) rfl)
    refine m_sliceP (q := 8000) sv z0 rfl rfl rfl rfl (by omega) Tryd.underlying22 sz39 (by omega) (by decide) fun f0 b1 => ?_
    have f0 := o0.trim encN_len (i := 4) (L := (O ++ ((sfA (if (x.1.N - x.2) < ps.length then (nthS ps (x.1.N - x.2).toNat).2.2 else []) ((if (x.1.N - x.2) < ps.length then (x.2) else ps.length)) 0).reverse))) rfl (8000) (by omega)
    have z0 := Reg.cons b1 b1 (rs (i := 70) (n' := ((O ++ ((sfA (if (x.1.N - x.2) < ps.length then (nthS ps (x.1.N - x.2).toNat).2.2 else []) ((if (x.1.N - x.2) < ps.length then (x.2) else ps.length)) 0).reverse)).take (8000)).length) rfl (by rw [List.length_take]; omega))
    refine sto 3 z0 f0 fun b1 v0 q0 n0 => ?_
    refine wpList_nil ?_
    refine x_block_n ?_
    have q0 := n0.nf
    have n0 := q0.erase 5
    exact ⟨_, _, 6, n0, rfl, (O ++ ((sfA (if (x.1.N - x.2) < ps.length then (nthS ps (x.1.N - x.2).toNat).2.2 else []) ((if (x.1.N - x.2) < ps.length then (x.2) else ps.length)) 0).reverse)).take (8000), _, _, _, rfl, hO.cut (x := x) hre0 hSe2 (by omega), hev⟩
   have n0 := b0.setb (d := 68) (b := false) rfl (decide_eq_false c1)
   refine wpIn_cond_false (n0.ev rfl) ?_
   refine wpIn_skip ?_
   refine x_block_n ?_
   have n0 := o0.nf
   have o0 := n0.erase 5
   exact ⟨_, _, 6, o0, rfl, O ++ ((sfA (if (x.1.N - x.2) < ps.length then (nthS ps (x.1.N - x.2).toNat).2.2 else []) ((if (x.1.N - x.2) < ps.length then (x.2) else ps.length)) 0).reverse), _, _, _, rfl, hO.step (x := x) hre0 hSe2 (.inl (by omega)), hev⟩
  have hpe0 := h0
  rw [hle, hlu] at hpe0
  have hpe := poE_err hc hok hxm (fun q => hpe0 ((show reE (lsts ps) x = _ from hre).symm.trans q))
  have o0 : sfE (if x.1.N - x.2 < (ps.length : Int) then (nthS ps (x.1.N - x.2).toNat).2.2 else []) (if x.1.N - x.2 < (ps.length : Int) then x.2 else (ps.length : Int)) 0 = 2 := by rw [hle, hlu]; exact (sf_max hlc hx0).resolve_left hpe0
  have n0 := p0.setb (d := 59) (b := true) rfl (by rw [(decide_eq_false h0)]; rfl)
  refine wpIn_cond_true (n0.ev rfl) ?_
  refine wpIn_seq_k fun h0 p0 => ?_
  refine ci_region (by kernel_rfl) (out_then (out_then (out_block out_rPost))) ?_
  refine mv n0 fun h0 c1 => ?_
  refine sto 1 c1 t0 fun h0 n0 b0 q0 => ?_
  refine sto 2 b0 q0 fun n0 h0 c1 t0 => ?_
  refine wn p0 <| wpIn_ret ?_
  refine x_then_r <| x_block_r ?_
  have p0 := t0.nf
  have t0 := p0.erase 6
  have p0 := t0.erase 5
  exact ⟨_, _, 6, p0, rfl, rfl, _, _, _, _, rfl, ⟨hpe.1.trans o0.symm, hpe.2⟩⟩
 ·
  rintro p0 m1 o0 ⟨O, ev, Ao, co, rfl, hO, hev⟩ t0
  have o0 := Reg.marked j0 p0
  have hOl := hO.len hc (List.prefix_refl _)
  refine x_block_n <| xn c0 <| wp_seq_k fun c0 p0 => wsc fun c0 c1 => lR o0 fun c0 h0 => ?_
  refine wn c1 ?_
  rcases Decidable.em (4000 < (((O).length : Nat) : Int)) with c1 | c1
  ·
   obtain ⟨c0, o0⟩ := put_big hc hO (by omega)
   refine wct h0 (decide_eq_true c1) fun n0 => ?_
   refine wsc fun q0 b0 => sto 1 n0 t0 fun q0 v0 b1 z0 => ?_
   refine sto 2 b1 z0 fun v0 q0 n0 f0 => ?_
   refine wn b0 <| wp_ret <| x_then_r ?_
   have b0 := f0.nf
   obtain ⟨f0, q0⟩ := b0.shut (i := 6) rfl [] (fun _ h => by cases h)
   refine m_mark (.inl rfl) n0 rfl f0 (res2c n0 rfl rfl rfl (box_cell (q0.res (i := 1) rfl) rfl) (box_cell (q0.res (i := 2) rfl) rfl) Tryd.underlying22 rfl Tryd.underlying27 rfl) ?_
   have f0 : poA t 0 (lsts ps) = [] := by exact o0
   rw [f0]
   refine ⟨none, 0, ?_, q0.fr, ⟨Nat.le_refl _, RowI.nil _ _ _ _⟩⟩
   exact ret_t2 rfl (ret_i (by exact c0.symm))
  obtain ⟨c0, o0⟩ := put_all hc hO (by omega)
  have hrs := put_sml hc hsm hls hO (by omega)
  have hrl : O.reverse.length = O.length := List.length_reverse
  refine wcf h0 (decide_eq_false c1) fun q0 => ?_
  refine wp_skip <| xn p0 <| wsc fun p0 c1 => lR q0 fun p0 h0 => ?_
  have p0 := t0.nf
  refine kcl h0 ok84 (revN_calls _ _ p0.il Ao co O (p0.z 4) (imm_row (i := 4) rfl)) ?_
  rintro h0 t0 ⟨rfl, q0, f0⟩
  have t0 := p0.callR (i := 4) rfl q0 f0
  have f0 := St.cast (m' := [.box i0 109 [.func (.func 70) #[] #[.pointer (some ⟨psg, 0, none⟩)]], .box d0 22 [.slice none 0 0], .box k0 27 [.int .i64 (ev)], .box m0 22 [.slice Ao ((O.reverse).length) co], .row Ao ((O.reverse).length) co 39 4 (encNs O.reverse)]) t0 (by simp only [List.length_reverse, List.set_cons_succ, List.set_cons_zero])
  refine ⟨_, rfl, fun t0 m0 => ?_⟩
  have t0 := (Reg.cons m0 (Reg.cons m0 m0 (rs (i := 71) (n' := (O.reverse).length) rfl (by simp only [List.length_reverse, List.set_cons_succ, List.set_cons_zero]))) (rs (i := 74) (n' := (O.reverse).length) rfl (by simp only [List.length_reverse, List.set_cons_succ, List.set_cons_zero])))
  refine wn c1 <| wp_seq_k fun c1 m0 => wsc fun c1 k0 => lR t0 fun c1 d0 => ?_
  have c1 := f0.nf
  have f0 := c1.pub 4 (dRow 4 Ao ((O.reverse).length) co (encNs O.reverse))
  refine kcl d0 ok27 (check_calls _ _ f0.il _ _ _ (f0.g 0) (f0.g 7) (hsm := hrs) (hl := (by omega))) ?_
  rintro d0 c1 ⟨rfl, t0⟩
  have c1 := f0.below t0.below
  refine ⟨_, rfl, fun t0 f0 => ?_⟩
  refine aw f0 k0 fun t0 d0 => ?_
  refine wsc fun k0 t0 => lR d0 fun k0 f0 => ?_
  refine wn t0 ?_
  rcases Decidable.em (((chk O.reverse)) = 0) with t0 | t0
  ·
   refine wcfb f0 rfl (by rw [(decide_eq_true t0)]; rfl) fun k0 => ?_
   refine wp_skip <| xn m0 <| wsc fun m0 d0 => lR k0 fun m0 i0 => ?_
   refine sto 1 i0 c1 fun m0 k0 q0 p0 => ?_
   refine sto 2 q0 p0 fun k0 m0 i0 h0 => ?_
   refine wn d0 <| wp_ret ?_
   have d0 := h0.nf
   obtain ⟨h0, m0⟩ := d0.shut (i := 6) rfl [dRow 4 Ao ((O.reverse).length) co (encNs O.reverse)] (by intro d hd; simp only [List.mem_cons, List.not_mem_nil, or_false] at hd; rcases hd with rfl; exact ⟨List.mem_of_getElem? (i := 7) rfl, datC_row (by decide) _ _ _ _⟩)
   refine m_mark (.inl rfl) i0 rfl h0 (res2c i0 rfl rfl rfl (box_cell (m0.res (i := 1) rfl) rfl) (box_cell (m0.res (i := 2) rfl) rfl) Tryd.underlying22 rfl Tryd.underlying27 rfl) ?_
   have h0 : poA t 0 (lsts ps) = O.reverse := by rw [o0, if_pos (by assumption)]
   rw [h0]
   refine ⟨Ao, co, ?_, m0.fr, m0.rx 0⟩
   exact ret_t2 rfl (ret_i (by first | exact c0.symm | (rw [c0]; symm; assumption)))
  refine wctb f0 rfl (by rw [(decide_eq_false t0)]; rfl) fun m0 => ?_
  refine wsc fun t0 f0 => mv m0 fun t0 h0 => ?_
  refine sto 1 h0 c1 fun t0 m0 i0 d0 => ?_
  refine sto 2 i0 d0 fun m0 t0 h0 c1 => ?_
  refine wn f0 <| wp_ret <| x_then_r ?_
  have f0 := c1.nf
  obtain ⟨c1, t0⟩ := f0.shut (i := 6) rfl [] (fun _ h => by cases h)
  refine m_mark (.inl rfl) h0 rfl c1 (res2c h0 rfl rfl rfl (box_cell (t0.res (i := 1) rfl) rfl) (box_cell (t0.res (i := 2) rfl) rfl) Tryd.underlying22 rfl Tryd.underlying27 rfl) ?_
  have c1 : poA t 0 (lsts ps) = [] := by (rw [o0, if_neg (by assumption)])
  rw [c1]
  refine ⟨none, 0, ?_, t0.fr, ⟨Nat.le_refl _, RowI.nil _ _ _ _⟩⟩
  exact ret_t2 rfl (ret_i (by first | exact c0.symm | (rw [c0]; symm; assumption)))
 rintro c0 cc pre m1 t0 hpre ⟨rfl, O, ev, Ao, co, rfl, hev⟩ c1
 have t0 := Reg.marked j0 c0
 refine wp_ret <| x_block_r <| x_then_r ?_
 have c0 := c1.nf
 obtain ⟨c1, j0⟩ := c0.shut (i := 6) rfl [] (fun _ h => by cases h)
 refine m_mark (.inl rfl) t0 rfl c1 (res2c t0 rfl rfl rfl (box_cell (j0.res (i := 1) rfl) rfl) (box_cell (j0.res (i := 2) rfl) rfl) Tryd.underlying22 rfl Tryd.underlying27 rfl) ?_
 have c1 : poA t 0 (lsts ps) = [] := by exact hev.2
 rw [c1]
 refine ⟨none, 0, ?_, j0.fr, ⟨Nat.le_refl _, RowI.nil _ _ _ _⟩⟩
 exact ret_t2 rfl (ret_i (by exact hev.1.symm))
theorem inst_calls (w0 : World) (Z : Nat → Prop) (hZ : ∀ k, Z k → k < w0.heap.size) (tA : Option Addr) (tc : Nat) (t : List Nd) (psA : Option Addr) (psc : Nat) (ps : List Sl) (hShp : Shapes w0 Z) (ht : (dRow 4 tA t.length tc (encNs t)).φ w0 Z) (hps : (dRow 1 psA ps.length psc (encSs ps)).φ w0 Z) (hpss : (dAll ps).φ w0 Z) (hsm : sml t := by first | assumption | omega | (simp <;> omega)) (hl : t.length ≤ 1000000 := by first | assumption | omega | (simp <;> omega)) (hls : ∀ x ∈ lsts ps, sml x := by first | assumption | omega | (simp <;> omega)) (hlb : ∀ x ∈ lsts ps, x.length ≤ 1000000 := by first | assumption | omega | (simp <;> omega)) (hl0 : ps.length ≤ 1000 := by first | assumption | omega | (simp <;> omega)) :
    Calls Tryd.prog 56 [.slice tA t.length tc, .slice psA ps.length psc].toArray w0 (fun e w' => ∃ (rA0 : Option Addr) (rc0 : Nat), e = .returned (.tuple #[.slice rA0 (inA t (lsts ps)).length rc0, .int .i64 (inE t (lsts ps))]) ∧ Fr none_ w0 w' ∧ (dRow 4 rA0 ((inA t (lsts ps)).length) rc0 (encNs (inA t (lsts ps)))).φ w' (nxt Z w0 w')) := by
 have b0 := s0 (M := none_) hZ (zc (d := dShapes) hShp (zc ht (zc hps (zc hpss zn))))
 refine c_enter Tryd.func56 rfl Tryd.ntmps56 rfl fun c0 d0 => ?_
 refine wsc fun c0 f0 => bxx d0 b0 fun c0 h0 i0 j0 k0 => ?_
 refine lR j0 fun h0 c0 => ?_
 refine wn f0 <| wp_seq_k fun f0 h0 => wsc fun f0 j0 => mv c0 fun f0 d0 => ?_
 have f0 := k0.data (dAll [((tA, tc, t) : Sl)]) (all_cons (k0.get (i := 1) rfl) all_nil)
 refine bsl d0 f0 fun k0 c0 b0 m0 n0 => ?_
 refine lR m0 fun b0 c0 => ?_
 refine m_appendF (f := encS) (i := 1) ([((tA, tc, t) : Sl)]) (ps) sv c0 n0 rfl rfl rfl rfl rfl encS_len (encS_one _) Tryd.underlying40 zi22 rfl rfl (n0.row (i := 2) rfl).2.news rfl (by (simp only [List.length_cons, List.length_nil]; omega)) (by decide) fun b0 m0 k0 f0 d0 o0 p0 => ?_
 have d0 : (([((tA, tc, t) : Sl)]) ++ ps : List Sl).length = ps.length + 1 := by (simp only [List.length_append, List.length_take, List.length_cons, List.length_nil]; omega)
 have d0 := p0.data (dAll (([((tA, tc, t) : Sl)]) ++ ps)) (all_append (p0.get (i := 4) rfl) (p0.get (i := 3) rfl))
 refine lR o0 fun p0 m0 => ?_
 refine wn j0 <| wp_block ?_
 refine wp_loop_ghost (fun gn ga gw => ∃ k : Nat, (Reg ga 29 [(1000000, .bool false), (0, .slice tA t.length tc), (3, .pointer (some ⟨i0, 0, none⟩)), (12, .slice k0 ((([((tA, tc, t) : Sl)]) ++ ps : List Sl).length) f0), (13, .int .i64 (((([((tA, tc, t) : Sl)]) ++ ps : List Sl).length : Nat) : Int)), (14, .int .i64 ((k : Nat) : Int))]) ∧ (St w0 Z none_ gw [.box i0 40 [.slice psA ps.length psc], .row k0 ((([((tA, tc, t) : Sl)]) ++ ps : List Sl).length) f0 22 1 (encSs (([((tA, tc, t) : Sl)]) ++ ps))] [dShapes, dRow 4 tA t.length tc (encNs t), dRow 1 psA ps.length psc (encSs ps), dAll ps, dAll [((tA, tc, t) : Sl)], dAll (([((tA, tc, t) : Sl)]) ++ ps)]) ∧ (k ≤ ps.length + 1) ∧ (∀ i, i < k → chk (nthL (t :: lsts ps) i) = 0) ∧ (ps.length + 1 - k) = gn) _ ⟨0, (m0.sub (rc4 (rc rfl (rc rfl rnl)))), d0, by omega, (fun _ h => by omega), rfl⟩ ?_
 rintro m0 d0 f0 ⟨k, k0, j0, hk, hck, p0⟩
 have hLl : (t :: lsts ps).length = ps.length + 1 := by rw [List.length_cons, lsts_len]
 refine wsc fun p0 f0 => lR k0 fun p0 d0 => ?_
 refine wn f0 <| wp_seq_k fun f0 p0 => ?_
 rcases Decidable.em (((k : Nat) : Int) < (((([((tA, tc, t) : Sl)]) ++ ps : List Sl).length : Nat) : Int)) with f0 | f0
 ·
  have hne : (nthS ([((tA, tc, t) : Sl)] ++ ps) k).2.2 = nthL (t :: lsts ps) k := nthS_cons _ _ _
  have hmm : nthL (t :: lsts ps) k = t ∨ nthL (t :: lsts ps) k ∈ lsts ps := by have := nthL_mem (l := t :: lsts ps) (k := k) (by rw [List.length_cons, lsts_len]; omega); simpa using this
  have hms : sml (nthS ([((tA, tc, t) : Sl)] ++ ps) k).2.2 := by rw [hne]; rcases hmm with q | q; rw [q]; exact hsm; exact hls _ q
  have hml : (nthS ([((tA, tc, t) : Sl)] ++ ps) k).2.2.length ≤ 1000000 := by rw [hne]; rcases hmm with q | q; rw [q]; exact hl; exact hlb _ q
  refine wct d0 (decide_eq_true f0) fun k0 => ?_
  refine wp_skip <| xn p0 <| wp_seq_k fun p0 m0 => wp_block ?_
  refine wsc fun p0 o0 => ix k (k * 1) k0 (own_ss (t := ([((tA, tc, t) : Sl)]) ++ ps) (k := k) (j0.res (i := 1) rfl) (by omega)).some_ fun p0 b0 => ?_
  refine lde 0 (k * 1) b0 (own_ss (t := ([((tA, tc, t) : Sl)]) ++ ps) (k := k) (j0.res (i := 1) rfl) (by omega)) fun p0 k0 => ?_
  have p0 := j0.el 5 k
  refine aw k0 o0 fun b0 c0 => ?_
  refine wsc fun o0 b0 => mv c0 fun o0 k0 => ?_
  have o0 := p0.nf
  refine kcl k0 ok27 (check_calls _ _ o0.il _ _ ((nthS (([((tA, tc, t) : Sl)]) ++ ps) k).2.2) (o0.g 0) (o0.g 6)) ?_
  rintro k0 p0 ⟨rfl, c0⟩
  have p0 := o0.below c0.below
  refine ⟨_, rfl, fun c0 o0 => ?_⟩
  refine aw o0 b0 fun c0 k0 => ?_
  refine wsc fun b0 c0 => lR k0 fun b0 o0 => ?_
  refine wn c0 ?_
  rcases Decidable.em (((chk ((nthS (([((tA, tc, t) : Sl)]) ++ ps) k).2.2))) = 0) with c0 | c0
  ·
   refine wcfb o0 rfl (by rw [(decide_eq_true c0)]; rfl) fun b0 => ?_
   refine wp_skip <| x_block_n <| xn m0 <| c_region ?_
   refine adi ((k + 1 : Nat) : Int) b0 fun m0 k0 => ?_
   refine mv k0 fun m0 b0 => ?_
   refine wpList_nil ?_
   have m0 := p0.forget 6
   exact ⟨_, by omega, k + 1, (b0.sub (rc4 (rc rfl (rc rfl rnl)))), m0, by omega, hyp_step hck (by rw [← hne]; assumption), rfl⟩
  refine wctb o0 rfl (by rw [(decide_eq_false c0)]; rfl) fun m0 => ?_
  refine wsc fun c0 o0 => lR m0 fun c0 b0 => ?_
  refine wn o0 <| wp_ret <| x_block_r <| x_then_r <| x_then_r <| x_block_r <| x_then_r <| er2 b0 ?_
  have b0 : inA t (lsts ps) = [] := (in_err (by rw [ckE_at hck (by rw [List.length_cons, lsts_len]; omega) (by rw [← hne]; assumption), ← hne]; assumption)).2
  rw [b0]
  refine ⟨none, 0, ?_, p0.fr, ⟨Nat.le_refl _, RowI.nil _ _ _ _⟩⟩
  exact ret_t2 rfl (ret_i (by (rw [(in_err (by rw [ckE_at hck (by rw [List.length_cons, lsts_len]; omega) (by rw [← hne]; assumption), ← hne]; assumption)).1, ckE_at hck (by rw [List.length_cons, lsts_len]; omega) (by rw [← hne]; assumption), hne]; done)))
 obtain ⟨hca, hco⟩ := ckE_all hck (by rw [List.length_cons, lsts_len]; omega)
 have hct : chk t = 0 := hco t (by simp)
 have hol : oks (lsts ps) := fun p hp => hco p (by simp [hp])
 refine wcf d0 (decide_eq_false f0) fun p0 => ?_
 refine wp_exit ?_
 refine x_then_e ?_
 refine x_then_e ?_
 refine x_block_eq ?_
 refine xn h0 <| wsc fun h0 f0 => mv p0 fun h0 d0 => ?_
 refine r_makeFunc sv d0 rfl rfl rfl (by decide) fun h0 p0 => ?_
 have h0 := j0.nf
 obtain ⟨j0, d0⟩ := h0.box_data (i := 0) rfl (fun _ h => h)
 have h0 := j0.data (dBox i0 [.slice psA ps.length psc]) d0
 refine kcl p0 ok69 (put_calls _ _ h0.il _ _ _ i0 psA psc ps (h0.g 0) (h0.g 1) (h0.g 2) (h0.g 3) (h0.g 6) (hsm := hsm) (hl := hl) (hc := hct) (hok := hol) (hls := hls) (hl0 := hl0)) ?_
 rintro p0 i0 ⟨d0, j0, rfl, b0, o0⟩
 have i0 := h0.below b0.below
 have b0 := h0.dN i0 o0
 refine ⟨_, rfl, fun i0 o0 => ?_⟩
 refine lR o0 fun i0 h0 => ?_
 refine wn f0 <| wp_ret <| er2 h0 ?_
 have h0 : inA t (lsts ps) = poA t 0 (lsts ps) := (in_ok hca).2
 rw [h0]
 refine ⟨d0, j0, ?_, b0.fr, b0.rx 7⟩
 exact ret_t2 rfl (ret_i (by exact (in_ok hca).1.symm))
theorem done_calls (w0 : World) (Z : Nat → Prop) (hZ : ∀ k, Z k → k < w0.heap.size) (mg : Nat) (mt : TypeId) (me : Int) (mr : List Value) (tA : Option Addr) (tc : Nat) (t : List Nd) (hShp : Shapes w0 Z) (hm : (Res.box mg mt (.int .i64 me :: mr)).holds w0) (hmz : ¬ Z mg) (ht : (dRow 4 tA t.length tc (encNs t)).φ w0 Z) (hsm : sml t := by first | assumption | omega | (simp <;> omega)) (hl : t.length ≤ 1000000 := by first | assumption | omega | (simp <;> omega)) :
    Calls Tryd.prog 22 [.pointer (some ⟨mg, 0, none⟩), .slice tA t.length tc].toArray w0 (fun e w' => ∃ (rA0 : Option Addr) (rc0 : Nat), e = .returned (.tuple #[.slice rA0 ((if (if me = 0 then chk t else me) = 0 then t else [])).length rc0, .int .i64 ((if me = 0 then chk t else me))]) ∧ Fr (· = mg) w0 w' ∧ (Res.box mg mt (.int .i64 (if me = 0 then chk t else me) :: mr)).holds w' ∧ (dRow 4 rA0 (((if (if me = 0 then chk t else me) = 0 then t else [])).length) rc0 (encNs (if (if me = 0 then chk t else me) = 0 then t else []))).φ w' (nxt Z w0 w')) := by
 have b0 := sM hm hmz hZ (zc (d := dShapes) hShp (zc ht zn))
 refine c_enter Tryd.func22 rfl Tryd.ntmps22 rfl fun c0 d0 => ?_
 refine wsc fun c0 f0 => lR d0 fun c0 h0 => ?_
 refine wn f0 <| c_join (fun ga gw => Reg ga 26 [(0, .pointer (some ⟨mg, 0, none⟩)), (1, .slice tA t.length tc), (4, .slice none 0 0), (5, .int .i64 0), (1000000, .bool false)] ∧ St w0 Z (· = mg) gw [.box mg mt (.int .i64 ((if ((me) = 0) then ((chk t)) else (me))) :: mr)] [dShapes, dRow 4 tA t.length tc (encNs t)]) ?_ ?_
 ·
  refine wsc fun f0 c0 => lR h0 fun f0 d0 => ?_
  refine wn c0 ?_
  rcases Decidable.em ((me) = 0) with c0 | c0
  ·
   refine wct d0 (decide_eq_true c0) fun f0 => ?_
   refine c_region ?_
   refine lR f0 fun h0 i0 => ?_
   have h0 := b0.nf
   refine kcl i0 ok27 (check_calls _ _ h0.il _ _ _ (h0.g 0) (h0.g 1)) ?_
   rintro i0 f0 ⟨rfl, j0⟩
   have f0 := h0.below j0.below
   refine ⟨_, rfl, fun j0 h0 => ?_⟩
   refine lR h0 fun j0 i0 => ?_
   refine sto 0 i0 f0 fun j0 h0 k0 m0 => ?_
   refine wpList_nil ?_
   have hSj := m0
   exact x_then_n ⟨(k0.sub (rc4 (rc rfl rnl))), by rw [(show (((if ((me) = 0) then ((chk t)) else (me))) : Int) = ((chk t)) by (simp only [decide_eq_true c0, if_pos c0, bl]; done))]; exact hSj⟩
  refine wcf d0 (decide_eq_false c0) fun k0 => ?_
  refine wp_skip ?_
  have hSj := b0
  exact x_then_n ⟨(k0.sub (rc4 (rc rfl rnl))), by rw [(show (((if ((me) = 0) then ((chk t)) else (me))) : Int) = (me) by (simp only [decide_eq_false c0, if_neg c0, bl]; done))]; exact hSj⟩
 rintro k0 c0 ⟨b0, d0⟩
 refine wp_seq_k fun c0 k0 => wsc fun c0 m0 => lR b0 fun c0 h0 => ?_
 refine wn m0 ?_
 rcases Decidable.em (((if ((me) = 0) then ((chk t)) else (me))) = 0) with m0 | m0
 ·
  refine wcfb h0 rfl (by rw [(decide_eq_true m0)]; rfl) fun c0 => ?_
  refine wp_skip <| xn k0 <| wsc fun k0 b0 => lR c0 fun k0 j0 => ?_
  refine wn b0 <| wp_ret <| er2 j0 ?_
  have j0 : (if (if me = 0 then chk t else me) = 0 then t else []) = t := by simp [m0]
  rw [j0]
  refine ⟨tA, tc, ?_, d0.fr, (by rw [show (if me = 0 then chk t else me : Int) = ((if ((me) = 0) then ((chk t)) else (me))) by (simp [m0]; done)]; exact d0.res (i := 0) rfl), d0.rx 1⟩
  exact ret_t2 rfl (ret_i (by (simp [m0]; done)))
 refine wctb h0 rfl (by rw [(decide_eq_false m0)]; rfl) fun j0 => ?_
 refine wp_seq_k fun h0 b0 => ?_
 obtain ⟨h0, k0, c0⟩ := d0.agree
 refine d_reg3 (n := 6) c0 2 (pc 0 0 pn) (pan_then (pan_then pan_body)) fun k0 h0 d0 i0 f0 n0 => ?_
 refine dR [0, 1, 2, 3, 4, 5] j0 fun n0 i0 => ?_
 refine wpAnyH_done (by kernel_rfl) (d0 _ _ ?_) _
 refine xn b0 <| wp_ret <| x_then_r <| er2 i0 ?_
 have i0 : (if (if me = 0 then chk t else me) = 0 then t else []) = [] := by simp [m0]
 rw [i0]
 refine ⟨none, 0, ?_, f0.fr, (by rw [show (if me = 0 then chk t else me : Int) = ((if ((me) = 0) then ((chk t)) else (me))) by (simp [m0]; done)]; exact f0.res (i := 0) rfl), ⟨Nat.le_refl _, RowI.nil _ _ _ _⟩⟩
 exact ret_t2 rfl (ret_i (by (simp [m0]; done)))
theorem node_calls (w0 : World) (Z : Nat → Prop) (hZ : ∀ k, Z k → k < w0.heap.size) (mg : Nat) (mt : TypeId) (me : Int) (mr : List Value) (n : Nd) (pA : Option Addr) (pc : Nat) (p : List Sl) (hm : (Res.box mg mt (.int .i64 me :: mr)).holds w0) (hmz : ¬ Z mg) (hp : (dRow 1 pA p.length pc (encSs p)).φ w0 Z) (hps : (dAll p).φ w0 Z) (hl : p.length ≤ 100 := by first | assumption | omega | (simp <;> omega)) (hb : ∀ s ∈ p, s.2.2.length ≤ 100000 := by first | assumption | omega | (simp <;> omega)) :
    Calls Tryd.prog 59 [.pointer (some ⟨mg, 0, none⟩), .agg #[.int .i64 (n.K), .int .i64 (n.N), .int .i64 (n.M), .string n.S], .slice pA p.length pc].toArray w0 (fun e w' => ∃ (rA0 : Option Addr) (rc0 : Nat) (rL0 : List Nd), e = .returned (.slice rA0 rL0.length rc0) ∧ Fr (· = mg) w0 w' ∧ (Res.box mg mt (.int .i64 (me) :: mr)).holds w' ∧ (dRow 4 rA0 rL0.length rc0 (encNs rL0)).φ w' (nxt Z w0 w') ∧ rL0 = noL me n (lsts p)) := by
 have b0 := sM hm hmz hZ (zc hp (zc hps zn))
 refine c_enter Tryd.func59 rfl Tryd.ntmps59 rfl fun c0 d0 => ?_
 refine wsc fun c0 f0 => bxx d0 b0 fun c0 h0 i0 j0 k0 => ?_
 refine aw j0 f0 fun h0 c0 => ?_
 refine wp_seq_k fun f0 h0 => wsc fun f0 j0 => lR c0 fun f0 d0 => ?_
 refine wn j0 ?_
 rcases Decidable.em ((me) = 0) with j0 | j0
 ·
  refine wcfb d0 rfl (by rw [(decide_eq_true j0)]; rfl) fun f0 => ?_
  refine wp_skip <| xn h0 <| wsc fun h0 c0 => aw f0 c0 fun h0 b0 => ?_
  refine wp_seq_k fun c0 h0 => wsc fun c0 f0 => lR b0 fun c0 m0 => ?_
  refine wn f0 <| wp_block ?_
  have f0 := k0.nilrow 39 4
  refine wp_loop_ghost (fun gn ga gw => ∃ k : Nat, ∃ Ao : Option Addr, ∃ co : Nat, (Reg ga 29 [(1000000, .bool false), (4, .pointer (some ⟨i0, 0, none⟩)), (6, .slice none 0 0), (15, .slice pA p.length pc), (16, .int .i64 ((p.length : Nat) : Int)), (17, .int .i64 ((k : Nat) : Int)), (7, .slice Ao (((lsts (p.take k)).flatten).length) co)]) ∧ (St w0 Z (· = mg) gw [.box mg mt (.int .i64 (me) :: mr), .box i0 39 [.int .i64 (n.K), .int .i64 (n.N), .int .i64 (n.M), .string n.S], .row Ao (((lsts (p.take k)).flatten).length) co 39 4 (encNs ((lsts (p.take k)).flatten))] [dRow 1 pA p.length pc (encSs p), dAll p]) ∧ (k ≤ p.length) ∧ (p.length - k) = gn) _ ⟨0, none, 0, (m0.sub (rc4 (rc2 (rc rfl rnl)))), f0, by omega, rfl⟩ ?_
  rintro f0 m0 i0 ⟨k, Ao, co, c0, b0, hk, n0⟩
  have hfl := flat_le hb hk
  refine wsc fun n0 i0 => lR c0 fun n0 m0 => ?_
  refine wn i0 <| wp_seq_k fun i0 n0 => ?_
  rcases Decidable.em (((k : Nat) : Int) < ((p.length : Nat) : Int)) with i0 | i0
  ·
   refine wct m0 (decide_eq_true i0) fun c0 => ?_
   refine wp_skip <| xn n0 <| wp_seq_k fun n0 f0 => wp_block ?_
   refine wsc fun n0 o0 => ix k (k * 1) c0 (ss_elem (t := p) (k := k) (b0.row (i := 0) rfl).2 (by omega)).some_ fun n0 p0 => ?_
   refine lde 0 (k * 1) p0 (ss_elem (t := p) (k := k) (b0.row (i := 0) rfl).2 (by omega)) fun n0 c0 => ?_
   have n0 := b0.el 1 k
   refine asg c0 fun p0 q0 => ?_
   refine wpList_nil (x_then_n (o0 _ _ (c_region ?_)))
   refine lR q0 fun o0 p0 => ?_
   refine m_appendF (f := encN) (i := 2) ((lsts (p.take k)).flatten) ((nthS p k).2.2) sv p0 n0 rfl rfl rfl rfl rfl encN_len (encN_one _) Tryd.underlying22 zi39 rfl rfl (n0.row (i := 2) rfl).2.news rfl (by omega) (by decide) fun o0 q0 c0 s0 t0 u0 v0 => ?_
   have t0 : (((lsts (p.take k)).flatten) ++ ((nthS p k).2.2)).length = ((lsts (p.take k)).flatten).length + (nthS p k).2.2.length := by (simp only [List.length_append, List.length_take, List.length_cons, List.length_nil]; done)
   refine asg u0 fun t0 q0 => ?_
   refine wpList_nil ?_
   refine x_block_n <| xn f0 <| c_region ?_
   refine adi ((k + 1 : Nat) : Int) q0 fun f0 t0 => ?_
   refine mv t0 fun f0 q0 => ?_
   refine wpList_nil ?_
   have f0 : ((lsts (p.take k)).flatten) ++ ((nthS p k).2.2) = (lsts (p.take (k + 1))).flatten := (flat_step (by omega)).symm
   have t0 := q0
   have q0 := v0
   rw [f0] at t0 q0
   have f0 := q0.forget 2
   exact ⟨_, by omega, k + 1, c0, s0, (t0.sub (rc4 (rc2 (rc rfl rnl)))), f0, by omega, rfl⟩
  refine wcf m0 (decide_eq_false i0) fun f0 => ?_
  refine wp_exit ?_
  refine x_then_e ?_
  refine x_then_e ?_
  refine x_block_eq ?_
  refine xn h0 <| wsc fun h0 i0 => lR f0 fun h0 m0 => ?_
  refine bsl m0 b0 fun h0 f0 t0 s0 c0 => ?_
  refine m_appendF (f := encN) (i := 2) ((lsts (p.take k)).flatten) ([n]) sv s0 c0 rfl rfl rfl rfl rfl encN_len (encN_one _) Tryd.underlying22 zi39 rfl rfl (own_lnews (f := encN) (c0.res (i := 3) rfl)) rfl (by (simp only [List.length_cons, List.length_nil]; omega)) (by decide) fun t0 f0 h0 m0 b0 q0 v0 => ?_
  have b0 : (((lsts (p.take k)).flatten) ++ ([n]) : List Nd).length = ((lsts (p.take k)).flatten).length + 1 := by (simp only [List.length_append, List.length_take, List.length_cons, List.length_nil]; done)
  have b0 := v0.erase 3
  refine aw q0 i0 fun v0 f0 => ?_
  refine wp_ret <| er1 f0 ?_
  have f0 := own_cap (b0.res (i := 2) rfl)
  obtain ⟨i0, v0⟩ := b0.row_dataM (i := 2) rfl (j := 0) rfl (by decide)
  have b0 := i0.data (dRow 4 h0 ((((lsts (p.take k)).flatten) ++ ([n]) : List Nd).length) m0 (encNs (((lsts (p.take k)).flatten) ++ ([n])))) ⟨f0, v0⟩
  refine ⟨h0, m0, (((lsts (p.take k)).flatten) ++ ([n])), ?_, b0.fr, b0.res (i := 0) rfl, b0.rx 2, (by unfold noL; rw [if_pos (by assumption), List.take_of_length_le (by omega)])⟩
  exact cr (ret_s (by rfl))
 refine wctb d0 rfl (by rw [(decide_eq_false j0)]; rfl) fun b0 => ?_
 refine wsc fun j0 d0 => aw b0 d0 fun j0 m0 => ?_
 refine wp_ret <| x_then_r <| er1 m0 ?_
 refine ⟨none, 0, [], ?_, k0.fr, k0.res (i := 0) rfl, ⟨Nat.le_refl _, RowI.nil _ _ _ _⟩, (by unfold noL; rw [if_neg (by assumption)])⟩
 exact cr (ret_s (by rfl))
theorem tick_calls (w0 : World) (Z : Nat → Prop) (hZ : ∀ k, Z k → k < w0.heap.size) (mg : Nat) (mt : TypeId) (me : Int) (mr : List Value) (hm : (Res.box mg mt (.int .i64 me :: mr)).holds w0) (hmz : ¬ Z mg) :
    Calls Tryd.prog 97 [.pointer (some ⟨mg, 0, none⟩)].toArray w0 (fun e w' => ∃ (rA0 : Option Addr) (rc0 : Nat) (rL0 : List Nd), e = .returned (.slice rA0 rL0.length rc0) ∧ Fr (· = mg) w0 w' ∧ (Res.box mg mt (.int .i64 (me) :: mr)).holds w' ∧ (dRow 4 rA0 rL0.length rc0 (encNs rL0)).φ w' (nxt Z w0 w') ∧ rL0 = noL me ⟨29, 0, 0, ⟨#[]⟩⟩ []) := by
 have b0 := sM hm hmz hZ zn
 refine c_enter Tryd.func97 rfl Tryd.ntmps97 rfl fun c0 d0 => ?_
 refine wsc fun c0 f0 => aw d0 f0 fun c0 h0 => ?_
 refine wsc fun f0 c0 => mv h0 fun f0 d0 => ?_
 refine bld d0 fun f0 h0 => ?_
 have f0 := b0.nf
 refine kcl h0 ok59 (node_calls _ _ f0.il _ _ _ _ (⟨29, 0, 0, (⟨#[]⟩ : ByteArray)⟩ : Nd) none 0 [] (f0.z 0) (imm_box (i := 0) rfl) ⟨Nat.le_refl _, RowI.nil _ _ _ _⟩ all_nil) ?_
 rintro h0 b0 ⟨d0, i0, j0, rfl, k0, m0, n0, o0⟩
 have b0 := f0.callM (i := 0) rfl k0 m0
 have m0 := f0.dM 0 b0 n0
 refine ⟨_, rfl, fun b0 n0 => ?_⟩
 refine aw n0 c0 fun b0 f0 => ?_
 refine wp_ret <| er1 f0 ?_
 refine ⟨d0, i0, j0, ?_, m0.fr, m0.res (i := 0) rfl, m0.rx 0, (by exact o0)⟩
 exact cr (ret_s (by rfl))
theorem fail_calls (w0 : World) (Z : Nat → Prop) (hZ : ∀ k, Z k → k < w0.heap.size) (mg : Nat) (mt : TypeId) (me : Int) (mr : List Value) (ee : Int) (hm : (Res.box mg mt (.int .i64 me :: mr)).holds w0) (hmz : ¬ Z mg) :
    Calls Tryd.prog 57 [.pointer (some ⟨mg, 0, none⟩), .int .i64 ee].toArray w0 (fun e w' => ∃ (rA0 : Option Addr) (rc0 : Nat), e = .returned (.slice rA0 (([] : List Nd)).length rc0) ∧ Fr (· = mg) w0 w' ∧ (Res.box mg mt (.int .i64 (if me = 0 then ee else me) :: mr)).holds w' ∧ (dRow 4 rA0 ((([] : List Nd)).length) rc0 (encNs ([] : List Nd))).φ w' (nxt Z w0 w')) := by
 have b0 := sM hm hmz hZ zn
 refine c_enter Tryd.func57 rfl Tryd.ntmps57 rfl fun c0 d0 => ?_
 refine wsc fun c0 f0 => aw d0 f0 fun c0 h0 => ?_
 refine wp_seq_k fun f0 c0 => wsc fun f0 d0 => lR h0 fun f0 i0 => ?_
 refine wn d0 ?_
 rcases Decidable.em ((me) = 0) with d0 | d0
 ·
  refine wct i0 (decide_eq_true d0) fun f0 => ?_
  refine c_region ?_
  refine lR f0 fun h0 j0 => ?_
  refine sto 0 j0 b0 fun h0 f0 k0 m0 => ?_
  refine wn c0 <| wsc fun f0 h0 => aw k0 h0 fun f0 j0 => ?_
  refine wp_ret <| er1 j0 ?_
  have j0 : ([] : List Nd) = [] := rfl
  rw [j0]
  refine ⟨none, 0, ?_, m0.fr, (by rw [show (if me = 0 then ee else me : Int) = (ee) by omega]; exact m0.res (i := 0) rfl), ⟨Nat.le_refl _, RowI.nil _ _ _ _⟩⟩
  exact cr rfl
 refine wcf i0 (decide_eq_false d0) fun m0 => ?_
 refine wp_skip <| xn c0 <| wsc fun c0 d0 => aw m0 d0 fun c0 i0 => ?_
 refine wp_ret <| er1 i0 ?_
 have i0 : ([] : List Nd) = [] := rfl
 rw [i0]
 refine ⟨none, 0, ?_, b0.fr, (by rw [show (if me = 0 then ee else me : Int) = (me) by omega]; exact b0.res (i := 0) rfl), ⟨Nat.le_refl _, RowI.nil _ _ _ _⟩⟩
 exact cr rfl
theorem up_calls (w0 : World) (Z : Nat → Prop) (hZ : ∀ k, Z k → k < w0.heap.size) (mg : Nat) (mt : TypeId) (me : Int) (mr : List Value) (tA : Option Addr) (tc : Nat) (t : List Nd) (n : Int) (k : Int) (hShp : Shapes w0 Z) (hm : (Res.box mg mt (.int .i64 me :: mr)).holds w0) (hmz : ¬ Z mg) (ht : (dRow 4 tA t.length tc (encNs t)).φ w0 Z) (hsm : sml t := by first | assumption | omega | (simp <;> omega)) (hl : t.length ≤ 1000000 := by first | assumption | omega | (simp <;> omega)) :
    Calls Tryd.prog 85 [.pointer (some ⟨mg, 0, none⟩), .slice tA t.length tc, .int .i64 n, .int .i64 k].toArray w0 (fun e w' => ∃ (rA0 : Option Addr) (rc0 : Nat) (rL0 : List Nd), e = .returned (.slice rA0 rL0.length rc0) ∧ Fr (· = mg) w0 w' ∧ (Res.box mg mt (.int .i64 (upE me t n k) :: mr)).holds w' ∧ (dRow 4 rA0 rL0.length rc0 (encNs rL0)).φ w' (nxt Z w0 w') ∧ rL0 = upL me t n k) := by
 have b0 := sM hm hmz hZ (zc (d := dShapes) hShp (zc ht zn))
 refine c_enter Tryd.func85 rfl Tryd.ntmps85 rfl fun c0 d0 => ?_
 refine wsc fun c0 f0 => aw d0 f0 fun c0 h0 => ?_
 refine wp_seq_k fun f0 c0 => wsc fun f0 d0 => lR h0 fun f0 i0 => ?_
 refine wn d0 ?_
 rcases Decidable.em ((me) = 0) with d0 | d0
 ·
  refine wcfb i0 rfl (by rw [(decide_eq_true d0)]; rfl) fun f0 => ?_
  refine wp_skip <| xn c0 <| wsc fun c0 h0 => lR f0 fun c0 j0 => ?_
  have c0 := b0.nf
  refine kcl j0 ok83 (shift_calls _ _ c0.il _ _ _ (n) (k) (c0.g 0) (c0.g 1)) ?_
  rintro j0 f0 ⟨k0, m0, rfl, n0, o0, p0⟩
  have f0 := c0.callO n0 o0 p0
  refine ⟨_, rfl, fun p0 o0 => ?_⟩
  refine lR o0 fun p0 n0 => ?_
  refine wn h0 <| wp_seq_k fun h0 p0 => wsc fun h0 o0 => lR n0 fun h0 c0 => ?_
  refine wn o0 ?_
  rcases Decidable.em (((sfE t (n) (k))) = 0) with o0 | o0
  ·
   refine wcfb c0 rfl (by rw [(decide_eq_true o0)]; rfl) fun h0 => ?_
   refine wp_skip <| xn p0 <| wsc fun p0 n0 => lR h0 fun p0 j0 => ?_
   refine wn n0 <| wp_ret <| er1 j0 ?_
   have j0 := own_cap (f0.res (i := 1) rfl)
   obtain ⟨n0, p0⟩ := f0.row_dataM (i := 1) rfl (j := 0) rfl (by decide)
   have h0 := n0.data (dRow 4 k0 ((sfA t (n) (k)).length) m0 (encNs (sfA t (n) (k)))) ⟨j0, p0⟩
   refine ⟨k0, m0, (sfA t (n) (k)), ?_, h0.fr, (by rw [show (upE me t n k : Int) = (me) by (simp [upE, inQ, d0, o0]; done)]; exact h0.res (i := 0) rfl), h0.rx 2, (by unfold upL; rw [if_pos (by assumption)])⟩
   exact cr (ret_s (by rfl))
  refine wctb c0 rfl (by rw [(decide_eq_false o0)]; rfl) fun h0 => ?_
  refine wsc fun c0 m0 => lR h0 fun c0 k0 => ?_
  have c0 := f0.nf
  refine kcl k0 ok57 (fail_calls _ _ c0.il _ _ _ _ ((sfE t (n) (k))) (c0.z 0) (imm_box (i := 0) rfl)) ?_
  rintro k0 f0 ⟨h0, p0, rfl, n0, j0, q0⟩
  have f0 := c0.callM (i := 0) rfl n0 j0
  have j0 := c0.dM 0 f0 q0
  refine ⟨_, rfl, fun f0 q0 => ?_⟩
  refine aw q0 m0 fun f0 c0 => ?_
  refine wp_ret <| x_then_r <| er1 c0 ?_
  refine ⟨h0, p0, ([] : List Nd), ?_, j0.fr, (by rw [show (upE me t n k : Int) = ((if (me) = 0 then ((sfE t (n) (k))) else (me))) by (simp [upE, inQ, d0, o0]; done)]; exact j0.res (i := 0) rfl), j0.rx 2, (by unfold upL; first | (rw [if_neg (by assumption)]; done) | (rw [if_pos (by assumption), sf_bad (by assumption)]; done))⟩
  exact cr (ret_s (by rfl))
 refine wctb i0 rfl (by rw [(decide_eq_false d0)]; rfl) fun j0 => ?_
 refine wsc fun i0 p0 => aw j0 p0 fun i0 h0 => ?_
 refine wp_ret <| x_then_r <| er1 h0 ?_
 refine ⟨none, 0, [], ?_, b0.fr, (by rw [show (upE me t n k : Int) = (me) by (simp [upE, inQ, d0]; done)]; exact b0.res (i := 0) rfl), ⟨Nat.le_refl _, RowI.nil _ _ _ _⟩, (by unfold upL; first | (rw [if_neg (by assumption)]; done) | (rw [if_pos (by assumption), sf_bad (by assumption)]; done))⟩
 exact cr (ret_s (by rfl))
theorem minst_calls (w0 : World) (Z : Nat → Prop) (hZ : ∀ k, Z k → k < w0.heap.size) (mg : Nat) (mt : TypeId) (me : Int) (mr : List Value) (tA : Option Addr) (tc : Nat) (t : List Nd) (psA : Option Addr) (psc : Nat) (ps : List Sl) (hShp : Shapes w0 Z) (hm : (Res.box mg mt (.int .i64 me :: mr)).holds w0) (hmz : ¬ Z mg) (ht : (dRow 4 tA t.length tc (encNs t)).φ w0 Z) (hps : (dRow 1 psA ps.length psc (encSs ps)).φ w0 Z) (hpss : (dAll ps).φ w0 Z) (hsm : sml t := by first | assumption | omega | (simp <;> omega)) (hl : t.length ≤ 1000000 := by first | assumption | omega | (simp <;> omega)) (hls : ∀ x ∈ lsts ps, sml x := by first | assumption | omega | (simp <;> omega)) (hlb : ∀ x ∈ lsts ps, x.length ≤ 1000000 := by first | assumption | omega | (simp <;> omega)) (hl0 : ps.length ≤ 1000 := by first | assumption | omega | (simp <;> omega)) :
    Calls Tryd.prog 39 [.pointer (some ⟨mg, 0, none⟩), .slice tA t.length tc, .slice psA ps.length psc].toArray w0 (fun e w' => ∃ (rA0 : Option Addr) (rc0 : Nat) (rL0 : List Nd), e = .returned (.slice rA0 rL0.length rc0) ∧ Fr (· = mg) w0 w' ∧ (Res.box mg mt (.int .i64 (inQ me t (lsts ps)) :: mr)).holds w' ∧ (dRow 4 rA0 rL0.length rc0 (encNs rL0)).φ w' (nxt Z w0 w') ∧ rL0 = inL me t (lsts ps)) := by
 have b0 := sM hm hmz hZ (zc (d := dShapes) hShp (zc ht (zc hps (zc hpss zn))))
 refine c_enter Tryd.func39 rfl Tryd.ntmps39 rfl fun c0 d0 => ?_
 refine wsc fun c0 f0 => aw d0 f0 fun c0 h0 => ?_
 refine wp_seq_k fun f0 c0 => wsc fun f0 d0 => lR h0 fun f0 i0 => ?_
 refine wn d0 ?_
 rcases Decidable.em ((me) = 0) with d0 | d0
 ·
  refine wcfb i0 rfl (by rw [(decide_eq_true d0)]; rfl) fun f0 => ?_
  refine wp_skip <| xn c0 <| wsc fun c0 h0 => lR f0 fun c0 j0 => ?_
  have c0 := b0.nf
  refine kcl j0 ok56 (inst_calls _ _ c0.il _ _ _ _ _ _ (c0.g 0) (c0.g 1) (c0.g 2) (c0.g 3)) ?_
  rintro j0 f0 ⟨k0, m0, rfl, n0, o0⟩
  have f0 := c0.below n0.below
  have n0 := c0.dN f0 o0
  refine ⟨_, rfl, fun f0 o0 => ?_⟩
  refine lR o0 fun f0 c0 => ?_
  refine wn h0 <| wp_seq_k fun h0 f0 => wsc fun h0 o0 => lR c0 fun h0 j0 => ?_
  refine wn o0 ?_
  rcases Decidable.em (((inE t (lsts ps))) = 0) with o0 | o0
  ·
   refine wcfb j0 rfl (by rw [(decide_eq_true o0)]; rfl) fun h0 => ?_
   refine wp_skip <| xn f0 <| wsc fun f0 c0 => lR h0 fun f0 p0 => ?_
   refine wn c0 <| wp_ret <| er1 p0 ?_
   refine ⟨k0, m0, (inA t (lsts ps)), ?_, n0.fr, (by rw [show (inQ me t (lsts ps) : Int) = (me) by (simp [upE, inQ, d0, o0]; done)]; exact n0.res (i := 0) rfl), n0.rx 4, (by unfold inL; rw [if_pos (by assumption)])⟩
   exact cr (ret_s (by rfl))
  refine wctb j0 rfl (by rw [(decide_eq_false o0)]; rfl) fun m0 => ?_
  refine wsc fun j0 k0 => lR m0 fun j0 p0 => ?_
  have j0 := n0.nf
  refine kcl p0 ok57 (fail_calls _ _ j0.il _ _ _ _ ((inE t (lsts ps))) (j0.z 0) (imm_box (i := 0) rfl)) ?_
  rintro p0 n0 ⟨m0, c0, rfl, f0, h0, q0⟩
  have n0 := j0.callM (i := 0) rfl f0 h0
  have h0 := j0.dM 0 n0 q0
  refine ⟨_, rfl, fun n0 q0 => ?_⟩
  refine aw q0 k0 fun n0 j0 => ?_
  refine wp_ret <| x_then_r <| er1 j0 ?_
  refine ⟨m0, c0, ([] : List Nd), ?_, h0.fr, (by rw [show (inQ me t (lsts ps) : Int) = ((if (me) = 0 then ((inE t (lsts ps))) else (me))) by (simp [upE, inQ, d0, o0]; done)]; exact h0.res (i := 0) rfl), h0.rx 5, (by unfold inL; first | (rw [if_neg (by assumption)]; done) | (rw [if_pos (by assumption), in_bad (by assumption)]; done))⟩
  exact cr (ret_s (by rfl))
 refine wctb i0 rfl (by rw [(decide_eq_false d0)]; rfl) fun h0 => ?_
 refine wsc fun i0 c0 => aw h0 c0 fun i0 m0 => ?_
 refine wp_ret <| x_then_r <| er1 m0 ?_
 refine ⟨none, 0, [], ?_, b0.fr, (by rw [show (inQ me t (lsts ps) : Int) = (me) by (simp [upE, inQ, d0]; done)]; exact b0.res (i := 0) rfl), ⟨Nat.le_refl _, RowI.nil _ _ _ _⟩, (by unfold inL; first | (rw [if_neg (by assumption)]; done) | (rw [if_pos (by assumption), in_bad (by assumption)]; done))⟩
 exact cr (ret_s (by rfl))
theorem var_calls (w0 : World) (Z : Nat → Prop) (hZ : ∀ k, Z k → k < w0.heap.size) (mg : Nat) (mt : TypeId) (me : Int) (mr : List Value) (n : Int) (hm : (Res.box mg mt (.int .i64 me :: mr)).holds w0) (hmz : ¬ Z mg) :
    Calls Tryd.prog 87 [.pointer (some ⟨mg, 0, none⟩), .int .i64 n].toArray w0 (fun e w' => ∃ (rA0 : Option Addr) (rc0 : Nat) (rL0 : List Nd), e = .returned (.slice rA0 rL0.length rc0) ∧ Fr (· = mg) w0 w' ∧ (Res.box mg mt (.int .i64 (me) :: mr)).holds w' ∧ (dRow 4 rA0 rL0.length rc0 (encNs rL0)).φ w' (nxt Z w0 w') ∧ rL0 = noL me ⟨0, n, 0, ⟨#[]⟩⟩ []) := by
 have b0 := sM hm hmz hZ zn
 refine c_enter Tryd.func87 rfl Tryd.ntmps87 rfl fun c0 d0 => ?_
 refine wsc fun c0 f0 => aw d0 f0 fun c0 h0 => ?_
 refine wsc fun f0 c0 => lR h0 fun f0 d0 => ?_
 refine bld d0 fun f0 h0 => ?_
 have f0 := b0.nf
 refine kcl h0 ok59 (node_calls _ _ f0.il _ _ _ _ (⟨0, (n), 0, (⟨#[]⟩ : ByteArray)⟩ : Nd) none 0 [] (f0.z 0) (imm_box (i := 0) rfl) ⟨Nat.le_refl _, RowI.nil _ _ _ _⟩ all_nil) ?_
 rintro h0 b0 ⟨d0, i0, j0, rfl, k0, m0, n0, o0⟩
 have b0 := f0.callM (i := 0) rfl k0 m0
 have m0 := f0.dM 0 b0 n0
 refine ⟨_, rfl, fun b0 n0 => ?_⟩
 refine aw n0 c0 fun b0 f0 => ?_
 refine wp_ret <| er1 f0 ?_
 refine ⟨d0, i0, j0, ?_, m0.fr, m0.res (i := 0) rfl, m0.rx 0, (by exact o0)⟩
 exact cr (ret_s (by rfl))
theorem place_calls (w0 : World) (Z : Nat → Prop) (hZ : ∀ k, Z k → k < w0.heap.size) (mg : Nat) (mt : TypeId) (me : Int) (mr : List Value) (n : Int) (tA : Option Addr) (tc : Nat) (t : List Nd) (hm : (Res.box mg mt (.int .i64 me :: mr)).holds w0) (hmz : ¬ Z mg) (ht : (dRow 4 tA t.length tc (encNs t)).φ w0 Z) (h0 : 0 ≤ n := by first | assumption | omega | (simp <;> omega)) (hn : n < 1000 := by first | assumption | omega | (simp <;> omega)) :
    Calls Tryd.prog 86 [.pointer (some ⟨mg, 0, none⟩), .int .i64 n, .slice tA t.length tc].toArray w0 (fun e w' => ∃ (rA0 : Option Addr) (rc0 : Nat) (rL0 : List Nd), e = .returned (.slice rA0 rL0.length rc0) ∧ Fr (· = mg) w0 w' ∧ (Res.box mg mt (.int .i64 (me) :: mr)).holds w' ∧ (dRow 4 rA0 rL0.length rc0 (encNs rL0)).φ w' (nxt Z w0 w') ∧ rL0 = plL me n t) := by
 have b0 := sM hm hmz hZ (zc ht zn)
 refine c_enter Tryd.func86 rfl Tryd.ntmps86 rfl fun c0 d0 => ?_
 refine wsc fun c0 f0 => aw d0 f0 fun c0 i0 => ?_
 refine wp_seq_k fun f0 c0 => wsc fun f0 d0 => mv i0 fun f0 j0 => ?_
 refine r_int (v := .int .i64 ((bandI (n) 2))) sv j0 rfl rfl rfl rfl (by decide) (run_andI (b := 2) (by omega) (by omega) (by decide)) fun f0 i0 => ?_
 refine lR i0 fun f0 j0 => ?_
 refine wn d0 ?_
 rcases Decidable.em (0 < ((bandI (n) 2))) with d0 | d0
 ·
  refine wct j0 (decide_eq_true d0) fun f0 => ?_
  refine wsc fun i0 k0 => mv f0 fun i0 m0 => ?_
  have i0 := b0.nf
  refine kcl m0 ok97 (tick_calls _ _ i0.il _ _ _ _ (i0.z 0) (imm_box (i := 0) rfl)) ?_
  rintro m0 f0 ⟨n0, o0, p0, rfl, q0, s0, t0, u0⟩
  have u0 := i0.callM (i := 0) rfl q0 s0
  have s0 := i0.dM 0 u0 t0
  refine ⟨_, rfl, fun u0 t0 => ?_⟩
  refine aw t0 k0 fun u0 i0 => ?_
  refine wp_ret <| x_then_r <| er1 i0 ?_
  refine ⟨n0, o0, p0, ?_, s0.fr, s0.res (i := 0) rfl, s0.rx 1, (by unfold plL; first | (rw [if_neg (by assumption)]; done) | (rw [if_pos (by assumption)]; assumption))⟩
  exact cr (ret_s (by rfl))
 refine wcf j0 (decide_eq_false d0) fun s0 => ?_
 refine wp_skip <| xn c0 <| wsc fun c0 d0 => lR s0 fun c0 j0 => ?_
 refine wn d0 <| wp_ret <| er1 j0 ?_
 refine ⟨tA, tc, t, ?_, b0.fr, b0.res (i := 0) rfl, b0.rx 0, (by unfold plL; first | (rw [if_neg (by assumption)]; done) | (rw [if_pos (by assumption)]; assumption))⟩
 exact cr (ret_s (by rfl))
theorem parts_calls (w0 : World) (Z : Nat → Prop) (hZ : ∀ k, Z k → k < w0.heap.size) (mg : Nat) (mt : TypeId) (me : Int) (mr : List Value) (tA : Option Addr) (tc : Nat) (t : List Nd) (hShp : Shapes w0 Z) (hm : (Res.box mg mt (.int .i64 me :: mr)).holds w0) (hmz : ¬ Z mg) (ht : (dRow 4 tA t.length tc (encNs t)).φ w0 Z) (hsm : sml t := by first | assumption | omega | (simp <;> omega)) (hl : t.length ≤ 1000000 := by first | assumption | omega | (simp <;> omega)) (hc : chk t = 0 := by first | assumption | omega | (simp <;> omega)) :
    Calls Tryd.prog 88 [.pointer (some ⟨mg, 0, none⟩), .slice tA t.length tc].toArray w0 (fun e w' => ∃ (rA0 : Option Addr) (rc0 : Nat) (rL0 : List Sl), e = .returned (.slice rA0 rL0.length rc0) ∧ Fr (· = mg) w0 w' ∧ (Res.box mg mt (.int .i64 (me) :: mr)).holds w' ∧ (dRow 1 rA0 rL0.length rc0 (encSs rL0)).φ w' (nxt Z w0 w') ∧ (dAll rL0).φ w' (nxt Z w0 w') ∧ lsts rL0 = agA t) := by
 have b0 := sM hm hmz hZ (zc (d := dShapes) hShp (zc ht zn))
 refine c_enter Tryd.func88 rfl Tryd.ntmps88 rfl fun c0 d0 => ?_
 refine wsc fun c0 f0 => aw d0 f0 fun c0 h0 => ?_
 refine wsc fun f0 c0 => mv h0 fun f0 d0 => ?_
 have f0 := b0.nf
 refine kcl d0 ok19 (args_calls _ _ f0.il _ _ _ (f0.g 0) (f0.g 1)) ?_
 rintro d0 b0 ⟨h0, i0, j0, rfl, k0, m0, n0, o0⟩
 have b0 := f0.below k0.below
 have k0 := f0.dN b0 m0
 have b0 := f0.dN k0 n0
 refine ⟨_, rfl, fun k0 n0 => ?_⟩
 refine lR n0 fun k0 f0 => ?_
 refine wn c0 <| wp_seq_k fun c0 k0 => wsc fun c0 n0 => lR f0 fun c0 m0 => ?_
 refine wn n0 ?_
 have n0 : ((chk t)) = 0 := hc
 refine wcfb m0 rfl (by rw [(decide_eq_true n0)]; rfl) fun c0 => ?_
 refine wp_skip <| xn k0 <| wsc fun k0 n0 => lR c0 fun k0 m0 => ?_
 refine wn n0 <| wp_ret <| er1 m0 ?_
 refine ⟨h0, i0, j0, ?_, b0.fr, b0.res (i := 0) rfl, b0.rx 2, b0.rx 3, o0⟩
 exact cr (ret_s (by rfl))
theorem stuck_calls (w0 : World) (Z : Nat → Prop) (hZ : ∀ k, Z k → k < w0.heap.size) (mg : Nat) (mt : TypeId) (me : Int) (mr : List Value) (hm : (Res.box mg mt (.int .i64 me :: mr)).holds w0) (hmz : ¬ Z mg) :
    Calls Tryd.prog 42 [.pointer (some ⟨mg, 0, none⟩)].toArray w0 (fun e w' => ∃ (rA0 : Option Addr) (rc0 : Nat), e = .returned (.slice rA0 (([] : List Nd)).length rc0) ∧ Fr (· = mg) w0 w' ∧ (Res.box mg mt (.int .i64 (if me = 0 then 120 else me) :: mr)).holds w' ∧ (dRow 4 rA0 ((([] : List Nd)).length) rc0 (encNs ([] : List Nd))).φ w' (nxt Z w0 w')) := by
 have b0 := sM hm hmz hZ zn
 refine c_enter Tryd.func42 rfl Tryd.ntmps42 rfl fun c0 d0 => ?_
 refine wsc fun c0 f0 => aw d0 f0 fun c0 h0 => ?_
 refine wsc fun f0 c0 => mv h0 fun f0 d0 => ?_
 have f0 := b0.nf
 refine kcl d0 ok57 (fail_calls _ _ f0.il _ _ _ _ 120 (f0.z 0) (imm_box (i := 0) rfl)) ?_
 rintro d0 b0 ⟨h0, i0, rfl, j0, k0, m0⟩
 have b0 := f0.callM (i := 0) rfl j0 k0
 have k0 := f0.dM 0 b0 m0
 refine ⟨_, rfl, fun b0 m0 => ?_⟩
 refine aw m0 c0 fun b0 f0 => ?_
 refine wp_ret <| er1 f0 ?_
 refine ⟨h0, i0, ?_, k0.fr, (by rw [show (if me = 0 then 120 else me : Int) = ((if (me) = 0 then 120 else (me))) by rfl]; exact k0.res (i := 0) rfl), k0.rx 0⟩
 exact cr rfl
theorem cloneS_calls (w0 : World) (Z : Nat → Prop) (hZ : ∀ k, Z k → k < w0.heap.size) (tA : Option Addr) (tc : Nat) (t : List Sl) (ht : (dRow 1 tA t.length tc (encSs t)).φ w0 Z) (hts : (dAll t).φ w0 Z) (hl : t.length ≤ 1000000 := by first | assumption | omega | (simp <;> omega)) :
    Calls Tryd.prog 58 [.slice tA t.length tc].toArray w0 (fun e w' => ∃ (rA0 : Option Addr) (rc0 : Nat), e = .returned (.slice rA0 (t).length rc0) ∧ Fr none_ w0 w' ∧ (Res.row rA0 (t).length rc0 22 1 (encSs t)).holds w' ∧ (∀ k, (Res.row rA0 (t).length rc0 22 1 (encSs t)).blk = some k → w0.heap.size ≤ k)) := by
 have b0 := s0 (M := none_) hZ (zc ht (zc hts zn))
 refine c_enter Tryd.func58 rfl Tryd.ntmps58 rfl fun c0 d0 => ?_
 refine wsc fun c0 f0 => aw d0 f0 fun c0 h0 => ?_
 refine wp_seq_k fun f0 c0 => wsc fun f0 d0 => mv h0 fun f0 i0 => ?_
 refine r_eqlNil sv i0 rfl rfl rfl rfl Tryd.underlying40 (by decide) fun f0 h0 => ?_
 refine wn d0 ?_
 rcases Bool.eq_false_or_eq_true (Option.isNone tA) with d0 | d0
 ·
  refine wct h0 d0 fun f0 => ?_
  refine wsc fun i0 j0 => aw f0 j0 fun i0 k0 => ?_
  refine wp_ret <| x_then_r <| er1 k0 ?_
  have k0 : t = [] := List.eq_nil_of_length_eq_zero (nil_len ht (by assumption))
  rw [k0]
  refine ⟨none, 0, ?_, b0.fr, nil_row1, nil_row2⟩
  exact cr rfl
 refine wcf h0 d0 fun k0 => ?_
 refine wp_skip <| xn c0 <| wsc fun c0 d0 => ?_
 have c0 := b0.data (dAll []) all_nil
 refine bsl k0 c0 fun b0 h0 j0 i0 f0 => ?_
 refine mv i0 fun j0 h0 => ?_
 refine m_appendF (f := encS) (i := 0) ([]) (t) sv h0 f0 rfl rfl rfl rfl rfl encS_len (encS_one _) Tryd.underlying40 zi22 rfl rfl (f0.row (i := 0) rfl).2.news rfl (by (simp only [List.length_cons, List.length_nil]; omega)) (by decide) fun j0 i0 b0 c0 k0 m0 n0 => ?_
 have k0 : (([]) ++ t : List Sl).length = t.length := by (simp only [List.length_append, List.length_take, List.length_cons, List.length_nil]; omega)
 have k0 := n0.data (dAll (([]) ++ t)) (all_append (n0.get (i := 2) rfl) (n0.get (i := 1) rfl))
 refine aw m0 d0 fun n0 i0 => ?_
 refine wp_ret <| er1 i0 ?_
 have i0 : t = ([]) ++ t := by simp
 rw [i0]
 refine ⟨b0, c0, ?_, k0.fr, (k0.res (i := 0) rfl), (k0.fresh (i := 0) rfl)⟩
 exact cr rfl
end Go.Proofs.YtpfmnpaifchleaaDoor
