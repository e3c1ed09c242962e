import Derived.Test.YtobgdeffhdefeaaDoorZtd
/- Contracts of functions, one theorem each: what the call returns, and that nothing old is changed. Printed by gen.py. -/
namespace Go.Proofs.YtobgdeffhdefeaaDoor
open Go Go.RowKit
set_option linter.unusedSimpArgs false
set_option linter.unusedVariables false
set_option maxRecDepth 100000 in
set_option maxHeartbeats 1000000 in
theorem tback_yields (w0 : World) (Z : Nat → Prop) (tg : Nat) (tA : Option Addr) (tc : Nat) (t : List Nd) (msg : Nat) (msA : Option Addr) (msc : Nat) (ms : List (Int × Int)) (hShp : Shapes w0 Z) (ht : (dRow 4 tA t.length tc (encNs t)).φ w0 Z) (htb : (dBox tg [.slice tA t.length tc]).φ w0 Z) (hms : (dRow 2 msA ms.length msc (encMs ms)).φ w0 Z) (hmsb : (dBox msg [.slice msA ms.length msc]).φ w0 Z) (hl : t.length ≤ 1000000) (hsm : sml t) (hc : chk t = 0) (hmq : ms = measL t) :
    Yields Tryd.prog 143 [.pointer (some ⟨tg, 0, none⟩), .pointer (some ⟨msg, 0, none⟩)].toArray (fun x : Int × Sl => #[.int .i64 x.1, .slice x.2.1 x.2.2.2.length x.2.2.1]) (bkS tA tc t) Z w0 := by
 refine yields_of Tryd.func143 rfl Tryd.ntmps143 rfl [dShapes, dRow 4 tA t.length tc (encNs t), dBox tg [.slice tA t.length tc], dRow 2 msA ms.length msc (encMs ms), dBox msg [.slice msA ms.length msc]] (by
  intro d hd
  simp only [List.mem_cons, List.not_mem_nil, or_false] at hd
  rcases hd with rfl | rfl | rfl | rfl | rfl
  · exact hShp
  · exact ht
  · exact htb
  · exact hms
  · exact hmsb
  ) (fun lp jf jx w0 C0 M0 hY hds b0 c0 d0 => ?_)
 have hb := meas_chk hc
 have hp0 := meas_pos hb
 have hrt := right_at hb (show t.length - 1 < t.length by omega)
 have hm8 := many_le hrt
 have hml : ms.length = t.length := by rw [hmq]; exact measL_length hb
 refine wsc (fun b0 f0 => ?_)
 refine m_loadC sv c0 rfl rfl rfl (dbox_cell (d0.get (i := 3) rfl) rfl) Tryd.underlying22 rfl (by decide) (fun b0 h0 => ?_)
 refine r_len sv h0 rfl rfl rfl rfl Tryd.underlying22 (by decide) (fun b0 c0 => ?_)
 refine r_sub (z := (((t.length : Nat) : Int) - 1)) sv c0 rfl rfl rfl rfl (by decide) (by omega) (by omega) (by omega) (fun b0 h0 => ?_)
 refine asg h0 (fun b0 c0 => ?_)
 refine wpList_nil (x_then_n (f0 _ _ ?_))
 refine wsc (fun f0 b0 => ?_)
 refine m_loadC sv c0 rfl rfl rfl (dbox_cell (d0.get (i := 3) rfl) rfl) Tryd.underlying22 rfl (by decide) (fun f0 h0 => ?_)
 refine mv h0 (fun f0 c0 => ?_)
 refine m_index (i := (t.length) - (1)) (j := ((t.length) - (1)) * 4) sv c0 rfl rfl rfl rfl Tryd.underlying22 sz32 (by omega) (by omega) (nds_elem (t := t) (k := (t.length) - (1)) (d0.row (i := 2) rfl).2 (by omega)).some_ rfl (by decide) (fun f0 h0 => ?_)
 refine m_loadEN sv h0 rfl rfl rfl (nds_elem (t := t) (k := (t.length) - (1)) (d0.row (i := 2) rfl).2 (by omega)) Tryd.underlying32 rfl sz32 (by decide) (fun f0 c0 => ?_)
 have f0 := d0.nf
 refine k_call (xs := [.tmp 13]) se c0 rfl rfl rfl (by decide) ok126 (many_calls _ _ f0.il (nth t ((t.length) - (1))) (f0.g 1)) ?_
 rintro c0 d0 ⟨rfl, h0⟩
 have d0 := f0.below h0.below
 refine ⟨_, rfl, fun h0 f0 => ?_⟩
 refine r_sub (z := (((many (nth t ((t.length) - (1))) : Nat) : Int) - 1)) sv f0 rfl rfl rfl rfl (by decide) (by omega) (by omega) (by omega) (fun h0 c0 => ?_)
 refine asg c0 (fun h0 f0 => ?_)
 refine wpList_nil (x_then_n (b0 _ _ ?_))
 refine wp_block ?_
 refine wp_loop_ghost (fun gn ga gw => ∃ k : Nat, (Reg ga 35 [(1000000, .bool false), (0, .func (.yield lp) #[] #[]), (1, .pointer (some ⟨tg, 0, none⟩)), (2, .pointer (some ⟨msg, 0, none⟩)), (4, .int .i64 ((posL t (t.length - 1) k : Nat) : Int)), (5, .int .i64 (((many (nth t (t.length - 1)) : Nat) : Int) - ((k : Nat) : Int) - 1))]) ∧ (St w0 (oldB w0) M0 gw [] [dJ jf ((bkS tA tc t).take k) C0 M0 w0.heap.size, dShapes, dRow 4 tA t.length tc (encNs t), dBox tg [.slice tA t.length tc], dRow 2 msA ms.length msc (encMs ms), dBox msg [.slice msA ms.length msc]]) ∧ (k ≤ many (nth t (t.length - 1))) ∧ (many (nth t (t.length - 1)) - k) = gn) _ ⟨0, (f0.sub (rc rfl (rc rfl (rc rfl (rc rfl (rc (ri rfl (by rw [posL_zero hb (by omega)]; omega)) (rc (ri rfl (by omega)) rnl))))))), d0, by omega, rfl⟩ ?_
 rintro f0 d0 b0 ⟨k, h0, c0, hk, i0⟩
 refine wp_seq_k (fun i0 b0 => ?_)
 refine wsc (fun i0 d0 => ?_)
 refine mv h0 (fun i0 f0 => ?_)
 refine r_geq sv f0 rfl rfl rfl rfl (by decide) (fun i0 h0 => ?_)
 refine wpList_nil (x_then_n (d0 _ _ ?_))
 rcases Decidable.em (0 ≤ (((many (nth t (t.length - 1)) : Nat) : Int) - ((k : Nat) : Int) - 1)) with d0 | d0
 ·
  obtain ⟨hps1, hps2, hps3, hps4⟩ := ps_step hb (show k < many (nth t (t.length - 1)) by omega)
  rw [← hmq] at hps3
  have i0 := h0.setb (d := 17) (b := true) rfl (decide_eq_true d0)
  refine wp_cond_true (i0.ev rfl) ?_
  refine wp_skip ?_
  refine x_then_n (b0 _ _ ?_)
  refine wp_seq_k (fun b0 f0 => ?_)
  refine wp_block ?_
  refine wsc (fun b0 j0 => ?_)
  refine m_loadC sv i0 rfl rfl rfl (dbox_cell (c0.get (i := 5) rfl) rfl) Tryd.underlying87 rfl (by decide) (fun b0 k0 => ?_)
  refine mv k0 (fun b0 i0 => ?_)
  refine r_sub (z := (((posL t (t.length - 1) k : Nat) : Int) - 1)) sv i0 rfl rfl rfl rfl (by decide) (by omega) (by omega) (by omega) (fun b0 k0 => ?_)
  refine m_index (i := (posL t (t.length - 1) k) - (1)) (j := ((posL t (t.length - 1) k) - (1)) * 2) sv k0 rfl rfl rfl rfl Tryd.underlying87 sz121 (by omega) (by omega) (ms_elem (t := ms) (k := (posL t (t.length - 1) k) - (1)) (c0.row (i := 4) rfl).2 (by omega)).some_ rfl (by decide) (fun b0 i0 => ?_)
  refine m_fieldE (j' := ((posL t (t.length - 1) k) - (1)) * 2) sv i0 rfl rfl rfl (ms_elem (t := ms) (k := (posL t (t.length - 1) k) - (1)) (c0.row (i := 4) rfl).2 (by omega)).some_ Tryd.underlying121 rfl sz3 rfl rfl (by decide) (fun b0 k0 => ?_)
  refine m_loadE sv k0 rfl rfl rfl 0 (((posL t (t.length - 1) k) - (1)) * 2) (ms_elem (t := ms) (k := (posL t (t.length - 1) k) - (1)) (c0.row (i := 4) rfl).2 (by omega)) rfl rfl Tryd.underlying3 rfl (by decide) (fun b0 i0 => ?_)
  refine asg i0 (fun b0 k0 => ?_)
  have b0 := Reg.cons k0 k0 (ri (i := 6) (b := ((posL t (t.length - 1) (k + 1) : Nat) : Int)) rfl (hps3.symm))
  refine wpList_nil (x_then_n (j0 _ _ ?_))
  refine wp_seq_k (fun j0 k0 => ?_)
  refine wp_seq_k (fun j0 i0 => ?_)
  refine cy_region ?_
  refine r_move (st_listInV rfl rfl) b0 rfl rfl rfl (by decide) (fun j0 m0 => ?_)
  refine r_move (st_listInV rfl rfl) m0 rfl rfl rfl (by decide) (fun j0 b0 => ?_)
  refine m_loadC (st_listInV rfl rfl) b0 rfl rfl rfl (dbox_cell (c0.get (i := 3) rfl) rfl) Tryd.underlying22 rfl (by decide) (fun j0 m0 => ?_)
  refine r_move (st_listInV rfl rfl) m0 rfl rfl rfl (by decide) (fun j0 b0 => ?_)
  refine r_move (st_listInV rfl rfl) b0 rfl rfl rfl (by decide) (fun j0 m0 => ?_)
  have j0 : (((t).drop (posL t (t.length - 1) (k + 1))).take ((posL t (t.length - 1) k) - (posL t (t.length - 1) (k + 1)))).length = (posL t (t.length - 1) k) - (posL t (t.length - 1) (k + 1)) := by simp only [List.length_drop, List.length_take]; omega
  have j0 := c0.data (dRow 4 (if tc = posL t (t.length - 1) (k + 1) then tA else (tA).map (·.add ((posL t (t.length - 1) (k + 1)) * 4))) ((((t).drop (posL t (t.length - 1) (k + 1))).take ((posL t (t.length - 1) k) - (posL t (t.length - 1) (k + 1)))).length) (tc - (posL t (t.length - 1) (k + 1))) (encNs (((t).drop (posL t (t.length - 1) (k + 1))).take ((posL t (t.length - 1) k) - (posL t (t.length - 1) (k + 1)))))) (cut_row (f := encN) (L := t) (c0.get (i := 2) rfl) encN_len (by omega))
  have b0 := (j0.get (i := 2) rfl).1
  refine m_sliceA (lo := some (.tmp 29)) (hi := some (.tmp 30)) (vlo := (some (.int .i64 ((posL t (t.length - 1) (k + 1) : Nat) : Int)))) (vhi := (some (.int .i64 ((posL t (t.length - 1) k : Nat) : Int)))) (kd := .i64) (kd' := .i64) (st_listInV rfl rfl) m0 rfl rfl rfl rfl rfl (posL t (t.length - 1) (k + 1)) ((((t).drop (posL t (t.length - 1) (k + 1))).take ((posL t (t.length - 1) k) - (posL t (t.length - 1) (k + 1)))).length) (.inl (by rfl)) (.inl (by (congr 2; omega))) Tryd.underlying22 sz32 (by omega) (by decide) (fun b0 n0 => ?_)
  have b0 := j0.nf
  refine y_call (t := .tmp 26) (xs := [.tmp 27, .tmp 31]) (pre := (bkS tA tc t).take k) (i := 0) (ds0 := [dShapes, dRow 4 tA t.length tc (encNs t), dBox tg [.slice tA t.length tc], dRow 2 msA ms.length msc (encMs ms), dBox msg [.slice msA ms.length msc]]) hY rfl n0 b0 rfl rfl rfl rfl (by decide) ((((((many (nth t (t.length - 1)) : Nat) : Int) - ((k : Nat) : Int) - 1), (((if tc = posL t (t.length - 1) (k + 1) then tA else (tA).map (·.add ((posL t (t.length - 1) (k + 1)) * 4))), (tc - (posL t (t.length - 1) (k + 1))), ((t).drop (posL t (t.length - 1) (k + 1))).take ((posL t (t.length - 1) k) - (posL t (t.length - 1) (k + 1)))) : Sl)) : Int × Sl)) rfl rfl (bkS_pre (k := k) (by omega) (bk_eq (k := k) (by omega) rfl)) hds (fun j0 m0 o0 p0 => ?_) (fun j0 m0 o0 p0 => ?_)
  ·
   refine r_not (st_listInV rfl rfl) o0 rfl rfl rfl (by decide) (fun m0 j0 => ?_)
   refine li_nil ?_
   refine x_then_n (i0 _ _ ?_)
   refine wp_cond_false (j0.ev rfl) ?_
   refine wp_skip ?_
   refine x_then_n (k0 _ _ ?_)
   refine c_region ?_
   refine mv j0 (fun k0 m0 => ?_)
   refine asg m0 (fun k0 j0 => ?_)
   refine wpList_nil ?_
   refine x_block_n ?_
   refine x_then_n (f0 _ _ ?_)
   refine c_region ?_
   refine mv j0 (fun f0 k0 => ?_)
   refine r_sub (z := (((many (nth t (t.length - 1)) : Nat) : Int) - ((k : Nat) : Int) - 2)) sv k0 rfl rfl rfl rfl (by decide) (by omega) (by omega) (by omega) (fun f0 j0 => ?_)
   refine asg j0 (fun f0 k0 => ?_)
   refine wpList_nil ?_
   have f0 : (bkS tA tc t).take k ++ [((((((many (nth t (t.length - 1)) : Nat) : Int) - ((k : Nat) : Int) - 1), (((if tc = posL t (t.length - 1) (k + 1) then tA else (tA).map (·.add ((posL t (t.length - 1) (k + 1)) * 4))), (tc - (posL t (t.length - 1) (k + 1))), ((t).drop (posL t (t.length - 1) (k + 1))).take ((posL t (t.length - 1) k) - (posL t (t.length - 1) (k + 1)))) : Sl)) : Int × Sl))] = (bkS tA tc t).take (k + 1) := by rw [← bkS_step (show k < many (nth t (t.length - 1)) by omega)]; exact congrArg (fun z => (bkS tA tc t).take k ++ [z]) (bk_eq (k := k) (by omega) rfl)
   have j0 := p0
   rw [f0] at j0
   exact ⟨_, by omega, k + 1, (k0.sub (rc rfl (rc rfl (rc rfl (rc rfl (rc rfl (rc (ri rfl (by omega)) rnl))))))), j0, by omega, rfl⟩
  ·
   refine r_not (st_listInV rfl rfl) o0 rfl rfl rfl (by decide) (fun j0 k0 => ?_)
   refine li_nil ?_
   refine x_then_n (i0 _ _ ?_)
   refine wp_cond_true (k0.ev rfl) ?_
   refine wp_ret ?_
   refine x_then_r ?_
   refine x_block_r ?_
   refine x_then_r ?_
   refine x_then_r ?_
   refine x_block_r ?_
   refine e_ret0 k0 rfl rfl ?_
   exact it_stop p0 (i := 0) rfl (bkS_pre (k := k) (by omega) (bk_eq (k := k) (by omega) rfl))
 ·
  have p0 := h0.setb (d := 17) (b := false) rfl (decide_eq_false d0)
  refine wp_cond_false (p0.ev rfl) ?_
  refine wp_exit ?_
  refine x_then_e ?_
  refine x_then_e ?_
  refine x_block_eq ?_
  refine e_end0 p0 rfl rfl ?_
  exact it_all c0 (i := 0) rfl (bkS_all (by omega))
set_option maxRecDepth 100000 in
set_option maxHeartbeats 1000000 in
theorem tbackMk_calls (w0 : World) (Z : Nat → Prop) (hZ : ∀ k, Z k → k < w0.heap.size) (tA : Option Addr) (tc : Nat) (t : List Nd) (msA : Option Addr) (msc : Nat) (ms : List (Int × Int)) (ht : (dRow 4 tA t.length tc (encNs t)).φ w0 Z) (hms : (dRow 2 msA ms.length msc (encMs ms)).φ w0 Z) (hl : t.length ≤ 1000000 := by first | assumption | omega | (simp; done) | (simp; omega)) :
    Calls Tryd.prog 134 [.slice tA t.length tc, .slice msA ms.length msc].toArray w0 (fun e w' => ∃ q0_0 : Nat, ∃ q0_1 : Nat, e = .returned (.func (.func 143) #[] #[.pointer (some ⟨q0_0, 0, none⟩), .pointer (some ⟨q0_1, 0, none⟩)]) ∧ Fr none_ w0 w' ∧ (dBox q0_0 [.slice tA t.length tc]).φ w' (nxt Z w0 w') ∧ (dBox q0_1 [.slice msA ms.length msc]).φ w' (nxt Z w0 w')) := by
 have b0 := s0 (M := none_) hZ (zc ht (zc hms zn))
 refine c_enter Tryd.func134 rfl Tryd.ntmps134 rfl (fun c0 d0 => ?_)
 refine wsc (fun c0 f0 => ?_)
 refine m_box (cs := [.slice tA t.length tc]) sv d0 b0 rfl rfl rfl rfl (by decide) (fun c0 h0 i0 j0 k0 => ?_)
 refine m_box (cs := [.slice msA ms.length msc]) sv j0 k0 rfl rfl rfl rfl (by decide) (fun h0 c0 d0 b0 m0 => ?_)
 refine asg b0 (fun c0 h0 => ?_)
 refine wpList_nil (x_then_n (f0 _ _ ?_))
 refine wsc (fun f0 c0 => ?_)
 refine r_makeFunc sv h0 rfl rfl rfl (by decide) (fun f0 b0 => ?_)
 refine asg b0 (fun f0 h0 => ?_)
 refine wpList_nil (x_then_n (c0 _ _ ?_))
 refine wp_ret ?_
 refine e_ret1 h0 rfl rfl rfl ?_
 obtain ⟨h0, c0⟩ := m0.box_data (i := 0) rfl (fun _ h => h)
 have m0 := h0.data (dBox i0 [.slice tA t.length tc]) c0
 obtain ⟨c0, h0⟩ := m0.box_data (i := 0) rfl (fun _ h => h)
 have m0 := c0.data (dBox d0 [.slice msA ms.length msc]) h0
 refine ⟨i0, d0, ?_, m0.fr, ((m0.get (i := 2) rfl).imp imm_nxt id), ((m0.get (i := 3) rfl).imp imm_nxt id)⟩
 exact congrArg Ending.returned rfl
end Go.Proofs.YtobgdeffhdefeaaDoor
/- Contracts of functions, one theorem each: what the call returns, and that nothing old is changed. Printed by gen.py. -/
namespace Go.Proofs.YtobgdeffhdefeaaDoor
open Go Go.RowKit
set_option linter.unusedSimpArgs false
set_option linter.unusedVariables false
set_option maxRecDepth 100000 in
set_option maxHeartbeats 1000000 in
theorem args_calls (w0 : World) (Z : Nat → Prop) (hZ : ∀ k, Z k → k < w0.heap.size) (tA : Option Addr) (tc : Nat) (t : List Nd) (hShp : Shapes w0 Z) (ht : (dRow 4 tA t.length tc (encNs t)).φ w0 Z) (hsm : sml t := by first | assumption | omega | (simp; done) | (simp; omega)) (hl : t.length ≤ 1000000 := by first | assumption | omega | (simp; done) | (simp; omega)) :
    Calls Tryd.prog 122 [.slice tA t.length tc].toArray w0 (fun e w' => ∃ (rA0 : Option Addr) (rc0 : Nat) (rL0 : List Sl), e = .returned (.tuple #[.slice rA0 rL0.length rc0, .int .i64 (chk t)]) ∧ Fr none_ w0 w' ∧ (dRow 1 rA0 rL0.length rc0 (encSs rL0)).φ w' (nxt Z w0 w') ∧ (dAll rL0).φ w' (nxt Z w0 w') ∧ lsts rL0 = agA t) := by
 have b0 := s0 (M := none_) hZ (zc (d := dShapes) hShp (zc ht zn))
 refine c_enterM Tryd.func122 rfl Tryd.ntmps122 rfl (fun c0 d0 => ?_)
 refine wsc (fun c0 f0 => ?_)
 refine asg d0 (fun c0 h0 => ?_)
 refine asg h0 (fun c0 d0 => ?_)
 refine wpList_nil (x_then_n (f0 _ _ ?_))
 refine wsc (fun f0 c0 => ?_)
 refine mv d0 (fun f0 h0 => ?_)
 have f0 := b0.nf
 refine k_call (xs := [.tmp 10]) se h0 rfl rfl rfl (by decide) ok67 (look_calls _ _ f0.il _ _ _ (f0.g 0) (f0.g 1)) ?_
 rintro h0 b0 ⟨d0, i0, rfl, j0, k0⟩
 have b0 := f0.below j0.below
 have j0 := f0.dN b0 k0
 refine ⟨_, rfl, fun b0 k0 => ?_⟩
 refine mv k0 (fun b0 f0 => ?_)
 refine r_extract sv f0 rfl rfl rfl rfl (by decide) (fun b0 k0 => ?_)
 refine r_extract sv k0 rfl rfl rfl rfl (by decide) (fun b0 f0 => ?_)
 refine asg f0 (fun b0 k0 => ?_)
 refine asg k0 (fun b0 f0 => ?_)
 refine wpList_nil (x_then_n (c0 _ _ ?_))
 refine wp_seq_k (fun c0 b0 => ?_)
 refine wsc (fun c0 k0 => ?_)
 refine mv f0 (fun c0 h0 => ?_)
 refine r_neq sv h0 rfl rfl rfl rfl (by decide) (fun c0 f0 => ?_)
 refine wpList_nil (x_then_n (k0 _ _ ?_))
 rcases Decidable.em (((chk t)) = 0) with k0 | k0
 ·
  have hc := k0
  have hb := meas_chk hc
  have hp0 := meas_pos hb
  have hrt := right_at hb (show t.length - 1 < t.length by omega)
  have hm8 := many_le hrt
  have c0 := f0.setb (d := 15) (b := false) rfl (by rw [(decide_eq_true k0)]; rfl)
  refine wp_cond_false (c0.ev rfl) ?_
  refine wp_skip ?_
  refine x_then_n (b0 _ _ ?_)
  refine wsc (fun b0 h0 => ?_)
  refine mv c0 (fun b0 m0 => ?_)
  refine mv m0 (fun b0 c0 => ?_)
  refine r_len sv c0 rfl rfl rfl rfl Tryd.underlying22 (by decide) (fun b0 m0 => ?_)
  refine r_sub (z := (((t.length : Nat) : Int) - 1)) sv m0 rfl rfl rfl rfl (by decide) (by omega) (by omega) (by omega) (fun b0 c0 => ?_)
  refine m_index (i := (t.length) - (1)) (j := ((t.length) - (1)) * 4) sv c0 rfl rfl rfl rfl Tryd.underlying22 sz32 (by omega) (by omega) (nds_elem (t := t) (k := (t.length) - (1)) (j0.row (i := 1) rfl).2 (by omega)).some_ rfl (by decide) (fun b0 m0 => ?_)
  refine m_loadEN sv m0 rfl rfl rfl (nds_elem (t := t) (k := (t.length) - (1)) (j0.row (i := 1) rfl).2 (by omega)) Tryd.underlying32 rfl sz32 (by decide) (fun b0 c0 => ?_)
  have b0 := j0.nf
  refine k_call (xs := [.tmp 22]) se c0 rfl rfl rfl (by decide) ok126 (many_calls _ _ b0.il (nth t ((t.length) - (1))) (b0.g 0) (hr := hrt)) ?_
  rintro c0 m0 ⟨rfl, n0⟩
  have m0 := b0.below n0.below
  refine ⟨_, rfl, fun n0 b0 => ?_⟩
  have n0 : ((many (nth t ((t.length) - (1))) : Nat) : Int) = ((many (nth t ((t.length) - (1))) : Nat) : Int) := by omega
  refine m_makeSs (n := many (nth t ((t.length) - (1)))) sv b0 m0 rfl rfl rfl rfl n0 n0 Tryd.underlying39 zi22 (by decide) (by omega) (by decide) (fun c0 o0 p0 q0 t0 => ?_)
  have o0 : (List.replicate (many (nth t ((t.length) - (1)))) slz).length = many (nth t ((t.length) - (1))) := by simp
  refine m_alloc (cs := [.slice none 0 0]) sv q0 t0 rfl rfl ze39 rfl (by decide) (fun o0 c0 n0 b0 m0 => ?_)
  refine m_store (i := 1) (cs' := [.slice (some ⟨p0, 0, none⟩) ((List.replicate (many (nth t ((t.length) - (1)))) slz).length) ((List.replicate (many (nth t ((t.length) - (1)))) slz).length)]) se b0 m0 rfl rfl rfl rfl rfl sz39 rfl rfl rfl (fun c0 o0 t0 q0 => ?_)
  refine wpList_nil (x_then_n (h0 _ _ ?_))
  refine wp_seq_k (fun h0 o0 => ?_)
  refine wsc (fun h0 c0 => ?_)
  refine mv t0 (fun h0 m0 => ?_)
  refine mv m0 (fun h0 t0 => ?_)
  have h0 := q0.nf
  refine k_call (xs := [.tmp 25, .tmp 26]) se t0 rfl rfl rfl (by decide) ok134 (tbackMk_calls _ _ h0.il _ _ _ _ _ (lookL t) (h0.g 1) (h0.g 2)) ?_
  rintro t0 q0 ⟨m0, b0, rfl, u0, v0, x0⟩
  have q0 := h0.below u0.below
  have u0 := h0.dN q0 v0
  have q0 := h0.dN u0 x0
  refine ⟨_, rfl, fun u0 x0 => ?_⟩
  refine wpList_nil (x_then_n (c0 _ _ ?_))
  refine wp_block ?_
  have c0 := q0.nf
  have q0 : Reg u0 36 [(1000000, .bool false), (2, .slice none 0 0), (3, .int .i64 0), (6, .pointer (some ⟨n0, 0, none⟩)), (27, .func (.func 143) #[] #[.pointer (some ⟨m0, 0, none⟩), .pointer (some ⟨b0, 0, none⟩)])] := (x0.sub (rc rfl (rc rfl (rc rfl (rc rfl (rc rfl rnl))))))
  refine w_range (xs := bkS tA tc t) (encs := (fun x : Int × Sl => #[.int .i64 x.1, .slice x.2.1 x.2.2.2.length x.2.2.1])) (q0.ev rfl) ok143 (tback_yields _ (imm Z w0 [.row (some ⟨p0, 0, none⟩) ((List.replicate (many (nth t ((t.length) - (1)))) slz).length) ((List.replicate (many (nth t ((t.length) - (1)))) slz).length) 22 1 (encSs (List.replicate (many (nth t ((t.length) - (1)))) slz)), .box n0 39 [.slice (some ⟨p0, 0, none⟩) ((List.replicate (many (nth t ((t.length) - (1)))) slz).length) ((List.replicate (many (nth t ((t.length) - (1)))) slz).length)]] _) m0 tA tc t b0 d0 i0 (lookL t) (c0.get (i := 0) rfl) (c0.get (i := 1) rfl) (c0.get (i := 3) rfl) (c0.get (i := 2) rfl) (c0.get (i := 4) rfl) hl hsm hc (lookL_good hc)) (fun _ => rfl) c0 (fun _ h => h) (fun (pre : List (Int × Sl)) (mm : List Res) => ∃ k : Nat, ∃ Ao : Option Addr, ∃ co : Nat, ∃ Ls : List Sl, mm = ([.row Ao ((List.replicate (many (nth t (t.length - 1)) - k) slz ++ Ls.reverse).length) co 22 1 (encSs (List.replicate (many (nth t (t.length - 1)) - k) slz ++ Ls.reverse)), .box n0 39 [.slice Ao ((List.replicate (many (nth t (t.length - 1)) - k) slz ++ Ls.reverse).length) co]] ++ (Ls).map (rowOf 32)) ∧ (k ≤ many (nth t (t.length - 1))) ∧ (pre.length = k) ∧ (Ls.length = k) ∧ (lsts Ls.reverse = ptD t k)) (fun _ _ _ => False) ⟨0, (some ⟨p0, 0, none⟩), (List.replicate (many (nth t ((t.length) - (1)))) slz).length, [], (by rw [List.reverse_nil, List.append_nil, Nat.sub_zero]; rfl), by omega, rfl, rfl, (ptD_zero t).symm⟩ ?_ ?_ ?_
  ·
   rintro c0 pre x p0 m1 hp ⟨k, Ao, co, Ls, rfl, hk, hpk, hLn, hL⟩ x0
   obtain ⟨hkm, rfl⟩ := bkS_next hpk hp
   have hal : (bkAt tA tc t k).2.2.2.length ≤ t.length := by show ((t.drop _).take _).length ≤ t.length; rw [List.length_take, List.length_drop]; omega
   have hrl : (List.replicate (many (nth t (t.length - 1)) - k) slz ++ Ls.reverse).length = many (nth t (t.length - 1)) := by simp; omega
   refine (?_ : ∀ u0, Reg u0 36 [(29, .slice ((bkAt tA tc t k).2.1) ((bkAt tA tc t k).2.2.2.length) ((bkAt tA tc t k).2.2.1)), (28, .int .i64 ((many (nth t (t.length - 1)) - 1 - k : Nat) : Int)), (1000000, .bool false), (2, .slice none 0 0), (3, .int .i64 0), (6, .pointer (some ⟨n0, 0, none⟩)), (27, .func (.func 143) #[] #[.pointer (some ⟨m0, 0, none⟩), .pointer (some ⟨b0, 0, none⟩)])] → Code.wpIn (rI c0) 0 _ _ _ u0 p0) _ (Reg.round2n q0 (by decide) (by decide) rfl)
   intro u0 c0
   refine wpIn_seq_k (fun u0 h0 => ?_)
   refine ci_region (by kernel_rfl) (out_then (out_then (fun _ _ h => h))) ?_
   refine asg c0 (fun u0 v0 => ?_)
   refine wpList_nil (x_then_n (h0 _ _ ?_))
   refine ci_region (by kernel_rfl) (out_then (fun _ _ h => h)) ?_
   refine asg v0 (fun h0 u0 => ?_)
   refine wpList_nil ?_
   have h0 : St w0 Z none_ p0 ([.row Ao ((List.replicate (many (nth t (t.length - 1)) - k) slz ++ Ls.reverse).length) co 22 1 (encSs (List.replicate (many (nth t (t.length - 1)) - k) slz ++ Ls.reverse)), .box n0 39 [.slice Ao ((List.replicate (many (nth t (t.length - 1)) - k) slz ++ Ls.reverse).length) co]] ++ (Ls).map (rowOf 32)) [dShapes, dRow 4 tA t.length tc (encNs t), dRow 2 d0 ((lookL t).length) i0 (encMs (lookL t)), dBox m0 [.slice tA t.length tc], dBox b0 [.slice d0 ((lookL t).length) i0], dAg p0 (imm Z w0 ([.row Ao ((List.replicate (many (nth t (t.length - 1)) - k) slz ++ Ls.reverse).length) co 22 1 (encSs (List.replicate (many (nth t (t.length - 1)) - k) slz ++ Ls.reverse)), .box n0 39 [.slice Ao ((List.replicate (many (nth t (t.length - 1)) - k) slz ++ Ls.reverse).length) co]] ++ (Ls).map (rowOf 32)) p0)] := x0
   refine x_then_n ⟨_, _, 5, h0, rfl, (fun _ h => False.elim h), (fun _ h => False.elim h), fun x0 p0 => ?_⟩
   have h0 := p0.data (dRow 4 ((bkAt tA tc t k).2.1) ((bkAt tA tc t k).2.2.2.length) ((bkAt tA tc t k).2.2.1) (encNs ((bkAt tA tc t k).2.2.2))) (bk_row hb (p0.get (i := 1) rfl) hkm)
   refine wpIn_block ?_
   obtain ⟨p0, v0, c0⟩ := h0.agree
   refine dli_region2 (S := (sW x0 p0 [cel n0 0 (.slice Ao ((List.replicate (many (nth t (t.length - 1)) - k) slz ++ Ls.reverse).length) co), (Res.row Ao ((List.replicate (many (nth t (t.length - 1)) - k) slz ++ Ls.reverse).length) co 22 1 (encSs (List.replicate (many (nth t (t.length - 1)) - k) slz ++ Ls.reverse))).holds])) (k := 6) [5] mixed rfl (by kernel_rfl) c0 (pan_block pan_rPost) (out_block out_rPost) (fun v0 h0 t0 y0 z0 => ?_)
   have v0 := sWI z0 7 (pc 1 0 (pr 0 pn))
   refine dl_take (i := 0) rfl (by kernel_rfl) (by kernel_rfl) (by kernel_rfl) (by kernel_rfl) (fun c a w h => h0 c _ _ _ _ h) rfl (by decide) u0 (want_n rfl) (fun x hx => m_loadC (sy u0) u0 rfl rfl rfl (hx.c 0) Tryd.underlying39 rfl (by decide) gt) v0 (fun c0 b1 => ?_)
   refine dl_takeA (i := 1) rfl (by kernel_rfl) (by kernel_rfl) (by kernel_rfl) (fun c a w h => h0 c _ _ _ _ h) rfl (by decide) b1 (want_n rfl) (fun x => r_move (sy b1) b1 rfl rfl rfl (by decide) gt) (fun c0 v0 => ?_)
   refine dl_takeA (i := 2) rfl (by kernel_rfl) (by kernel_rfl) (by kernel_rfl) (fun c a w h => h0 c _ _ _ _ h) rfl (by decide) v0 (want_n rfl) (fun x => r_move (sy v0) v0 rfl rfl rfl (by decide) gt) (fun c0 b1 => ?_)
   refine dl_one (i := 3) (by kernel_rfl) ?_
   have c0 : St w0 Z none_ y0 ([.row Ao ((List.replicate (many (nth t (t.length - 1)) - k) slz ++ Ls.reverse).length) co 22 1 (encSs (List.replicate (many (nth t (t.length - 1)) - k) slz ++ Ls.reverse)), .box n0 39 [.slice Ao ((List.replicate (many (nth t (t.length - 1)) - k) slz ++ Ls.reverse).length) co]] ++ (Ls).map (rowOf 32)) [dShapes, dRow 4 tA t.length tc (encNs t), dRow 2 d0 ((lookL t).length) i0 (encMs (lookL t)), dBox m0 [.slice tA t.length tc], dBox b0 [.slice d0 ((lookL t).length) i0], dAg x0 (imm Z w0 ([.row Ao ((List.replicate (many (nth t (t.length - 1)) - k) slz ++ Ls.reverse).length) co 22 1 (encSs (List.replicate (many (nth t (t.length - 1)) - k) slz ++ Ls.reverse)), .box n0 39 [.slice Ao ((List.replicate (many (nth t (t.length - 1)) - k) slz ++ Ls.reverse).length) co]] ++ (Ls).map (rowOf 32)) x0), dRow 4 ((bkAt tA tc t k).2.1) ((bkAt tA tc t k).2.2.2.length) ((bkAt tA tc t k).2.2.1) (encNs ((bkAt tA tc t k).2.2.2)), dAg x0 p0] := z0
   refine k_call (xs := [.tmp 32]) (st_op rfl (want_n rfl)) b1 rfl rfl rfl (by decide) ok51 (cloneN_calls _ _ c0.il _ _ ((bkAt tA tc t k).2.2.2) (c0.g 6)) ?_
   rintro b1 z0 ⟨y0, v0, rfl, u0, c1, d1⟩
   have z0 := c0.callO u0 c1 d1
   have d1 := St.rot (A := [.row Ao ((List.replicate (many (nth t (t.length - 1)) - k) slz ++ Ls.reverse).length) co 22 1 (encSs (List.replicate (many (nth t (t.length - 1)) - k) slz ++ Ls.reverse)), .box n0 39 [.slice Ao ((List.replicate (many (nth t (t.length - 1)) - k) slz ++ Ls.reverse).length) co]]) (T := (Ls).map (rowOf 32)) z0
   refine ⟨_, rfl, fun z0 c1 => ?_⟩
   have z0 := sWI d1 7 (pc 1 0 (pr 0 pn))
   refine ⟨fun _ _ => z0, ?_⟩
   refine dl_takeA (i := 4) rfl (by kernel_rfl) (by kernel_rfl) (by kernel_rfl) (fun c a w h => h0 c _ _ _ _ h) rfl (by decide) c1 (want_n rfl) (fun x => m_index (i := many (nth t (t.length - 1)) - 1 - k) (j := (many (nth t (t.length - 1)) - 1 - k) * 1) (sy c1) c1 rfl rfl rfl rfl Tryd.underlying39 sz22 (by omega) (by omega) (own_ss (t := List.replicate (many (nth t (t.length - 1)) - k) slz ++ Ls.reverse) (k := many (nth t (t.length - 1)) - 1 - k) (d1.res (i := 0) rfl) (by omega)).some_ rfl (by decide) gt) (fun z0 u0 => ?_)
   refine dl_one (i := 5) (by kernel_rfl) ?_
   have z0 := St.absorb (e := 32) (A := [.row Ao ((List.replicate (many (nth t (t.length - 1)) - k) slz ++ Ls.reverse).length) co 22 1 (encSs (List.replicate (many (nth t (t.length - 1)) - k) slz ++ Ls.reverse)), .box n0 39 [.slice Ao ((List.replicate (many (nth t (t.length - 1)) - k) slz ++ Ls.reverse).length) co]]) (Ls := Ls) (B := y0) (c := v0) (L := ((bkAt tA tc t k).2.2.2)) d1
   refine m_storeE (f := encS) (i := 0) (k := many (nth t (t.length - 1)) - 1 - k) (L := (List.replicate (many (nth t (t.length - 1)) - k) slz ++ Ls.reverse)) (z := ((y0, v0, ((bkAt tA tc t k).2.2.2)) : Sl)) (st_op rfl (want_n rfl)) u0 z0 rfl rfl rfl rfl rfl rfl (by omega) encS_len (one1 (f := encS) encS_one) rfl sz22 (fun d1 c1 h0 c0 => ?_)
   have h0 : ((List.replicate (many (nth t (t.length - 1)) - k) slz ++ Ls.reverse).set (many (nth t (t.length - 1)) - 1 - k) ((y0, v0, ((bkAt tA tc t k).2.2.2)) : Sl) : List Sl).length = (List.replicate (many (nth t (t.length - 1)) - k) slz ++ Ls.reverse).length := by simp
   refine ⟨fun h => absurd h (by decide), ?_⟩
   refine dl_done (by kernel_rfl) (t0 _ _ ?_) _
   refine x_block_n ?_
   have t0 : St w0 Z none_ c1 ([.row Ao (((List.replicate (many (nth t (t.length - 1)) - k) slz ++ Ls.reverse).set (many (nth t (t.length - 1)) - 1 - k) ((y0, v0, ((bkAt tA tc t k).2.2.2)) : Sl) : List Sl).length) co 22 1 (encSs ((List.replicate (many (nth t (t.length - 1)) - k) slz ++ Ls.reverse).set (many (nth t (t.length - 1)) - 1 - k) ((y0, v0, ((bkAt tA tc t k).2.2.2)) : Sl))), .box n0 39 [.slice Ao ((List.replicate (many (nth t (t.length - 1)) - k) slz ++ Ls.reverse).length) co]] ++ (Ls ++ [((y0, v0, ((bkAt tA tc t k).2.2.2)) : Sl)]).map (rowOf 32)) [dShapes, dRow 4 tA t.length tc (encNs t), dRow 2 d0 ((lookL t).length) i0 (encMs (lookL t)), dBox m0 [.slice tA t.length tc], dBox b0 [.slice d0 ((lookL t).length) i0], dAg x0 (imm Z w0 ([.row Ao ((List.replicate (many (nth t (t.length - 1)) - k) slz ++ Ls.reverse).length) co 22 1 (encSs (List.replicate (many (nth t (t.length - 1)) - k) slz ++ Ls.reverse)), .box n0 39 [.slice Ao ((List.replicate (many (nth t (t.length - 1)) - k) slz ++ Ls.reverse).length) co]] ++ (Ls).map (rowOf 32)) x0), dRow 4 ((bkAt tA tc t k).2.1) ((bkAt tA tc t k).2.2.2.length) ((bkAt tA tc t k).2.2.1) (encNs ((bkAt tA tc t k).2.2.2)), dAg x0 p0] := c0
   exact ⟨_, _, 5, t0, rfl, k + 1, _, _, Ls ++ [((y0, v0, ((bkAt tA tc t k).2.2.2)) : Sl)], (by rw [← rep_set (Ls := Ls) hkm rfl, List.length_set]), by omega, by simp [hpk], by simp [hLn], arg_step hb hL hkm⟩
  ·
   rintro t0 m1 v0 ⟨k, Ao, co, Ls, rfl, hk, hpk, hLn, hL⟩ y0
   have v0 := Reg.marked q0 t0
   have t0 := St.tail_data (e := 32) (A := [.row Ao ((List.replicate (many (nth t (t.length - 1)) - k) slz ++ Ls.reverse).length) co 22 1 (encSs (List.replicate (many (nth t (t.length - 1)) - k) slz ++ Ls.reverse)), .box n0 39 [.slice Ao ((List.replicate (many (nth t (t.length - 1)) - k) slz ++ Ls.reverse).length) co]]) (Ls := Ls) y0 (fun _ h => h)
   have hkm : k = many (nth t (t.length - 1)) := by rw [← hpk]; exact bkS_len tA tc t
   have y0 := t0.data (dAll (List.replicate (many (nth t (t.length - 1)) - k) slz ++ Ls.reverse)) (all_append (all_rep _) (all_rev (t0.get (i := 6) rfl)))
   refine x_block_n ?_
   refine x_then_n (o0 _ _ ?_)
   refine wsc (fun o0 t0 => ?_)
   refine m_load (i := 1) sv v0 y0 rfl rfl rfl rfl rfl Tryd.underlying39 rfl (by decide) (fun o0 n0 => ?_)
   refine asg n0 (fun o0 v0 => ?_)
   refine asg v0 (fun o0 n0 => ?_)
   refine wpList_nil (x_then_n (t0 _ _ ?_))
   refine wp_ret ?_
   have t0 := own_cap (y0.res (i := 0) rfl)
   obtain ⟨o0, v0⟩ := y0.row_data (i := 0) rfl (fun _ h => h)
   have y0 := o0.data (dRow 1 Ao ((List.replicate (many (nth t (t.length - 1)) - k) slz ++ Ls.reverse).length) co (encSs (List.replicate (many (nth t (t.length - 1)) - k) slz ++ Ls.reverse))) ⟨t0, v0⟩
   have v0 := y0.nf
   obtain ⟨y0, o0⟩ := v0.shut (i := 5) rfl [dRow 1 Ao ((List.replicate (many (nth t (t.length - 1)) - k) slz ++ Ls.reverse).length) co (encSs (List.replicate (many (nth t (t.length - 1)) - k) slz ++ Ls.reverse)), dAll (List.replicate (many (nth t (t.length - 1)) - k) slz ++ Ls.reverse)] (by intro d hd; simp only [List.mem_cons, List.not_mem_nil, or_false] at hd; rcases hd with rfl | rfl; exact ⟨List.mem_of_getElem? (i := 8) rfl, datC_row (by decide) _ _ _ _⟩; exact ⟨List.mem_of_getElem? (i := 7) rfl, datC_all _⟩)
   refine m_mark (.inl rfl) n0 rfl y0 (res2 n0 rfl rfl rfl _) ?_
   refine ⟨Ao, co, (List.replicate (many (nth t (t.length - 1)) - k) slz ++ Ls.reverse), ?_, o0.fr, o0.rx 0, o0.rx 1, (by rw [agA_ok hc, lsts_app, hkm, Nat.sub_self, hL, ← ptD_all hb, hkm]; rfl)⟩
   exact ret_t2 (ret_s (by rfl)) (ret_i (by omega))
  ·
   rintro _ _ _ _ _ _ h _
   exact h.elim
 ·
  have o0 := f0.setb (d := 15) (b := true) rfl (by rw [(decide_eq_false k0)]; rfl)
  refine wp_cond_true (o0.ev rfl) ?_
  refine wsc (fun k0 f0 => ?_)
  refine mv o0 (fun k0 y0 => ?_)
  refine asg y0 (fun k0 o0 => ?_)
  refine asg o0 (fun k0 y0 => ?_)
  refine wpList_nil (x_then_n (f0 _ _ ?_))
  refine wp_ret ?_
  refine x_then_r ?_
  refine m_none (.inl rfl) y0 rfl (res2 y0 rfl rfl rfl _) ?_
  refine ⟨none, 0, [], ?_, j0.fr, ⟨Nat.le_refl _, RowI.nil _ _ _ _⟩, all_nil, (agA_no (by assumption)).symm⟩
  exact ret_t2 (ret_s (by rfl)) (ret_i (by rfl))
end Go.Proofs.YtobgdeffhdefeaaDoor
/- Contracts of functions, one theorem each: what the call returns, and that nothing old is changed. Printed by gen.py. -/
namespace Go.Proofs.YtobgdeffhdefeaaDoor
open Go Go.RowKit
set_option linter.unusedSimpArgs false
set_option linter.unusedVariables false
set_option maxRecDepth 100000 in
set_option maxHeartbeats 1000000 in
theorem parts_calls (w0 : World) (Z : Nat → Prop) (hZ : ∀ k, Z k → k < w0.heap.size) (mg : Nat) (mt : TypeId) (me : Int) (mr : List Value) (tA : Option Addr) (tc : Nat) (t : List Nd) (hShp : Shapes w0 Z) (hm : (Res.box mg mt (.int .i64 me :: mr)).holds w0) (hmz : ¬ Z mg) (ht : (dRow 4 tA t.length tc (encNs t)).φ w0 Z) (hsm : sml t := by first | assumption | omega | (simp; done) | (simp; omega)) (hl : t.length ≤ 1000000 := by first | assumption | omega | (simp; done) | (simp; omega)) (hc : chk t = 0 := by first | assumption | omega | (simp; done) | (simp; omega)) :
    Calls Tryd.prog 92 [.pointer (some ⟨mg, 0, none⟩), .slice tA t.length tc].toArray w0 (fun e w' => ∃ (rA0 : Option Addr) (rc0 : Nat) (rL0 : List Sl), e = .returned (.slice rA0 rL0.length rc0) ∧ Fr (· = mg) w0 w' ∧ (Res.box mg mt (.int .i64 (me) :: mr)).holds w' ∧ (dRow 1 rA0 rL0.length rc0 (encSs rL0)).φ w' (nxt Z w0 w') ∧ (dAll rL0).φ w' (nxt Z w0 w') ∧ lsts rL0 = agA t) := by
 have b0 := sM hm hmz hZ (zc (d := dShapes) hShp (zc ht zn))
 refine c_enter Tryd.func92 rfl Tryd.ntmps92 rfl (fun c0 d0 => ?_)
 refine wsc (fun c0 f0 => ?_)
 refine asg d0 (fun c0 h0 => ?_)
 refine wpList_nil (x_then_n (f0 _ _ ?_))
 refine wsc (fun f0 c0 => ?_)
 refine mv h0 (fun f0 d0 => ?_)
 have f0 := b0.nf
 refine k_call (xs := [.tmp 8]) se d0 rfl rfl rfl (by decide) ok122 (args_calls _ _ f0.il _ _ _ (f0.g 0) (f0.g 1)) ?_
 rintro d0 b0 ⟨h0, i0, j0, rfl, k0, m0, n0, o0⟩
 have b0 := f0.below k0.below
 have k0 := f0.dN b0 m0
 have b0 := f0.dN k0 n0
 refine ⟨_, rfl, fun k0 n0 => ?_⟩
 refine mv n0 (fun k0 f0 => ?_)
 refine r_extract sv f0 rfl rfl rfl rfl (by decide) (fun k0 n0 => ?_)
 refine r_extract sv n0 rfl rfl rfl rfl (by decide) (fun k0 f0 => ?_)
 refine asg f0 (fun k0 n0 => ?_)
 refine asg n0 (fun k0 f0 => ?_)
 refine wpList_nil (x_then_n (c0 _ _ ?_))
 refine wp_seq_k (fun c0 k0 => ?_)
 refine wsc (fun c0 n0 => ?_)
 refine mv f0 (fun c0 m0 => ?_)
 refine r_neq sv m0 rfl rfl rfl rfl (by decide) (fun c0 f0 => ?_)
 refine wpList_nil (x_then_n (n0 _ _ ?_))
 have n0 : ((chk t)) = 0 := hc
 have c0 := f0.setb (d := 13) (b := false) rfl (by rw [(decide_eq_true n0)]; rfl)
 refine wp_cond_false (c0.ev rfl) ?_
 refine wp_skip ?_
 refine x_then_n (k0 _ _ ?_)
 refine wsc (fun k0 n0 => ?_)
 refine mv c0 (fun k0 f0 => ?_)
 refine asg f0 (fun k0 c0 => ?_)
 refine wpList_nil (x_then_n (n0 _ _ ?_))
 refine wp_ret ?_
 refine e_ret1 c0 rfl rfl rfl ?_
 refine ⟨h0, i0, j0, ?_, b0.fr, b0.res (i := 0) rfl, b0.rx 2, b0.rx 3, o0⟩
 exact congrArg Ending.returned (ret_s (by rfl))
end Go.Proofs.YtobgdeffhdefeaaDoor
/- Contracts of functions, one theorem each: what the call returns, and that nothing old is changed. Printed by gen.py. -/
namespace Go.Proofs.YtobgdeffhdefeaaDoor
open Go Go.RowKit
set_option linter.unusedSimpArgs false
set_option linter.unusedVariables false
set_option maxRecDepth 100000 in
set_option maxHeartbeats 1000000 in
theorem croot_calls (w0 : World) (Z : Nat → Prop) (hZ : ∀ k, Z k → k < w0.heap.size) (tA : Option Addr) (tc : Nat) (t : List Nd) (ht : (dRow 4 tA t.length tc (encNs t)).φ w0 Z) (hl : t.length ≤ 1000000 := by first | assumption | omega | (simp; done) | (simp; omega)) (h0 : 0 < t.length := by first | assumption | omega | (simp; done) | (simp; omega)) :
    Calls Tryd.prog 58 [.slice tA t.length tc].toArray w0 (fun e w' => e = .returned (.agg #[.int .i64 (((nth t (t.length - 1)).K)), .int .i64 (((nth t (t.length - 1)).N)), .int .i64 (((nth t (t.length - 1)).M)), .string ((nth t (t.length - 1)).S)]) ∧ Fr none_ w0 w') := by
 have b0 := s0 (M := none_) hZ (zc ht zn)
 refine c_enter Tryd.func58 rfl Tryd.ntmps58 rfl (fun c0 d0 => ?_)
 refine wsc (fun c0 f0 => ?_)
 refine m_alloc (cs := [.int .i64 0, .int .i64 0, .int .i64 0, .string (⟨#[]⟩ : ByteArray)]) sv d0 b0 rfl rfl ze32 rfl (by decide) (fun c0 i0 j0 k0 m0 => ?_)
 refine wpList_nil (x_then_n (f0 _ _ ?_))
 refine wsc (fun f0 j0 => ?_)
 refine mv k0 (fun f0 i0 => ?_)
 refine mv i0 (fun f0 k0 => ?_)
 refine r_len sv k0 rfl rfl rfl rfl Tryd.underlying22 (by decide) (fun f0 i0 => ?_)
 refine r_sub (z := (((t.length : Nat) : Int) - 1)) sv i0 rfl rfl rfl rfl (by decide) (by omega) (by omega) (by omega) (fun f0 k0 => ?_)
 refine m_index (i := (t.length) - (1)) (j := ((t.length) - (1)) * 4) sv k0 rfl rfl rfl rfl Tryd.underlying22 sz32 (by omega) (by omega) (nds_elem (t := t) (k := (t.length) - (1)) (m0.row (i := 0) rfl).2 (by omega)).some_ rfl (by decide) (fun f0 i0 => ?_)
 refine m_loadEN sv i0 rfl rfl rfl (nds_elem (t := t) (k := (t.length) - (1)) (m0.row (i := 0) rfl).2 (by omega)) Tryd.underlying32 rfl sz32 (by decide) (fun f0 k0 => ?_)
 refine m_store (i := 0) (cs' := [.int .i64 (((nth t ((t.length) - (1))).K)), .int .i64 (((nth t ((t.length) - (1))).N)), .int .i64 (((nth t ((t.length) - (1))).M)), .string ((nth t ((t.length) - (1))).S)]) se k0 m0 rfl rfl rfl rfl rfl sz32 rfl rfl rfl (fun f0 i0 c0 d0 => ?_)
 refine wpList_nil (x_then_n (j0 _ _ ?_))
 refine wp_ret ?_
 refine e_cell (i := 0) (vs := [.int .i64 (((nth t ((t.length) - (1))).K)), .int .i64 (((nth t ((t.length) - (1))).N)), .int .i64 (((nth t ((t.length) - (1))).M)), .string ((nth t ((t.length) - (1))).S)]) (.inl rfl) c0 d0 rfl rfl rfl rfl Tryd.underlying32 rfl sz32 ?_
 refine ⟨?_, d0.fr⟩
 exact congrArg Ending.returned rfl
set_option maxRecDepth 100000 in
set_option maxHeartbeats 1000000 in
theorem crule1_calls (w0 : World) (Z : Nat → Prop) (hZ : ∀ k, Z k → k < w0.heap.size) (cg : Nat) (ce : Int) (caA : Option Addr) (cac : Nat) (ca : List Nd) (cbA : Option Addr) (cbc : Nat) (cb : List Nd) (ctA : Option Addr) (ctc : Nat) (ct : List Nd) (cn : Nd) (hc : (Res.box cg 74 [.int .i64 (ce), .slice caA ca.length cac, .slice cbA cb.length cbc, .slice ctA ct.length ctc, .int .i64 (cn.K), .int .i64 (cn.N), .int .i64 (cn.M), .string cn.S]).holds w0) (hcz : ¬ Z cg) (hca : (dRow 4 caA ca.length cac (encNs ca)).φ w0 Z) (hcb : (dRow 4 cbA cb.length cbc (encNs cb)).φ w0 Z) (hct : (dRow 4 ctA ct.length ctc (encNs ct)).φ w0 Z) (hl : ct.length ≤ 1000000 := by first | assumption | omega | (simp; done) | (simp; omega)) (h0 : 0 < ct.length := by first | assumption | omega | (simp; done) | (simp; omega)) :
    Calls Tryd.prog 80 [.pointer (some ⟨cg, 0, none⟩)].toArray w0 (fun e w' => e = .returned (.bool (decide ((nth ct (ct.length - 1)).K = 29))) ∧ Fr (· = cg) w0 w' ∧ (Res.box cg 74 [.int .i64 (ce), .slice caA ca.length cac, .slice cbA cb.length cbc, .slice ctA ct.length ctc, .int .i64 (cn.K), .int .i64 (cn.N), .int .i64 (cn.M), .string cn.S]).holds w') := by
 have b0 := sM hc hcz hZ (zc hca (zc hcb (zc hct zn)))
 refine c_enter Tryd.func80 rfl Tryd.ntmps80 rfl (fun c0 d0 => ?_)
 refine wsc (fun c0 f0 => ?_)
 refine asg d0 (fun c0 i0 => ?_)
 refine wpList_nil (x_then_n (f0 _ _ ?_))
 refine wsc (fun f0 c0 => ?_)
 refine mv i0 (fun f0 d0 => ?_)
 refine r_nilCheck sv d0 rfl rfl rfl (by decide) (fun f0 i0 => ?_)
 refine m_field (j' := 3) sv i0 rfl rfl rfl Tryd.underlying74 rfl sz22 rfl rfl (by decide) (fun f0 d0 => ?_)
 refine m_load (i := 0) sv d0 b0 rfl rfl rfl rfl rfl Tryd.underlying22 rfl (by decide) (fun f0 i0 => ?_)
 have f0 := b0.nf
 refine k_call (xs := [.tmp 6]) se i0 rfl rfl rfl (by decide) ok58 (croot_calls _ _ f0.il _ _ _ (f0.g 2)) ?_
 rintro i0 b0 ⟨rfl, d0⟩
 have b0 := f0.below d0.below
 refine ⟨_, rfl, fun d0 f0 => ?_⟩
 refine m_fieldV (v := .int .i64 (((nth ct (ct.length - 1)).K))) sv f0 rfl rfl rfl (fun _ => by kernel_rfl) (by decide) (fun d0 i0 => ?_)
 refine r_eql sv i0 rfl rfl rfl rfl (by decide) (fun d0 f0 => ?_)
 refine asg f0 (fun d0 i0 => ?_)
 refine wpList_nil (x_then_n (c0 _ _ ?_))
 refine wp_ret ?_
 refine e_ret1 i0 rfl rfl rfl ?_
 refine ⟨?_, b0.fr, b0.res (i := 0) rfl⟩
 exact congrArg Ending.returned (ret_b (by rfl))
set_option maxRecDepth 100000 in
set_option maxHeartbeats 1000000 in
theorem cdo1_calls (w0 : World) (Z : Nat → Prop) (hZ : ∀ k, Z k → k < w0.heap.size) (cg : Nat) (ce : Int) (caA : Option Addr) (cac : Nat) (ca : List Nd) (cbA : Option Addr) (cbc : Nat) (cb : List Nd) (ctA : Option Addr) (ctc : Nat) (ct : List Nd) (cn : Nd) (hc : (Res.box cg 74 [.int .i64 (ce), .slice caA ca.length cac, .slice cbA cb.length cbc, .slice ctA ct.length ctc, .int .i64 (cn.K), .int .i64 (cn.N), .int .i64 (cn.M), .string cn.S]).holds w0) (hcz : ¬ Z cg) (hca : (dRow 4 caA ca.length cac (encNs ca)).φ w0 Z) (hcb : (dRow 4 cbA cb.length cbc (encNs cb)).φ w0 Z) (hct : (dRow 4 ctA ct.length ctc (encNs ct)).φ w0 Z) :
    Calls Tryd.prog 81 [.pointer (some ⟨cg, 0, none⟩)].toArray w0 (fun e w' => ∃ (rA0 : Option Addr) (rc0 : Nat) (rL0 : List Nd), e = .returned (.slice rA0 rL0.length rc0) ∧ Fr (· = cg) w0 w' ∧ (Res.box cg 74 [.int .i64 (ce), .slice caA ca.length cac, .slice cbA cb.length cbc, .slice ctA ct.length ctc, .int .i64 (cn.K), .int .i64 (cn.N), .int .i64 (cn.M), .string cn.S]).holds w' ∧ (dRow 4 rA0 rL0.length rc0 (encNs rL0)).φ w' (nxt Z w0 w') ∧ rL0 = noL ce ⟨29, 0, 0, ⟨#[]⟩⟩ []) := by
 have b0 := sM hc hcz hZ (zc hca (zc hcb (zc hct zn)))
 refine c_enter Tryd.func81 rfl Tryd.ntmps81 rfl (fun c0 d0 => ?_)
 refine wsc (fun c0 f0 => ?_)
 refine asg d0 (fun c0 h0 => ?_)
 refine wpList_nil (x_then_n (f0 _ _ ?_))
 refine wsc (fun f0 c0 => ?_)
 refine mv h0 (fun f0 d0 => ?_)
 refine r_nilCheck sv d0 rfl rfl rfl (by decide) (fun f0 h0 => ?_)
 refine m_field (j' := 0) sv h0 rfl rfl rfl Tryd.underlying74 rfl sz72 rfl rfl (by decide) (fun f0 d0 => ?_)
 have f0 := b0.nf
 refine k_call (xs := [.tmp 5]) se d0 rfl rfl rfl (by decide) ok82 (tick_calls _ _ f0.il _ _ _ _ (f0.z 0) (imm_box (i := 0) rfl)) ?_
 rintro d0 b0 ⟨h0, i0, j0, rfl, k0, m0, n0, o0⟩
 have b0 := f0.callM (i := 0) rfl k0 m0
 have m0 := f0.dM 0 b0 n0
 refine ⟨_, rfl, fun b0 n0 => ?_⟩
 refine asg n0 (fun b0 f0 => ?_)
 refine wpList_nil (x_then_n (c0 _ _ ?_))
 refine wp_ret ?_
 refine e_ret1 f0 rfl rfl rfl ?_
 refine ⟨h0, i0, j0, ?_, m0.fr, m0.res (i := 0) rfl, m0.rx 3, (by exact o0)⟩
 exact congrArg Ending.returned (ret_s (by rfl))
set_option maxRecDepth 100000 in
set_option maxHeartbeats 1000000 in
theorem ckind_calls (w0 : World) (Z : Nat → Prop) (hZ : ∀ k, Z k → k < w0.heap.size) (k : Int) (f : Nat)  :
    Calls Tryd.prog 83 [.int .i64 k, .func (.func f) #[] #[]].toArray w0 (fun e w' => ∃ q0_0 : Nat, ∃ q0_1 : Nat, e = .returned (.func (.func 117) #[] #[.pointer (some ⟨q0_0, 0, none⟩), .pointer (some ⟨q0_1, 0, none⟩)]) ∧ Fr none_ w0 w' ∧ (dBox q0_0 [.int .i64 (k)]).φ w' (nxt Z w0 w') ∧ (dBox q0_1 [.func (.func f) #[] #[]]).φ w' (nxt Z w0 w')) := by
 have b0 := s0 (M := none_) hZ zn
 refine c_enter Tryd.func83 rfl Tryd.ntmps83 rfl (fun c0 d0 => ?_)
 refine wsc (fun c0 f0 => ?_)
 refine m_box (cs := [.int .i64 (k)]) sv d0 b0 rfl rfl rfl rfl (by decide) (fun c0 h0 i0 j0 k0 => ?_)
 refine m_box (cs := [.func (.func f) #[] #[]]) sv j0 k0 rfl rfl rfl rfl (by decide) (fun h0 c0 d0 b0 m0 => ?_)
 refine asg b0 (fun c0 h0 => ?_)
 refine wpList_nil (x_then_n (f0 _ _ ?_))
 refine wsc (fun f0 c0 => ?_)
 refine r_makeFunc sv h0 rfl rfl rfl (by decide) (fun f0 b0 => ?_)
 refine asg b0 (fun f0 h0 => ?_)
 refine wpList_nil (x_then_n (c0 _ _ ?_))
 refine wp_ret ?_
 refine e_ret1 h0 rfl rfl rfl ?_
 obtain ⟨h0, c0⟩ := m0.box_data (i := 0) rfl (fun _ h => h)
 have m0 := h0.data (dBox i0 [.int .i64 (k)]) c0
 obtain ⟨c0, h0⟩ := m0.box_data (i := 0) rfl (fun _ h => h)
 have m0 := c0.data (dBox d0 [.func (.func f) #[] #[]]) h0
 refine ⟨i0, d0, ?_, m0.fr, ((m0.get (i := 0) rfl).imp imm_nxt id), ((m0.get (i := 1) rfl).imp imm_nxt id)⟩
 exact congrArg Ending.returned rfl
set_option maxRecDepth 100000 in
set_option maxHeartbeats 1000000 in
theorem crules_calls (w0 : World) (Z : Nat → Prop) (hZ : ∀ k, Z k → k < w0.heap.size)   :
    Calls Tryd.prog 59 [].toArray w0 (fun e w' => ∃ q2_0 : Nat, ∃ q2_1 : Nat, ∃ q4_0 : Nat, ∃ q4_1 : Nat, ∃ q6_0 : Nat, ∃ q6_1 : Nat, ∃ q8_0 : Nat, ∃ q8_1 : Nat, ∃ q10_0 : Nat, ∃ q10_1 : Nat, ∃ q12_0 : Nat, ∃ q12_1 : Nat, e = .returned (.agg #[.func (.func 80) #[] #[], .func (.func 81) #[] #[], .func (.func 117) #[] #[.pointer (some ⟨q2_0, 0, none⟩), .pointer (some ⟨q2_1, 0, none⟩)], .func (.func 85) #[] #[], .func (.func 117) #[] #[.pointer (some ⟨q4_0, 0, none⟩), .pointer (some ⟨q4_1, 0, none⟩)], .func (.func 85) #[] #[], .func (.func 117) #[] #[.pointer (some ⟨q6_0, 0, none⟩), .pointer (some ⟨q6_1, 0, none⟩)], .func (.func 85) #[] #[], .func (.func 117) #[] #[.pointer (some ⟨q8_0, 0, none⟩), .pointer (some ⟨q8_1, 0, none⟩)], .func (.func 87) #[] #[], .func (.func 117) #[] #[.pointer (some ⟨q10_0, 0, none⟩), .pointer (some ⟨q10_1, 0, none⟩)], .func (.func 89) #[] #[], .func (.func 117) #[] #[.pointer (some ⟨q12_0, 0, none⟩), .pointer (some ⟨q12_1, 0, none⟩)], .func (.func 91) #[] #[]]) ∧ Fr none_ w0 w' ∧ (dBox q2_0 [.int .i64 10]).φ w' (nxt Z w0 w') ∧ (dBox q2_1 [.func (.func 84) #[] #[]]).φ w' (nxt Z w0 w') ∧ (dBox q4_0 [.int .i64 2]).φ w' (nxt Z w0 w') ∧ (dBox q4_1 [.func (.func 84) #[] #[]]).φ w' (nxt Z w0 w') ∧ (dBox q6_0 [.int .i64 25]).φ w' (nxt Z w0 w') ∧ (dBox q6_1 [.func (.func 84) #[] #[]]).φ w' (nxt Z w0 w') ∧ (dBox q8_0 [.int .i64 3]).φ w' (nxt Z w0 w') ∧ (dBox q8_1 [.func (.func 86) #[] #[]]).φ w' (nxt Z w0 w') ∧ (dBox q10_0 [.int .i64 6]).φ w' (nxt Z w0 w') ∧ (dBox q10_1 [.func (.func 88) #[] #[]]).φ w' (nxt Z w0 w') ∧ (dBox q12_0 [.int .i64 22]).φ w' (nxt Z w0 w') ∧ (dBox q12_1 [.func (.func 90) #[] #[]]).φ w' (nxt Z w0 w')) := by
 have b0 := s0 (M := none_) hZ zn
 refine c_enter Tryd.func59 rfl Tryd.ntmps59 rfl (fun c0 d0 => ?_)
 refine wsc (fun c0 f0 => ?_)
 refine m_alloc (cs := [.nilFunc, .nilFunc, .nilFunc, .nilFunc, .nilFunc, .nilFunc, .nilFunc, .nilFunc, .nilFunc, .nilFunc, .nilFunc, .nilFunc, .nilFunc, .nilFunc]) sv d0 b0 rfl rfl ze79 rfl (by decide) (fun c0 h0 i0 j0 k0 => ?_)
 refine wpList_nil (x_then_n (f0 _ _ ?_))
 refine wsc (fun f0 i0 => ?_)
 refine m_build (ps := [(0, .func 80), (1, .func 81)]) (v := .agg #[.func (.func 80) #[] #[], .func (.func 81) #[] #[]]) sv j0 rfl rfl rfl (fun _ => by kernel_rfl) (by decide) (fun f0 h0 => ?_)
 have f0 := k0.nf
 refine k_call (xs := [.const (.int .i64 10), .func 84]) se h0 rfl rfl rfl (by decide) ok83 (ckind_calls _ _ f0.il 10 84) ?_
 rintro h0 k0 ⟨j0, c0, rfl, d0, b0, m0⟩
 have k0 := f0.below d0.below
 have d0 := f0.dN k0 b0
 have k0 := f0.dN d0 m0
 refine ⟨_, rfl, fun d0 m0 => ?_⟩
 refine m_build (ps := [(0, .tmp 2), (1, .func 85)]) (v := .agg #[.func (.func 117) #[] #[.pointer (some ⟨j0, 0, none⟩), .pointer (some ⟨c0, 0, none⟩)], .func (.func 85) #[] #[]]) sv m0 rfl rfl rfl (fun _ => by kernel_rfl) (by decide) (fun d0 f0 => ?_)
 have d0 := k0.nf
 refine k_call (xs := [.const (.int .i64 2), .func 84]) se f0 rfl rfl rfl (by decide) ok83 (ckind_calls _ _ d0.il 2 84) ?_
 rintro f0 k0 ⟨m0, b0, rfl, h0, n0, o0⟩
 have k0 := d0.below h0.below
 have h0 := d0.dN k0 n0
 have k0 := d0.dN h0 o0
 refine ⟨_, rfl, fun h0 o0 => ?_⟩
 refine m_build (ps := [(0, .tmp 4), (1, .func 85)]) (v := .agg #[.func (.func 117) #[] #[.pointer (some ⟨m0, 0, none⟩), .pointer (some ⟨b0, 0, none⟩)], .func (.func 85) #[] #[]]) sv o0 rfl rfl rfl (fun _ => by kernel_rfl) (by decide) (fun h0 d0 => ?_)
 have h0 := k0.nf
 refine k_call (xs := [.const (.int .i64 25), .func 84]) se d0 rfl rfl rfl (by decide) ok83 (ckind_calls _ _ h0.il 25 84) ?_
 rintro d0 k0 ⟨o0, n0, rfl, f0, p0, q0⟩
 have k0 := h0.below f0.below
 have f0 := h0.dN k0 p0
 have k0 := h0.dN f0 q0
 refine ⟨_, rfl, fun f0 q0 => ?_⟩
 refine m_build (ps := [(0, .tmp 6), (1, .func 85)]) (v := .agg #[.func (.func 117) #[] #[.pointer (some ⟨o0, 0, none⟩), .pointer (some ⟨n0, 0, none⟩)], .func (.func 85) #[] #[]]) sv q0 rfl rfl rfl (fun _ => by kernel_rfl) (by decide) (fun f0 h0 => ?_)
 have f0 := k0.nf
 refine k_call (xs := [.const (.int .i64 3), .func 86]) se h0 rfl rfl rfl (by decide) ok83 (ckind_calls _ _ f0.il 3 86) ?_
 rintro h0 k0 ⟨q0, p0, rfl, d0, t0, u0⟩
 have k0 := f0.below d0.below
 have d0 := f0.dN k0 t0
 have k0 := f0.dN d0 u0
 refine ⟨_, rfl, fun d0 u0 => ?_⟩
 refine m_build (ps := [(0, .tmp 8), (1, .func 87)]) (v := .agg #[.func (.func 117) #[] #[.pointer (some ⟨q0, 0, none⟩), .pointer (some ⟨p0, 0, none⟩)], .func (.func 87) #[] #[]]) sv u0 rfl rfl rfl (fun _ => by kernel_rfl) (by decide) (fun d0 f0 => ?_)
 have d0 := k0.nf
 refine k_call (xs := [.const (.int .i64 6), .func 88]) se f0 rfl rfl rfl (by decide) ok83 (ckind_calls _ _ d0.il 6 88) ?_
 rintro f0 k0 ⟨u0, t0, rfl, h0, v0, x0⟩
 have k0 := d0.below h0.below
 have h0 := d0.dN k0 v0
 have k0 := d0.dN h0 x0
 refine ⟨_, rfl, fun h0 x0 => ?_⟩
 refine m_build (ps := [(0, .tmp 10), (1, .func 89)]) (v := .agg #[.func (.func 117) #[] #[.pointer (some ⟨u0, 0, none⟩), .pointer (some ⟨t0, 0, none⟩)], .func (.func 89) #[] #[]]) sv x0 rfl rfl rfl (fun _ => by kernel_rfl) (by decide) (fun h0 d0 => ?_)
 have h0 := k0.nf
 refine k_call (xs := [.const (.int .i64 22), .func 90]) se d0 rfl rfl rfl (by decide) ok83 (ckind_calls _ _ h0.il 22 90) ?_
 rintro d0 k0 ⟨x0, v0, rfl, f0, y0, z0⟩
 have k0 := h0.below f0.below
 have f0 := h0.dN k0 y0
 have k0 := h0.dN f0 z0
 refine ⟨_, rfl, fun f0 z0 => ?_⟩
 refine m_build (ps := [(0, .tmp 12), (1, .func 91)]) (v := .agg #[.func (.func 117) #[] #[.pointer (some ⟨x0, 0, none⟩), .pointer (some ⟨v0, 0, none⟩)], .func (.func 91) #[] #[]]) sv z0 rfl rfl rfl (fun _ => by kernel_rfl) (by decide) (fun f0 h0 => ?_)
 refine m_build (ps := [(0, .tmp 1), (1, .tmp 3), (2, .tmp 5), (3, .tmp 7), (4, .tmp 9), (5, .tmp 11), (6, .tmp 13)]) (v := .agg #[.func (.func 80) #[] #[], .func (.func 81) #[] #[], .func (.func 117) #[] #[.pointer (some ⟨j0, 0, none⟩), .pointer (some ⟨c0, 0, none⟩)], .func (.func 85) #[] #[], .func (.func 117) #[] #[.pointer (some ⟨m0, 0, none⟩), .pointer (some ⟨b0, 0, none⟩)], .func (.func 85) #[] #[], .func (.func 117) #[] #[.pointer (some ⟨o0, 0, none⟩), .pointer (some ⟨n0, 0, none⟩)], .func (.func 85) #[] #[], .func (.func 117) #[] #[.pointer (some ⟨q0, 0, none⟩), .pointer (some ⟨p0, 0, none⟩)], .func (.func 87) #[] #[], .func (.func 117) #[] #[.pointer (some ⟨u0, 0, none⟩), .pointer (some ⟨t0, 0, none⟩)], .func (.func 89) #[] #[], .func (.func 117) #[] #[.pointer (some ⟨x0, 0, none⟩), .pointer (some ⟨v0, 0, none⟩)], .func (.func 91) #[] #[]]) sv h0 rfl rfl rfl (fun _ => by kernel_rfl) (by decide) (fun f0 z0 => ?_)
 refine m_store (i := 0) (cs' := [.func (.func 80) #[] #[], .func (.func 81) #[] #[], .func (.func 117) #[] #[.pointer (some ⟨j0, 0, none⟩), .pointer (some ⟨c0, 0, none⟩)], .func (.func 85) #[] #[], .func (.func 117) #[] #[.pointer (some ⟨m0, 0, none⟩), .pointer (some ⟨b0, 0, none⟩)], .func (.func 85) #[] #[], .func (.func 117) #[] #[.pointer (some ⟨o0, 0, none⟩), .pointer (some ⟨n0, 0, none⟩)], .func (.func 85) #[] #[], .func (.func 117) #[] #[.pointer (some ⟨q0, 0, none⟩), .pointer (some ⟨p0, 0, none⟩)], .func (.func 87) #[] #[], .func (.func 117) #[] #[.pointer (some ⟨u0, 0, none⟩), .pointer (some ⟨t0, 0, none⟩)], .func (.func 89) #[] #[], .func (.func 117) #[] #[.pointer (some ⟨x0, 0, none⟩), .pointer (some ⟨v0, 0, none⟩)], .func (.func 91) #[] #[]]) se z0 k0 rfl rfl rfl rfl rfl sz79 rfl rfl rfl (fun f0 h0 y0 d0 => ?_)
 refine wpList_nil (x_then_n (i0 _ _ ?_))
 refine wp_ret ?_
 refine e_cell (i := 0) (vs := [.func (.func 80) #[] #[], .func (.func 81) #[] #[], .func (.func 117) #[] #[.pointer (some ⟨j0, 0, none⟩), .pointer (some ⟨c0, 0, none⟩)], .func (.func 85) #[] #[], .func (.func 117) #[] #[.pointer (some ⟨m0, 0, none⟩), .pointer (some ⟨b0, 0, none⟩)], .func (.func 85) #[] #[], .func (.func 117) #[] #[.pointer (some ⟨o0, 0, none⟩), .pointer (some ⟨n0, 0, none⟩)], .func (.func 85) #[] #[], .func (.func 117) #[] #[.pointer (some ⟨q0, 0, none⟩), .pointer (some ⟨p0, 0, none⟩)], .func (.func 87) #[] #[], .func (.func 117) #[] #[.pointer (some ⟨u0, 0, none⟩), .pointer (some ⟨t0, 0, none⟩)], .func (.func 89) #[] #[], .func (.func 117) #[] #[.pointer (some ⟨x0, 0, none⟩), .pointer (some ⟨v0, 0, none⟩)], .func (.func 91) #[] #[]]) (.inl rfl) y0 d0 rfl rfl rfl rfl Tryd.underlying79 rfl sz79 ?_
 refine ⟨j0, c0, m0, b0, o0, n0, q0, p0, u0, t0, x0, v0, ?_, d0.fr, ((d0.get (i := 0) rfl).imp imm_nxt id), ((d0.get (i := 1) rfl).imp imm_nxt id), ((d0.get (i := 2) rfl).imp imm_nxt id), ((d0.get (i := 3) rfl).imp imm_nxt id), ((d0.get (i := 4) rfl).imp imm_nxt id), ((d0.get (i := 5) rfl).imp imm_nxt id), ((d0.get (i := 6) rfl).imp imm_nxt id), ((d0.get (i := 7) rfl).imp imm_nxt id), ((d0.get (i := 8) rfl).imp imm_nxt id), ((d0.get (i := 9) rfl).imp imm_nxt id), ((d0.get (i := 10) rfl).imp imm_nxt id), ((d0.get (i := 11) rfl).imp imm_nxt id)⟩
 exact congrArg Ending.returned rfl
set_option maxRecDepth 100000 in
set_option maxHeartbeats 1000000 in
theorem calways_calls (w0 : World) (Z : Nat → Prop) (hZ : ∀ k, Z k → k < w0.heap.size) (cg : Nat) (ce : Int) (caA : Option Addr) (cac : Nat) (ca : List Nd) (cbA : Option Addr) (cbc : Nat) (cb : List Nd) (ctA : Option Addr) (ctc : Nat) (ct : List Nd) (cn : Nd) (hc : (Res.box cg 74 [.int .i64 (ce), .slice caA ca.length cac, .slice cbA cb.length cbc, .slice ctA ct.length ctc, .int .i64 (cn.K), .int .i64 (cn.N), .int .i64 (cn.M), .string cn.S]).holds w0) (hcz : ¬ Z cg) (hca : (dRow 4 caA ca.length cac (encNs ca)).φ w0 Z) (hcb : (dRow 4 cbA cb.length cbc (encNs cb)).φ w0 Z) (hct : (dRow 4 ctA ct.length ctc (encNs ct)).φ w0 Z) :
    Calls Tryd.prog 84 [.pointer (some ⟨cg, 0, none⟩)].toArray w0 (fun e w' => e = .returned (.bool (true)) ∧ Fr (· = cg) w0 w' ∧ (Res.box cg 74 [.int .i64 (ce), .slice caA ca.length cac, .slice cbA cb.length cbc, .slice ctA ct.length ctc, .int .i64 (cn.K), .int .i64 (cn.N), .int .i64 (cn.M), .string cn.S]).holds w') := by
 have b0 := sM hc hcz hZ (zc hca (zc hcb (zc hct zn)))
 refine c_enter Tryd.func84 rfl Tryd.ntmps84 rfl (fun c0 d0 => ?_)
 refine wsc (fun c0 f0 => ?_)
 refine asg d0 (fun c0 h0 => ?_)
 refine wpList_nil (x_then_n (f0 _ _ ?_))
 refine wsc (fun f0 c0 => ?_)
 refine asg h0 (fun f0 d0 => ?_)
 refine wpList_nil (x_then_n (c0 _ _ ?_))
 refine wp_ret ?_
 refine e_ret1 d0 rfl rfl rfl ?_
 refine ⟨?_, b0.fr, b0.res (i := 0) rfl⟩
 exact congrArg Ending.returned (ret_b (by rfl))
set_option maxRecDepth 100000 in
set_option maxHeartbeats 1000000 in
theorem ckind84_calls (w0 : World) (Z : Nat → Prop) (hZ : ∀ k, Z k → k < w0.heap.size) (cg : Nat) (ce : Int) (caA : Option Addr) (cac : Nat) (ca : List Nd) (cbA : Option Addr) (cbc : Nat) (cb : List Nd) (ctA : Option Addr) (ctc : Nat) (ct : List Nd) (cn : Nd) (kg : Nat) (k : Int) (fg : Nat)  (hc : (Res.box cg 74 [.int .i64 (ce), .slice caA ca.length cac, .slice cbA cb.length cbc, .slice ctA ct.length ctc, .int .i64 (cn.K), .int .i64 (cn.N), .int .i64 (cn.M), .string cn.S]).holds w0) (hcz : ¬ Z cg) (hca : (dRow 4 caA ca.length cac (encNs ca)).φ w0 Z) (hcb : (dRow 4 cbA cb.length cbc (encNs cb)).φ w0 Z) (hct : (dRow 4 ctA ct.length ctc (encNs ct)).φ w0 Z) (hk : (dBox kg [.int .i64 (k)]).φ w0 Z) (hf : (dBox fg [.func (.func 84) #[] #[]]).φ w0 Z) (hla : ca.length ≤ 1000000 := by first | assumption | omega | (simp; done) | (simp; omega)) (hlb : cb.length ≤ 1000000 := by first | assumption | omega | (simp; done) | (simp; omega)) (hlt : ct.length ≤ 1000000 := by first | assumption | omega | (simp; done) | (simp; omega)) (h0a : 0 < ca.length := by first | assumption | omega | (simp; done) | (simp; omega)) (h0b : 0 < cb.length := by first | assumption | omega | (simp; done) | (simp; omega)) (h0t : 0 < ct.length := by first | assumption | omega | (simp; done) | (simp; omega)) :
    Calls Tryd.prog 117 [.pointer (some ⟨cg, 0, none⟩), .pointer (some ⟨kg, 0, none⟩), .pointer (some ⟨fg, 0, none⟩)].toArray w0 (fun e w' => e = .returned (.bool ((decide (cn.K = k) && decide (nth cb (cb.length - 1) = cn)) && true)) ∧ Fr (· = cg) w0 w' ∧ (Res.box cg 74 [.int .i64 (ce), .slice caA ca.length cac, .slice cbA cb.length cbc, .slice ctA ct.length ctc, .int .i64 (cn.K), .int .i64 (cn.N), .int .i64 (cn.M), .string cn.S]).holds w') := by
 have b0 := sM hc hcz hZ (zc hca (zc hcb (zc hct (zc hk (zc hf zn)))))
 refine c_enter Tryd.func117 rfl Tryd.ntmps117 rfl (fun c0 d0 => ?_)
 refine wsc (fun c0 f0 => ?_)
 refine asg d0 (fun c0 h0 => ?_)
 refine wpList_nil (x_then_n (f0 _ _ ?_))
 refine wp_seq_k (fun f0 c0 => ?_)
 obtain ⟨f0, d0, i0⟩ := b0.agree
 refine d_reg3 (n := 25) i0 5 (pB 0 0 pn) (pan_then pan_body) (fun f0 b0 j0 k0 m0 n0 => ?_)
 refine dtM 0 b0 h0 n0 (fun k0 f0 => ?_)
 refine dtN 1 b0 f0 n0 (fun k0 h0 => ?_)
 refine dtF 2 4 b0 h0 n0 Tryd.underlying74 sz32 (fun k0 f0 => ?_)
 refine dtF 3 4 b0 f0 n0 Tryd.underlying32 sz3 (fun k0 h0 => ?_)
 refine dtC 4 4 b0 h0 n0 Tryd.underlying3 (fun k0 f0 => ?_)
 refine dt 5 rfl b0 f0 (want_n rfl) (fun x hx => m_loadC (sy f0) f0 rfl rfl rfl (dbox_cell (sdat (d0 3 _ rfl) hx.ag) rfl) Tryd.underlying3 rfl (by decide) gt) n0 (fun k0 h0 => ?_)
 refine dt 6 rfl b0 h0 (want_n rfl) (fun x hx => r_eql (sy h0) h0 rfl rfl rfl rfl (by decide) gt) n0 (fun k0 f0 => ?_)
 refine dtM 7 b0 f0 n0 (fun k0 h0 => ?_)
 rcases Decidable.em ((cn.K) = (k)) with k0 | k0
 ·
  have f0 := h0.setb (d := 12) (b := true) rfl (decide_eq_true k0)
  refine dtM 8 b0 f0 n0 (fun i0 o0 => ?_) (hw := wt f0)
  refine dtN 9 b0 o0 n0 (fun i0 f0 => ?_) (hw := wt o0)
  refine dtF 10 2 b0 f0 n0 Tryd.underlying74 sz22 (fun i0 o0 => ?_) (hw := wt f0)
  refine dtC 11 2 b0 o0 n0 Tryd.underlying22 (fun i0 f0 => ?_) (hw := wt o0)
  refine dtM 13 b0 f0 n0 (fun i0 o0 => ?_) (hw := wt f0)
  refine dtN 14 b0 o0 n0 (fun i0 f0 => ?_) (hw := wt o0)
  refine dtF 15 4 b0 f0 n0 Tryd.underlying74 sz32 (fun i0 o0 => ?_) (hw := wt f0)
  refine dt 16 rfl b0 o0 (wt o0) (fun x hx => m_loadCN (sy o0) o0 rfl rfl rfl (CellsAt.cons_ (hx.c 4) (CellsAt.cons_ (hx.c 5) (CellsAt.cons_ (hx.c 6) (CellsAt.cons_ (hx.c 7) (CellsAt.nil _ _))))) Tryd.underlying32 rfl sz32 (by decide) gt) n0 (fun i0 f0 => ?_)
  refine d1 12 ?_
  have i0 := m0.nf
  refine k_call (xs := [.tmp 16]) (st_op rfl (wt f0)) f0 rfl rfl rfl (by decide) ok58 (croot_calls _ _ i0.il _ _ _ (i0.g 1)) ?_
  rintro f0 o0 ⟨rfl, p0⟩
  have o0 := i0.below p0.below
  refine ⟨_, rfl, fun p0 i0 => ?_⟩
  have p0 := sWI o0 5 (pB 0 0 pn)
  refine ⟨p0, ?_⟩
  refine dt 17 rfl b0 i0 (wt i0) (fun x hx => r_eqlN (m := (nth cb (cb.length - 1))) (n := cn) (sy i0) i0 rfl rfl rfl rfl (by decide) gt) p0 (fun f0 q0 => ?_)
  refine dt 18 rfl b0 q0 (want_n rfl) (fun x hx => r_pick_t (sy q0) q0 rfl rfl rfl rfl (by decide) gt) p0 (fun f0 i0 => ?_)
  refine dtM 19 b0 i0 p0 (fun f0 q0 => ?_)
  rcases Decidable.em ((nth cb (cb.length - 1)) = cn) with f0 | f0
  ·
   have i0 := q0.setb (d := 24) (b := true) rfl (decide_eq_true f0)
   refine dt 20 rfl b0 i0 (wt i0) (fun x hx => m_loadC (sy i0) i0 rfl rfl rfl (dbox_cell (sdat (d0 4 _ rfl) hx.ag) rfl) Tryd.underlying75 rfl (by decide) gt) p0 (fun s0 t0 => ?_)
   refine dtM 21 b0 t0 p0 (fun s0 i0 => ?_) (hw := wt t0)
   refine d1 22 ?_
   have s0 := o0.nf
   refine k_callV (xs := [.tmp 26]) (st_op rfl (wt i0)) i0 rfl rfl rfl rfl (by decide) ok84 (calways_calls _ _ s0.il _ _ _ _ _ _ _ _ _ _ _ cn (s0.z 0) (imm_box (i := 0) rfl) (s0.g 0) (s0.g 1) (s0.g 2)) ?_
   rintro i0 t0 ⟨rfl, d0, u0⟩
   have t0 := s0.callM (i := 0) rfl d0 u0
   refine ⟨_, rfl, fun u0 d0 => ?_⟩
   have u0 := sWI t0 5 (pB 0 0 pn)
   refine ⟨u0, ?_⟩
   refine dt 23 rfl b0 d0 (want_n rfl) (fun x hx => r_pick_t (sy d0) d0 rfl rfl rfl rfl (by decide) gt) u0 (fun s0 i0 => ?_)
   refine dtA 24 b0 i0 u0 (fun s0 d0 => ?_)
   refine wpAnyH_done (by kernel_rfl) (j0 _ _ ?_) _
   refine x_then_n (c0 _ _ ?_)
   refine wp_ret ?_
   refine e_ret1 d0 rfl rfl rfl ?_
   refine ⟨?_, t0.fr, t0.res (i := 0) rfl⟩
   exact congrArg Ending.returned (ret_b (by (simp [k0, f0]; done)))
  ·
   have t0 := q0.setb (d := 24) (b := false) rfl (decide_eq_false f0)
   refine dp 20 rfl b0 t0 (wff t0) p0 (fun q0 d0 => ?_)
   refine dp 21 rfl b0 d0 (wff d0) p0 (fun q0 t0 => ?_)
   refine dp 22 rfl b0 t0 (wff t0) p0 (fun q0 d0 => ?_)
   refine dtQ 23 b0 d0 p0 (fun q0 t0 => ?_)
   refine dtA 24 b0 t0 p0 (fun q0 d0 => ?_)
   refine wpAnyH_done (by kernel_rfl) (j0 _ _ ?_) _
   refine x_then_n (c0 _ _ ?_)
   refine wp_ret ?_
   refine e_ret1 d0 rfl rfl rfl ?_
   refine ⟨?_, o0.fr, o0.res (i := 0) rfl⟩
   exact congrArg Ending.returned (ret_b (by (simp [k0, f0]; done)))
 ·
  have f0 := h0.setb (d := 12) (b := false) rfl (decide_eq_false k0)
  refine dp 8 rfl b0 f0 (wff f0) n0 (fun h0 o0 => ?_)
  refine dp 9 rfl b0 o0 (wff o0) n0 (fun h0 f0 => ?_)
  refine dp 10 rfl b0 f0 (wff f0) n0 (fun h0 o0 => ?_)
  refine dp 11 rfl b0 o0 (wff o0) n0 (fun h0 f0 => ?_)
  refine dp 12 rfl b0 f0 (wff f0) n0 (fun h0 o0 => ?_)
  refine dp 13 rfl b0 o0 (wff o0) n0 (fun h0 f0 => ?_)
  refine dp 14 rfl b0 f0 (wff f0) n0 (fun h0 o0 => ?_)
  refine dp 15 rfl b0 o0 (wff o0) n0 (fun h0 f0 => ?_)
  refine dp 16 rfl b0 f0 (wff f0) n0 (fun h0 o0 => ?_)
  refine dp 17 rfl b0 o0 (wff o0) n0 (fun h0 f0 => ?_)
  refine dtQ 18 b0 f0 n0 (fun h0 o0 => ?_)
  refine dtM 19 b0 o0 n0 (fun h0 f0 => ?_)
  refine dp 20 rfl b0 f0 (wff f0) n0 (fun h0 o0 => ?_)
  refine dp 21 rfl b0 o0 (wff o0) n0 (fun h0 f0 => ?_)
  refine dp 22 rfl b0 f0 (wff f0) n0 (fun h0 o0 => ?_)
  refine dtQ 23 b0 o0 n0 (fun h0 f0 => ?_)
  refine dtA 24 b0 f0 n0 (fun h0 o0 => ?_)
  refine wpAnyH_done (by kernel_rfl) (j0 _ _ ?_) _
  refine x_then_n (c0 _ _ ?_)
  refine wp_ret ?_
  refine e_ret1 o0 rfl rfl rfl ?_
  refine ⟨?_, m0.fr, m0.res (i := 0) rfl⟩
  exact congrArg Ending.returned (ret_b (by (simp [k0]; done)))
set_option maxRecDepth 100000 in
set_option maxHeartbeats 1000000 in
theorem citself_calls (w0 : World) (Z : Nat → Prop) (hZ : ∀ k, Z k → k < w0.heap.size) (cg : Nat) (ce : Int) (caA : Option Addr) (cac : Nat) (ca : List Nd) (cbA : Option Addr) (cbc : Nat) (cb : List Nd) (ctA : Option Addr) (ctc : Nat) (ct : List Nd) (cn : Nd) (hc : (Res.box cg 74 [.int .i64 (ce), .slice caA ca.length cac, .slice cbA cb.length cbc, .slice ctA ct.length ctc, .int .i64 (cn.K), .int .i64 (cn.N), .int .i64 (cn.M), .string cn.S]).holds w0) (hcz : ¬ Z cg) (hca : (dRow 4 caA ca.length cac (encNs ca)).φ w0 Z) (hcb : (dRow 4 cbA cb.length cbc (encNs cb)).φ w0 Z) (hct : (dRow 4 ctA ct.length ctc (encNs ct)).φ w0 Z) :
    Calls Tryd.prog 85 [.pointer (some ⟨cg, 0, none⟩)].toArray w0 (fun e w' => ∃ (rA0 : Option Addr) (rc0 : Nat), e = .returned (.slice rA0 (ct).length rc0) ∧ Fr (· = cg) w0 w' ∧ (Res.box cg 74 [.int .i64 (ce), .slice caA ca.length cac, .slice cbA cb.length cbc, .slice ctA ct.length ctc, .int .i64 (cn.K), .int .i64 (cn.N), .int .i64 (cn.M), .string cn.S]).holds w' ∧ (dRow 4 rA0 ((ct).length) rc0 (encNs ct)).φ w' (nxt Z w0 w')) := by
 have b0 := sM hc hcz hZ (zc hca (zc hcb (zc hct zn)))
 refine c_enter Tryd.func85 rfl Tryd.ntmps85 rfl (fun c0 d0 => ?_)
 refine wsc (fun c0 f0 => ?_)
 refine asg d0 (fun c0 h0 => ?_)
 refine wpList_nil (x_then_n (f0 _ _ ?_))
 refine wsc (fun f0 c0 => ?_)
 refine mv h0 (fun f0 d0 => ?_)
 refine r_nilCheck sv d0 rfl rfl rfl (by decide) (fun f0 h0 => ?_)
 refine m_field (j' := 3) sv h0 rfl rfl rfl Tryd.underlying74 rfl sz22 rfl rfl (by decide) (fun f0 d0 => ?_)
 refine m_load (i := 0) sv d0 b0 rfl rfl rfl rfl rfl Tryd.underlying22 rfl (by decide) (fun f0 h0 => ?_)
 refine asg h0 (fun f0 d0 => ?_)
 refine wpList_nil (x_then_n (c0 _ _ ?_))
 refine wp_ret ?_
 refine e_ret1 d0 rfl rfl rfl ?_
 refine ⟨ctA, ctc, ?_, b0.fr, b0.res (i := 0) rfl, b0.rx 2⟩
 exact congrArg Ending.returned rfl
end Go.Proofs.YtobgdeffhdefeaaDoor
/- Contracts of functions, one theorem each: what the call returns, and that nothing old is changed. Printed by gen.py. -/
namespace Go.Proofs.YtobgdeffhdefeaaDoor
open Go Go.RowKit
set_option linter.unusedSimpArgs false
set_option linter.unusedVariables false
set_option maxRecDepth 100000 in
set_option maxHeartbeats 1000000 in
theorem cpi_calls (w0 : World) (Z : Nat → Prop) (hZ : ∀ k, Z k → k < w0.heap.size) (cg : Nat) (ce : Int) (caA : Option Addr) (cac : Nat) (ca : List Nd) (cbA : Option Addr) (cbc : Nat) (cb : List Nd) (ctA : Option Addr) (ctc : Nat) (ct : List Nd) (cn : Nd) (hShp : Shapes w0 Z) (hc : (Res.box cg 74 [.int .i64 (ce), .slice caA ca.length cac, .slice cbA cb.length cbc, .slice ctA ct.length ctc, .int .i64 (cn.K), .int .i64 (cn.N), .int .i64 (cn.M), .string cn.S]).holds w0) (hcz : ¬ Z cg) (hca : (dRow 4 caA ca.length cac (encNs ca)).φ w0 Z) (hcb : (dRow 4 cbA cb.length cbc (encNs cb)).φ w0 Z) (hct : (dRow 4 ctA ct.length ctc (encNs ct)).φ w0 Z) (hsa : sml ca := by first | assumption | omega | (simp; done) | (simp; omega)) (hsb : sml cb := by first | assumption | omega | (simp; done) | (simp; omega)) (hst : sml ct := by first | assumption | omega | (simp; done) | (simp; omega)) (hla : ca.length ≤ 5000 := by first | assumption | omega | (simp; done) | (simp; omega)) (hlb : cb.length ≤ 5000 := by first | assumption | omega | (simp; done) | (simp; omega)) (hlt : ct.length ≤ 5000 := by first | assumption | omega | (simp; done) | (simp; omega)) (hka : chk ca = 0 := by first | assumption | omega | (simp; done) | (simp; omega)) (hkb : chk cb = 0 := by first | assumption | omega | (simp; done) | (simp; omega)) (hkt : chk ct = 0 := by first | assumption | omega | (simp; done) | (simp; omega)) (hna : nth ca (ca.length - 1) = cn := by first | assumption | omega | (simp; done) | (simp; omega)) (hnb : nth cb (cb.length - 1) = cn := by first | assumption | omega | (simp; done) | (simp; omega)) (hk : cn.K = 3 := by first | assumption | omega | (simp; done) | (simp; omega)) (h0 : 0 ≤ cn.N := by first | assumption | omega | (simp; done) | (simp; omega)) (h4 : cn.N < 4 := by first | assumption | omega | (simp; done) | (simp; omega)) :
    Calls Tryd.prog 87 [.pointer (some ⟨cg, 0, none⟩)].toArray w0 (fun e w' => ∃ (rA0 : Option Addr) (rc0 : Nat) (rL0 : List Nd), e = .returned (.slice rA0 rL0.length rc0) ∧ Fr (· = cg) w0 w' ∧ (Res.box cg 74 [.int .i64 ((piE5 ce (agA ca) (agA cb) ct cn.N)), .slice caA ca.length cac, .slice cbA cb.length cbc, .slice ctA ct.length ctc, .int .i64 (cn.K), .int .i64 (cn.N), .int .i64 (cn.M), .string cn.S]).holds w' ∧ (dRow 4 rA0 rL0.length rc0 (encNs rL0)).φ w' (nxt Z w0 w') ∧ rL0 = piL ce (agA ca) (agA cb) ct cn.N) := by
 have b0 := sM hc hcz hZ (zc (d := dShapes) hShp (zc hca (zc hcb (zc hct zn))))
 have hma : many (nth ca (ca.length - 1)) = 2 := by rw [hna]; exact many_3 hk
 have hmb : many (nth cb (cb.length - 1)) = 2 := by rw [hnb]; exact many_3 hk
 refine c_enter Tryd.func87 rfl Tryd.ntmps87 rfl (fun c0 d0 => ?_)
 refine wsc (fun c0 f0 => ?_)
 refine asg d0 (fun c0 i0 => ?_)
 refine wpList_nil (x_then_n (f0 _ _ ?_))
 refine wp_seq_k (fun f0 c0 => ?_)
 obtain ⟨f0, d0, j0⟩ := b0.agree
 refine d_reg3 (n := 18) j0 4 (pB 0 1 pn) (pan_then pan_body) (fun d0 f0 b0 k0 m0 n0 => ?_)
 refine dtM 0 f0 i0 n0 (fun k0 d0 => ?_)
 refine dtN 1 f0 d0 n0 (fun k0 i0 => ?_)
 refine dtF 2 0 f0 i0 n0 Tryd.underlying74 sz72 (fun k0 d0 => ?_)
 refine dtM 3 f0 d0 n0 (fun k0 i0 => ?_)
 refine dtN 4 f0 i0 n0 (fun k0 d0 => ?_)
 refine dtF 5 1 f0 d0 n0 Tryd.underlying74 sz22 (fun k0 i0 => ?_)
 refine dtC 6 0 f0 i0 n0 Tryd.underlying22 (fun k0 d0 => ?_)
 refine dtM 8 f0 d0 n0 (fun k0 i0 => ?_)
 refine dtN 9 f0 i0 n0 (fun k0 d0 => ?_)
 refine dtF 10 0 f0 d0 n0 Tryd.underlying74 sz72 (fun k0 i0 => ?_)
 refine dtM 11 f0 i0 n0 (fun k0 d0 => ?_)
 refine dtN 12 f0 d0 n0 (fun k0 i0 => ?_)
 refine dtF 13 2 f0 i0 n0 Tryd.underlying74 sz22 (fun k0 d0 => ?_)
 refine dtC 14 1 f0 d0 n0 Tryd.underlying22 (fun k0 i0 => ?_)
 refine d1 7 ?_
 have k0 := m0.nf
 refine k_call (xs := [.tmp 9, .tmp 13]) (st_op rfl (want_n rfl)) i0 rfl rfl rfl (by decide) ok92 (parts_calls _ _ k0.il _ _ _ _ _ _ _ (k0.g 0) (k0.z 0) (imm_box (i := 0) rfl) (k0.g 1)) ?_
 rintro i0 m0 ⟨d0, n0, j0, rfl, o0, p0, q0, s0, t0⟩
 have n0 := k0.callM (i := 0) rfl o0 p0
 have p0 := k0.dM 0 n0 q0
 have n0 := k0.dM 0 p0 s0
 refine ⟨_, rfl, fun p0 s0 => ?_⟩
 obtain ⟨p0, k0, q0, o0⟩ := agA_at hka hsa t0 (k := 0) (by omega)
 obtain ⟨o0, q0, k0, p0⟩ := agA_at hka hsa t0 (k := 1) (by omega)
 have p0 := sWI n0 4 (pB 0 1 pn)
 refine ⟨p0, ?_⟩
 refine d1 15 ?_
 have p0 := n0.nf
 refine k_call (xs := [.tmp 17, .tmp 21]) (st_op rfl (want_n rfl)) s0 rfl rfl rfl (by decide) ok92 (parts_calls _ _ p0.il _ _ _ _ _ _ _ (p0.g 0) (p0.z 0) (imm_box (i := 0) rfl) (p0.g 2)) ?_
 rintro s0 n0 ⟨k0, q0, o0, rfl, t0, d0, m0, i0, u0⟩
 have q0 := p0.callM (i := 0) rfl t0 d0
 have d0 := p0.dM 0 q0 m0
 have q0 := p0.dM 0 d0 i0
 refine ⟨_, rfl, fun d0 i0 => ?_⟩
 obtain ⟨d0, p0, m0, t0⟩ := agA_at hkb hsb u0 (k := 0) (by omega)
 obtain ⟨t0, m0, p0, d0⟩ := agA_at hkb hsb u0 (k := 1) (by omega)
 have d0 := sWI q0 4 (pB 0 1 pn)
 refine ⟨d0, ?_⟩
 refine dtA 16 f0 i0 d0 (fun p0 m0 => ?_)
 refine dtA 17 f0 m0 d0 (fun p0 i0 => ?_)
 refine wpAnyH_done (by kernel_rfl) (b0 _ _ ?_) _
 refine x_then_n (c0 _ _ ?_)
 refine wp_seq_k (fun c0 b0 => ?_)
 obtain ⟨c0, p0, m0⟩ := q0.agree
 refine d_reg3 (n := 32) m0 9 (pB 0 1 pn) (pan_then pan_body) (fun c0 q0 d0 f0 t0 u0 => ?_)
 refine dtM 0 q0 i0 u0 (fun f0 c0 => ?_)
 refine dtN 1 q0 c0 u0 (fun f0 i0 => ?_)
 refine dtF 2 0 q0 i0 u0 Tryd.underlying74 sz72 (fun f0 c0 => ?_)
 refine dtM 3 q0 c0 u0 (fun f0 i0 => ?_)
 refine dtN 4 q0 i0 u0 (fun f0 c0 => ?_)
 refine dtF 5 4 q0 c0 u0 Tryd.underlying74 sz32 (fun f0 i0 => ?_)
 refine dtF 6 5 q0 i0 u0 Tryd.underlying32 sz3 (fun f0 c0 => ?_)
 refine dtC 7 4 q0 c0 u0 Tryd.underlying3 (fun f0 i0 => ?_)
 refine dtM 8 q0 i0 u0 (fun f0 c0 => ?_)
 refine dtN 9 q0 c0 u0 (fun f0 i0 => ?_)
 refine dtF 10 0 q0 i0 u0 Tryd.underlying74 sz72 (fun f0 c0 => ?_)
 refine dtM 11 q0 c0 u0 (fun f0 i0 => ?_)
 refine dtN 12 q0 i0 u0 (fun f0 c0 => ?_)
 refine dtF 13 0 q0 c0 u0 Tryd.underlying74 sz72 (fun f0 i0 => ?_)
 refine dtM 14 q0 i0 u0 (fun f0 c0 => ?_)
 refine dt 15 rfl q0 c0 (want_n rfl) (fun x hx => m_index (i := 0) (j := 0 * 1) (sy c0) c0 rfl rfl rfl rfl Tryd.underlying39 sz22 (by omega) (by omega) (ss_elem (t := o0) (k := 0) (sdat (p0 7 _ rfl) hx.ag).2 (by omega)).some_ rfl (by decide) gt) u0 (fun f0 i0 => ?_)
 refine dt 16 rfl q0 i0 (want_n rfl) (fun x hx => m_loadE (sy i0) i0 rfl rfl rfl 0 (0 * 1) (ss_elem (t := o0) (k := 0) (sdat (p0 7 _ rfl) hx.ag).2 (by omega)) rfl rfl Tryd.underlying22 rfl (by decide) gt) u0 (fun f0 c0 => ?_)
 have f0 := t0.data (dRow 4 ((nthS o0 0).1) ((nthS o0 0).2.2.length) ((nthS o0 0).2.1) (encNs ((nthS o0 0).2.2))) (all_at (t := o0) (k := 0) (t0.get (i := 8) rfl) (by omega))
 refine dtM 18 q0 c0 u0 (fun t0 i0 => ?_)
 refine dtN 19 q0 i0 u0 (fun t0 c0 => ?_)
 refine dtF 20 0 q0 c0 u0 Tryd.underlying74 sz72 (fun t0 i0 => ?_)
 refine dtM 21 q0 i0 u0 (fun t0 c0 => ?_)
 refine dt 22 rfl q0 c0 (want_n rfl) (fun x hx => m_index (i := 0) (j := 0 * 1) (sy c0) c0 rfl rfl rfl rfl Tryd.underlying39 sz22 (by omega) (by omega) (ss_elem (t := j0) (k := 0) (sdat (p0 5 _ rfl) hx.ag).2 (by omega)).some_ rfl (by decide) gt) u0 (fun t0 i0 => ?_)
 refine dt 23 rfl q0 i0 (want_n rfl) (fun x hx => m_loadE (sy i0) i0 rfl rfl rfl 0 (0 * 1) (ss_elem (t := j0) (k := 0) (sdat (p0 5 _ rfl) hx.ag).2 (by omega)) rfl rfl Tryd.underlying22 rfl (by decide) gt) u0 (fun t0 c0 => ?_)
 have t0 := f0.data (dRow 4 ((nthS j0 0).1) ((nthS j0 0).2.2.length) ((nthS j0 0).2.1) (encNs ((nthS j0 0).2.2))) (all_at (t := j0) (k := 0) (f0.get (i := 6) rfl) (by omega))
 refine dtM 25 q0 c0 u0 (fun f0 i0 => ?_)
 refine dtN 26 q0 i0 u0 (fun f0 c0 => ?_)
 refine dtF 27 0 q0 c0 u0 Tryd.underlying74 sz72 (fun f0 i0 => ?_)
 refine d1 17 ?_
 have f0 := t0.nf
 refine k_call (xs := [.tmp 36, .tmp 39, .const (.int .i64 1), .const (.int .i64 0)]) (st_op rfl (want_n rfl)) i0 rfl rfl rfl (by decide) ok119 (up_calls _ _ f0.il _ _ _ _ _ _ ((nthS o0 0).2.2) 1 0 (f0.g 0) (f0.z 0) (imm_box (i := 0) rfl) (f0.g 10)) ?_
 rintro i0 t0 ⟨c0, u0, p0, rfl, m0, k0, n0, s0⟩
 have p0 := f0.callM (i := 0) rfl m0 k0
 have k0 := f0.dM 0 p0 n0
 refine ⟨_, rfl, fun p0 n0 => ?_⟩
 obtain ⟨p0, f0⟩ := upZ s0 (by assumption)
 have f0 := sWI k0 9 (pB 0 1 pn)
 refine ⟨f0, ?_⟩
 refine d1 24 ?_
 have f0 := k0.nf
 refine k_call (xs := [.tmp 43, .tmp 46, .const (.int .i64 1), .const (.int .i64 0)]) (st_op rfl (want_n rfl)) n0 rfl rfl rfl (by decide) ok119 (up_calls _ _ f0.il _ _ _ _ _ _ ((nthS j0 0).2.2) 1 0 (f0.g 0) (f0.z 0) (imm_box (i := 0) rfl) (f0.g 11)) ?_
 rintro n0 k0 ⟨p0, s0, m0, rfl, u0, c0, t0, i0⟩
 have m0 := f0.callM (i := 0) rfl u0 c0
 have c0 := f0.dM 0 m0 t0
 refine ⟨_, rfl, fun m0 t0 => ?_⟩
 obtain ⟨m0, f0⟩ := upZ i0 (by assumption)
 have f0 := sWI c0 9 (pB 0 1 pn)
 refine ⟨f0, ?_⟩
 refine d1 28 ?_
 have f0 := c0.nf
 refine k_call (xs := [.tmp 50, .const (.int .i64 0)]) (st_op rfl (want_n rfl)) t0 rfl rfl rfl (by decide) ok120 (var_calls _ _ f0.il _ _ _ _ 0 (f0.z 0) (imm_box (i := 0) rfl)) ?_
 rintro t0 c0 ⟨m0, i0, u0, rfl, s0, p0, k0, n0⟩
 have u0 := f0.callM (i := 0) rfl s0 p0
 have p0 := f0.dM 0 u0 k0
 refine ⟨_, rfl, fun u0 k0 => ?_⟩
 obtain ⟨u0, f0⟩ := noZ0 n0 (by decide)
 have f0 := sWI p0 9 (pB 0 1 pn)
 refine ⟨f0, ?_⟩
 refine d1 29 ?_
 have f0 := p0.nf
 refine k_call (xs := [.tmp 33, .tmp 40, .tmp 47, .tmp 51]) (st_op rfl (want_n rfl)) k0 rfl rfl rfl (by decide) ok94 (cast_calls _ _ f0.il _ _ _ _ _ _ _ _ _ _ _ _ _ (f0.z 0) (imm_box (i := 0) rfl) (f0.g 12) (f0.g 13) (f0.g 14)) ?_
 rintro k0 p0 ⟨u0, n0, s0, rfl, i0, m0, c0, t0⟩
 have s0 := f0.callM (i := 0) rfl i0 m0
 have m0 := f0.dM 0 s0 c0
 refine ⟨_, rfl, fun s0 c0 => ?_⟩
 obtain ⟨s0, f0⟩ := caZ t0 (by assumption) (by assumption) (by assumption)
 have f0 := sWI m0 9 (pB 0 1 pn)
 refine ⟨f0, ?_⟩
 refine d1 30 ?_
 have f0 := m0.nf
 refine k_call (xs := [.tmp 25, .tmp 30, .tmp 52]) (st_op rfl (want_n rfl)) c0 rfl rfl rfl (by decide) ok118 (place_calls _ _ f0.il _ _ _ _ (cn.N) _ _ _ (f0.z 0) (imm_box (i := 0) rfl) (f0.g 15)) ?_
 rintro c0 m0 ⟨s0, t0, i0, rfl, n0, u0, p0, k0⟩
 have m0 := f0.callM (i := 0) rfl n0 u0
 have u0 := f0.dM 0 m0 p0
 refine ⟨_, rfl, fun m0 p0 => ?_⟩
 obtain ⟨m0, f0⟩ := plZ k0 (by assumption)
 have f0 := sWI u0 9 (pB 0 1 pn)
 refine ⟨f0, ?_⟩
 refine dtA 31 q0 p0 f0 (fun m0 k0 => ?_)
 refine wpAnyH_done (by kernel_rfl) (d0 _ _ ?_) _
 refine x_then_n (b0 _ _ ?_)
 refine wp_seq_k (fun b0 d0 => ?_)
 obtain ⟨b0, m0, f0⟩ := u0.agree
 refine d_reg3 (n := 16) f0 17 (pB 0 1 pn) (pan_then pan_body) (fun m0 b0 u0 p0 q0 n0 => ?_)
 refine dtM 0 b0 k0 n0 (fun p0 m0 => ?_)
 refine dtN 1 b0 m0 n0 (fun p0 k0 => ?_)
 refine dtF 2 0 b0 k0 n0 Tryd.underlying74 sz72 (fun p0 m0 => ?_)
 refine dt 3 rfl b0 m0 (want_n rfl) (fun x hx => m_build (ps := [(0, .const (.int .i64 5))]) (v := .agg #[.int .i64 5, .int .i64 0, .int .i64 0, .string (⟨#[]⟩ : ByteArray)]) (sy m0) m0 rfl rfl rfl (fun _ => by kernel_rfl) (by decide) gt) n0 (fun p0 k0 => ?_)
 refine dtM 4 b0 k0 n0 (fun p0 m0 => ?_)
 refine dtN 5 b0 m0 n0 (fun p0 k0 => ?_)
 refine dtF 6 0 b0 k0 n0 Tryd.underlying74 sz72 (fun p0 m0 => ?_)
 refine dtM 7 b0 m0 n0 (fun p0 k0 => ?_)
 refine dtN 8 b0 k0 n0 (fun p0 m0 => ?_)
 refine dtF 9 3 b0 m0 n0 Tryd.underlying74 sz22 (fun p0 k0 => ?_)
 refine dtC 10 2 b0 k0 n0 Tryd.underlying22 (fun p0 m0 => ?_)
 refine dtM 12 b0 m0 n0 (fun p0 k0 => ?_)
 refine d1 11 ?_
 have p0 := q0.nf
 refine k_call (xs := [.tmp 60, .tmp 64, .const (.int .i64 1), .const (.int .i64 0)]) (st_op rfl (want_n rfl)) k0 rfl rfl rfl (by decide) ok119 (up_calls _ _ p0.il _ _ _ _ _ _ _ 1 0 (p0.g 0) (p0.z 0) (imm_box (i := 0) rfl) (p0.g 3)) ?_
 rintro k0 q0 ⟨m0, n0, f0, rfl, c0, v0, x0, y0⟩
 have q0 := p0.callM (i := 0) rfl c0 v0
 have v0 := p0.dM 0 q0 x0
 refine ⟨_, rfl, fun q0 x0 => ?_⟩
 obtain ⟨q0, p0⟩ := upZ y0 (by assumption)
 have p0 := sWI v0 17 (pB 0 1 pn)
 refine ⟨p0, ?_⟩
 refine d1 13 ?_
 have p0 := v0.data (dAll [((m0, n0, f0) : Sl), ((s0, t0, i0) : Sl)]) (all_cons (v0.get (i := 18) rfl) (all_cons (v0.get (i := 16) rfl) all_nil))
 refine mbs [(0, .tmp 65), (1, .tmp 66)] [.slice m0 f0.length n0, .slice s0 i0.length t0] (st_opV rfl (want_n rfl)) x0 p0 Tryd.underlying39 zi22 (fun v0 q0 y0 c0 k0 => ?_)
 have q0 := sWI k0 17 (pB 0 1 pn)
 refine ⟨q0, ?_⟩
 refine d1 14 ?_
 have q0 := k0.nf
 have k0 := own_cap (q0.res (i := 1) rfl)
 obtain ⟨v0, p0⟩ := q0.row_dataM (i := 1) rfl (j := 0) rfl (by decide)
 have q0 := v0.data (dRow 1 (some ⟨y0, 0, none⟩) 2 2 (encSs ([((m0, n0, f0) : Sl), ((s0, t0, i0) : Sl)]))) ⟨k0, p0⟩
 refine k_call (xs := [.tmp 56, .tmp 57, .tmp 67]) (st_op rfl (want_n rfl)) c0 rfl rfl rfl (by decide) ok93 (node_calls _ _ q0.il _ _ _ _ (⟨5, 0, 0, (⟨#[]⟩ : ByteArray)⟩ : Nd) _ _ ([((m0, n0, f0) : Sl), ((s0, t0, i0) : Sl)]) (q0.z 0) (imm_box (i := 0) rfl) (q0.g 20) (q0.g 19) (hb := (by simp; omega))) ?_
 rintro c0 f0 ⟨n0, m0, p0, rfl, v0, k0, y0, x0⟩
 have p0 := q0.callM (i := 0) rfl v0 k0
 have k0 := q0.dM 0 p0 y0
 refine ⟨_, rfl, fun p0 y0 => ?_⟩
 obtain ⟨p0, q0⟩ := noZ2 x0 (by decide) (by assumption) (by assumption)
 have q0 := sWI k0 17 (pB 0 1 pn)
 refine ⟨q0, ?_⟩
 refine dtA 15 b0 y0 q0 (fun p0 x0 => ?_)
 refine wpAnyH_done (by kernel_rfl) (u0 _ _ ?_) _
 refine x_then_n (d0 _ _ ?_)
 refine wp_seq_k (fun d0 u0 => ?_)
 obtain ⟨d0, p0, q0⟩ := k0.agree
 refine d_reg3 (n := 31) q0 22 (pB 0 1 pn) (pan_then pan_body) (fun d0 k0 y0 b0 v0 m0 => ?_)
 refine dtM 0 k0 x0 m0 (fun b0 d0 => ?_)
 refine dtN 1 k0 d0 m0 (fun b0 x0 => ?_)
 refine dtF 2 0 k0 x0 m0 Tryd.underlying74 sz72 (fun b0 d0 => ?_)
 refine dt 3 rfl k0 d0 (want_n rfl) (fun x hx => m_build (ps := [(0, .const (.int .i64 4))]) (v := .agg #[.int .i64 4, .int .i64 0, .int .i64 0, .string (⟨#[]⟩ : ByteArray)]) (sy d0) d0 rfl rfl rfl (fun _ => by kernel_rfl) (by decide) gt) m0 (fun b0 x0 => ?_)
 refine dtM 4 k0 x0 m0 (fun b0 d0 => ?_)
 refine dt 5 rfl k0 d0 (want_n rfl) (fun x hx => m_index (i := 0) (j := 0 * 1) (sy d0) d0 rfl rfl rfl rfl Tryd.underlying39 sz22 (by omega) (by omega) (ss_elem (t := o0) (k := 0) (sdat (p0 7 _ rfl) hx.ag).2 (by omega)).some_ rfl (by decide) gt) m0 (fun b0 x0 => ?_)
 refine dt 6 rfl k0 x0 (want_n rfl) (fun x hx => m_loadE (sy x0) x0 rfl rfl rfl 0 (0 * 1) (ss_elem (t := o0) (k := 0) (sdat (p0 7 _ rfl) hx.ag).2 (by omega)) rfl rfl Tryd.underlying22 rfl (by decide) gt) m0 (fun b0 d0 => ?_)
 have b0 := v0.data (dRow 4 ((nthS o0 0).1) ((nthS o0 0).2.2.length) ((nthS o0 0).2.1) (encNs ((nthS o0 0).2.2))) (all_at (t := o0) (k := 0) (v0.get (i := 8) rfl) (by omega))
 refine dtM 7 k0 d0 m0 (fun v0 x0 => ?_)
 refine dtN 8 k0 x0 m0 (fun v0 d0 => ?_)
 refine dtF 9 0 k0 d0 m0 Tryd.underlying74 sz72 (fun v0 x0 => ?_)
 refine dtM 10 k0 x0 m0 (fun v0 d0 => ?_)
 refine dtN 11 k0 d0 m0 (fun v0 x0 => ?_)
 refine dtF 12 0 k0 x0 m0 Tryd.underlying74 sz72 (fun v0 d0 => ?_)
 refine dtM 13 k0 d0 m0 (fun v0 x0 => ?_)
 refine dtN 14 k0 x0 m0 (fun v0 d0 => ?_)
 refine dtF 15 0 k0 d0 m0 Tryd.underlying74 sz72 (fun v0 x0 => ?_)
 refine dtM 16 k0 x0 m0 (fun v0 d0 => ?_)
 refine dt 17 rfl k0 d0 (want_n rfl) (fun x hx => m_index (i := 1) (j := 1 * 1) (sy d0) d0 rfl rfl rfl rfl Tryd.underlying39 sz22 (by omega) (by omega) (ss_elem (t := j0) (k := 1) (sdat (p0 5 _ rfl) hx.ag).2 (by omega)).some_ rfl (by decide) gt) m0 (fun v0 x0 => ?_)
 refine dt 18 rfl k0 x0 (want_n rfl) (fun x hx => m_loadE (sy x0) x0 rfl rfl rfl 0 (1 * 1) (ss_elem (t := j0) (k := 1) (sdat (p0 5 _ rfl) hx.ag).2 (by omega)) rfl rfl Tryd.underlying22 rfl (by decide) gt) m0 (fun v0 d0 => ?_)
 have v0 := b0.data (dRow 4 ((nthS j0 1).1) ((nthS j0 1).2.2.length) ((nthS j0 1).2.1) (encNs ((nthS j0 1).2.2))) (all_at (t := j0) (k := 1) (b0.get (i := 6) rfl) (by omega))
 refine dtM 20 k0 d0 m0 (fun b0 x0 => ?_)
 refine dtM 23 k0 x0 m0 (fun b0 d0 => ?_)
 refine dt 24 rfl k0 d0 (want_n rfl) (fun x hx => m_index (i := 1) (j := 1 * 1) (sy d0) d0 rfl rfl rfl rfl Tryd.underlying39 sz22 (by omega) (by omega) (ss_elem (t := o0) (k := 1) (sdat (p0 7 _ rfl) hx.ag).2 (by omega)).some_ rfl (by decide) gt) m0 (fun b0 x0 => ?_)
 refine dt 25 rfl k0 x0 (want_n rfl) (fun x hx => m_loadE (sy x0) x0 rfl rfl rfl 0 (1 * 1) (ss_elem (t := o0) (k := 1) (sdat (p0 7 _ rfl) hx.ag).2 (by omega)) rfl rfl Tryd.underlying22 rfl (by decide) gt) m0 (fun b0 d0 => ?_)
 have b0 := v0.data (dRow 4 ((nthS o0 1).1) ((nthS o0 1).2.2.length) ((nthS o0 1).2.1) (encNs ((nthS o0 1).2.2))) (all_at (t := o0) (k := 1) (v0.get (i := 8) rfl) (by omega))
 refine dtM 26 k0 d0 m0 (fun v0 x0 => ?_)
 refine wpAnyH_all (rs := [19, 21]) (by kernel_rfl) (by simp) ?_
 rintro i v0
 simp only [List.mem_cons, List.not_mem_nil, or_false] at v0
 rcases v0 with rfl | rfl
 ·
  have v0 := b0.nf
  refine k_call (xs := [.tmp 84, .tmp 87, .const (.int .i64 1), .const (.int .i64 1)]) (st_op rfl (want_n rfl)) x0 rfl rfl rfl (by decide) ok119 (up_calls _ _ v0.il _ _ _ _ _ _ ((nthS j0 1).2.2) 1 1 (v0.g 0) (v0.z 0) (imm_box (i := 0) rfl) (v0.g 24)) ?_
  rintro d0 m0 ⟨p0, q0, n0, rfl, f0, c0, z0, b1⟩
  have q0 := v0.callM (i := 0) rfl f0 c0
  have c0 := v0.dM 0 q0 z0
  refine ⟨_, rfl, fun q0 z0 => ?_⟩
  obtain ⟨q0, v0⟩ := upZ b1 (by assumption)
  have v0 := sWI c0 22 (pB 0 1 pn)
  refine ⟨v0, ?_⟩
  refine d1 21 ?_
  have v0 := c0.data (dAll [((s0, t0, i0) : Sl)]) (all_cons (c0.get (i := 16) rfl) all_nil)
  refine mbs [(0, .tmp 89)] [.slice s0 i0.length t0] (st_opV rfl (want_n rfl)) z0 v0 Tryd.underlying39 zi22 (fun c0 q0 b1 f0 p0 => ?_)
  have q0 := sWI p0 22 (pB 0 1 pn)
  refine ⟨q0, ?_⟩
  refine d1 22 ?_
  have q0 := p0.nf
  have p0 := own_cap (q0.res (i := 1) rfl)
  obtain ⟨c0, v0⟩ := q0.row_dataM (i := 1) rfl (j := 0) rfl (by decide)
  have q0 := c0.data (dRow 1 (some ⟨b1, 0, none⟩) 1 1 (encSs ([((s0, t0, i0) : Sl)]))) ⟨p0, v0⟩
  refine k_call (xs := [.tmp 81, .tmp 88, .tmp 90]) (st_op rfl (want_n rfl)) f0 rfl rfl rfl (by decide) ok121 (minst_calls _ _ q0.il _ _ _ _ _ _ _ _ _ ([((s0, t0, i0) : Sl)]) (q0.g 0) (q0.z 0) (imm_box (i := 0) rfl) (q0.g 26) (q0.g 28) (q0.g 27) (hsm := (by assumption)) (hl := (by omega)) (hls := (by simp only [lsts, List.map_cons, List.map_nil, List.mem_cons, List.not_mem_nil, or_false, forall_eq_or_imp, forall_eq]; first | assumption | omega | (and_intros <;> first | assumption | omega))) (hlb := (by simp only [lsts, List.map_cons, List.map_nil, List.mem_cons, List.not_mem_nil, or_false, forall_eq_or_imp, forall_eq]; first | assumption | omega | (and_intros <;> first | assumption | omega))) (hl0 := (by simp))) ?_
  rintro f0 v0 ⟨c0, p0, b1, rfl, z0, m0, d0, c1⟩
  have b1 := q0.callM (i := 0) rfl z0 m0
  have m0 := q0.dM 0 b1 d0
  refine ⟨_, rfl, fun b1 d0 => ?_⟩
  obtain ⟨b1, q0⟩ := inZ c1 (by assumption) (by simp only [lsts, List.map_cons, List.map_nil, List.mem_cons, List.not_mem_nil, or_false, forall_eq_or_imp, forall_eq]; first | assumption | (and_intros <;> assumption))
  have q0 := sWI m0 22 (pB 0 1 pn)
  refine ⟨q0, ?_⟩
  refine d1 27 ?_
  have q0 := m0.nf
  refine k_call (xs := [.tmp 78, .tmp 91, .tmp 94, .tmp 95]) (st_op rfl (want_n rfl)) d0 rfl rfl rfl (by decide) ok94 (cast_calls _ _ q0.il _ _ _ _ _ _ _ _ _ ((nthS o0 1).2.2) _ _ _ (q0.z 0) (imm_box (i := 0) rfl) (q0.g 29) (q0.g 25) (q0.g 21)) ?_
  rintro d0 m0 ⟨b1, c1, z0, rfl, p0, c0, v0, f0⟩
  have m0 := q0.callM (i := 0) rfl p0 c0
  have c0 := q0.dM 0 m0 v0
  refine ⟨_, rfl, fun m0 v0 => ?_⟩
  obtain ⟨m0, q0⟩ := caZ f0 (by assumption) (by assumption) (by assumption)
  have q0 := sWI c0 22 (pB 0 1 pn)
  refine ⟨q0, ?_⟩
  refine d1 28 ?_
  have q0 := c0.data (dAll [(((nthS o0 0).1, (nthS o0 0).2.1, (nthS o0 0).2.2) : Sl), ((b1, c1, z0) : Sl)]) (all_cons (c0.get (i := 23) rfl) (all_cons (c0.get (i := 30) rfl) all_nil))
  refine mbs [(0, .tmp 75), (1, .tmp 96)] [.slice ((nthS o0 0).1) ((nthS o0 0).2.2.length) ((nthS o0 0).2.1), .slice b1 z0.length c1] (st_opV rfl (want_n rfl)) v0 q0 Tryd.underlying39 zi22 (fun c0 m0 f0 p0 d0 => ?_)
  have m0 := sWI d0 22 (pB 0 1 pn)
  refine ⟨m0, ?_⟩
  refine d1 29 ?_
  have m0 := d0.nf
  have d0 := own_cap (m0.res (i := 1) rfl)
  obtain ⟨c0, q0⟩ := m0.row_dataM (i := 1) rfl (j := 0) rfl (by decide)
  have m0 := c0.data (dRow 1 (some ⟨f0, 0, none⟩) 2 2 (encSs ([(((nthS o0 0).1, (nthS o0 0).2.1, (nthS o0 0).2.2) : Sl), ((b1, c1, z0) : Sl)]))) ⟨d0, q0⟩
  refine k_call (xs := [.tmp 71, .tmp 72, .tmp 97]) (st_op rfl (want_n rfl)) p0 rfl rfl rfl (by decide) ok93 (node_calls _ _ m0.il _ _ _ _ (⟨4, 0, 0, (⟨#[]⟩ : ByteArray)⟩ : Nd) _ _ ([(((nthS o0 0).1, (nthS o0 0).2.1, (nthS o0 0).2.2) : Sl), ((b1, c1, z0) : Sl)]) (m0.z 0) (imm_box (i := 0) rfl) (m0.g 32) (m0.g 31) (hb := (by simp; omega))) ?_
  rintro p0 z0 ⟨c1, b1, q0, rfl, c0, d0, f0, v0⟩
  have z0 := m0.callM (i := 0) rfl c0 d0
  have d0 := m0.dM 0 z0 f0
  refine ⟨_, rfl, fun z0 f0 => ?_⟩
  obtain ⟨z0, m0⟩ := noZ2 v0 (by decide) (by assumption) (by assumption)
  have m0 := sWI d0 22 (pB 0 1 pn)
  refine ⟨m0, ?_⟩
  refine dtA 30 k0 f0 m0 (fun z0 v0 => ?_)
  refine wpAnyH_done (by kernel_rfl) (y0 _ _ ?_) _
  refine x_then_n (u0 _ _ ?_)
  refine wp_ret ?_
  refine e_ret1 v0 rfl rfl rfl ?_
  refine ⟨c1, b1, q0, ?_, d0.fr, (by rw [show (piE5 ce (agA ca) (agA cb) ct cn.N : Int) = ((((inQ ((upE (((upE (((((upE ((upE (((ce))) ((nthS o0 0).2.2) 1 0)) ((nthS j0 0).2.2) 1 0))))) ct 1 0))) ((nthS j0 1).2.2) 1 1)) n0 (lsts ([((s0, t0, i0) : Sl)])))))) by (simp only [lsts_nth, *]; rfl)]; exact d0.res (i := 0) rfl), d0.rx 33, (by simp only [lsts_nth, *]; rfl)⟩
  exact congrArg Ending.returned (ret_s (by rfl))
 ·
  have d0 := b0.data (dAll [((s0, t0, i0) : Sl)]) (all_cons (b0.get (i := 16) rfl) all_nil)
  refine mbs [(0, .tmp 89)] [.slice s0 i0.length t0] (st_opV rfl (want_n rfl)) x0 d0 Tryd.underlying39 zi22 (fun b0 q0 b1 c1 n0 => ?_)
  have q0 := sWI n0 22 (pB 0 1 pn)
  refine ⟨q0, ?_⟩
  refine d1 19 ?_
  have q0 := n0.nf
  refine k_call (xs := [.tmp 84, .tmp 87, .const (.int .i64 1), .const (.int .i64 1)]) (st_op rfl (want_n rfl)) c1 rfl rfl rfl (by decide) ok119 (up_calls _ _ q0.il _ _ _ _ _ _ ((nthS j0 1).2.2) 1 1 (q0.g 0) (q0.z 0) (imm_box (i := 0) rfl) (q0.g 24)) ?_
  rintro c1 n0 ⟨b0, d0, x0, rfl, v0, z0, m0, f0⟩
  have d0 := q0.callM (i := 0) rfl v0 z0
  have z0 := q0.dM 0 d0 m0
  refine ⟨_, rfl, fun d0 m0 => ?_⟩
  obtain ⟨d0, q0⟩ := upZ f0 (by assumption)
  have q0 := sWI z0 22 (pB 0 1 pn)
  refine ⟨q0, ?_⟩
  refine d1 22 ?_
  have q0 := z0.nf
  have z0 := own_cap (q0.res (i := 1) rfl)
  obtain ⟨d0, f0⟩ := q0.row_dataM (i := 1) rfl (j := 0) rfl (by decide)
  have q0 := d0.data (dRow 1 (some ⟨b1, 0, none⟩) 1 1 (encSs ([((s0, t0, i0) : Sl)]))) ⟨z0, f0⟩
  refine k_call (xs := [.tmp 81, .tmp 88, .tmp 90]) (st_op rfl (want_n rfl)) m0 rfl rfl rfl (by decide) ok121 (minst_calls _ _ q0.il _ _ _ _ _ _ _ _ _ ([((s0, t0, i0) : Sl)]) (q0.g 0) (q0.z 0) (imm_box (i := 0) rfl) (q0.g 27) (q0.g 28) (q0.g 26) (hsm := (by assumption)) (hl := (by omega)) (hls := (by simp only [lsts, List.map_cons, List.map_nil, List.mem_cons, List.not_mem_nil, or_false, forall_eq_or_imp, forall_eq]; first | assumption | omega | (and_intros <;> first | assumption | omega))) (hlb := (by simp only [lsts, List.map_cons, List.map_nil, List.mem_cons, List.not_mem_nil, or_false, forall_eq_or_imp, forall_eq]; first | assumption | omega | (and_intros <;> first | assumption | omega))) (hl0 := (by simp))) ?_
  rintro m0 f0 ⟨d0, z0, b1, rfl, v0, b0, n0, c1⟩
  have b1 := q0.callM (i := 0) rfl v0 b0
  have b0 := q0.dM 0 b1 n0
  refine ⟨_, rfl, fun b1 n0 => ?_⟩
  obtain ⟨b1, q0⟩ := inZ c1 (by assumption) (by simp only [lsts, List.map_cons, List.map_nil, List.mem_cons, List.not_mem_nil, or_false, forall_eq_or_imp, forall_eq]; first | assumption | (and_intros <;> assumption))
  have q0 := sWI b0 22 (pB 0 1 pn)
  refine ⟨q0, ?_⟩
  refine d1 27 ?_
  have q0 := b0.nf
  refine k_call (xs := [.tmp 78, .tmp 91, .tmp 94, .tmp 95]) (st_op rfl (want_n rfl)) n0 rfl rfl rfl (by decide) ok94 (cast_calls _ _ q0.il _ _ _ _ _ _ _ _ _ ((nthS o0 1).2.2) _ _ _ (q0.z 0) (imm_box (i := 0) rfl) (q0.g 29) (q0.g 25) (q0.g 21)) ?_
  rintro n0 b0 ⟨b1, c1, v0, rfl, z0, d0, f0, m0⟩
  have b0 := q0.callM (i := 0) rfl z0 d0
  have d0 := q0.dM 0 b0 f0
  refine ⟨_, rfl, fun b0 f0 => ?_⟩
  obtain ⟨b0, q0⟩ := caZ m0 (by assumption) (by assumption) (by assumption)
  have q0 := sWI d0 22 (pB 0 1 pn)
  refine ⟨q0, ?_⟩
  refine d1 28 ?_
  have q0 := d0.data (dAll [(((nthS o0 0).1, (nthS o0 0).2.1, (nthS o0 0).2.2) : Sl), ((b1, c1, v0) : Sl)]) (all_cons (d0.get (i := 23) rfl) (all_cons (d0.get (i := 30) rfl) all_nil))
  refine mbs [(0, .tmp 75), (1, .tmp 96)] [.slice ((nthS o0 0).1) ((nthS o0 0).2.2.length) ((nthS o0 0).2.1), .slice b1 v0.length c1] (st_opV rfl (want_n rfl)) f0 q0 Tryd.underlying39 zi22 (fun d0 b0 m0 z0 n0 => ?_)
  have b0 := sWI n0 22 (pB 0 1 pn)
  refine ⟨b0, ?_⟩
  refine d1 29 ?_
  have b0 := n0.nf
  have n0 := own_cap (b0.res (i := 1) rfl)
  obtain ⟨d0, q0⟩ := b0.row_dataM (i := 1) rfl (j := 0) rfl (by decide)
  have b0 := d0.data (dRow 1 (some ⟨m0, 0, none⟩) 2 2 (encSs ([(((nthS o0 0).1, (nthS o0 0).2.1, (nthS o0 0).2.2) : Sl), ((b1, c1, v0) : Sl)]))) ⟨n0, q0⟩
  refine k_call (xs := [.tmp 71, .tmp 72, .tmp 97]) (st_op rfl (want_n rfl)) z0 rfl rfl rfl (by decide) ok93 (node_calls _ _ b0.il _ _ _ _ (⟨4, 0, 0, (⟨#[]⟩ : ByteArray)⟩ : Nd) _ _ ([(((nthS o0 0).1, (nthS o0 0).2.1, (nthS o0 0).2.2) : Sl), ((b1, c1, v0) : Sl)]) (b0.z 0) (imm_box (i := 0) rfl) (b0.g 32) (b0.g 31) (hb := (by simp; omega))) ?_
  rintro z0 v0 ⟨c1, b1, q0, rfl, d0, n0, m0, f0⟩
  have v0 := b0.callM (i := 0) rfl d0 n0
  have n0 := b0.dM 0 v0 m0
  refine ⟨_, rfl, fun v0 m0 => ?_⟩
  obtain ⟨v0, b0⟩ := noZ2 f0 (by decide) (by assumption) (by assumption)
  have b0 := sWI n0 22 (pB 0 1 pn)
  refine ⟨b0, ?_⟩
  refine dtA 30 k0 m0 b0 (fun v0 f0 => ?_)
  refine wpAnyH_done (by kernel_rfl) (y0 _ _ ?_) _
  refine x_then_n (u0 _ _ ?_)
  refine wp_ret ?_
  refine e_ret1 f0 rfl rfl rfl ?_
  refine ⟨c1, b1, q0, ?_, n0.fr, (by rw [show (piE5 ce (agA ca) (agA cb) ct cn.N : Int) = ((((inQ ((upE (((upE (((((upE ((upE (((ce))) ((nthS o0 0).2.2) 1 0)) ((nthS j0 0).2.2) 1 0))))) ct 1 0))) ((nthS j0 1).2.2) 1 1)) x0 (lsts ([((s0, t0, i0) : Sl)])))))) by (simp only [lsts_nth, *]; rfl)]; exact n0.res (i := 0) rfl), n0.rx 33, (by simp only [lsts_nth, *]; rfl)⟩
  exact congrArg Ending.returned (ret_s (by rfl))
end Go.Proofs.YtobgdeffhdefeaaDoor
