import Derived.Test.YtobgdeffhdefeaaDoorPla
/- Contracts of functions, one theorem each: what the call returns, and that nothing old is changed. Printed by gen.py. -/
namespace Go.Proofs.YtobgdeffhdefeaaDoor
open Go Go.RowKit
set_option linter.unusedSimpArgs false
set_option linter.unusedVariables false

set_option maxRecDepth 100000 in
set_option maxHeartbeats 1000000 in
theorem lv_calls (w0 : World) (Z : Nat → Prop) (hZ : ∀ k, Z k → k < w0.heap.size) (n : Int)  :
    Calls Tryd.prog 145 [.int .i64 n].toArray w0 (fun e w' => e = .returned (.bool (!decide (0 ≤ n ∧ n ≤ 9))) ∧ Fr none_ w0 w') := by
  have hstart : ∀ k, Z k → imm Z w0 [] w0 k ∧ w0.heap[k]? = w0.heap[k]? := fun k hk => ⟨⟨hZ k hk, fun _ => hk, fun _ h => by cases h⟩, rfl⟩
  have hS3 : St w0 Z none_ w0 [] [] := St.start w0 Z none_ _ (by
    intro d hd
    cases hd
    )
  refine c_enter Tryd.func145 rfl Tryd.ntmps145 rfl (fun a1 hR2 => ?_)
  refine wp_seq_k (fun K4 hK5 => ?_)
  refine c_region ?_
  refine r_assign (st_listV rfl) hR2 rfl rfl rfl (by decide) (fun a6 hR7 => ?_)
  refine wpList_nil ?_
  refine x_then_n (hK5 _ _ ?_)
  refine wp_seq_k (fun K8 hK9 => ?_)
  refine c_region ?_
  refine r_move (st_listV rfl) hR7 rfl rfl rfl (by decide) (fun a10 hR11 => ?_)
  refine r_lss (st_listV rfl) hR11 rfl rfl rfl rfl (by decide) (fun a12 hR13 => ?_)
  refine r_move (st_listV rfl) hR13 rfl rfl rfl (by decide) (fun a14 hR15 => ?_)
  refine l_join (fun ga gw => Reg ga 9 [(2, .bool false), (8, .bool ((decide ((n) < 0)) || (decide (9 < (n)))))] ∧ St w0 Z none_ gw [] []) 3 ?_ ?_
  · skip
    rcases Decidable.em ((n) < 0) with h16 | h16
    · skip
      have hR17 := hR15.setb (d := 5) (b := true) rfl (decide_eq_true h16)
      refine s_pass hR17 rfl (by decide) (want_f hR17 rfl rfl rfl (by decide) rfl rfl) (fun a18 hR19 => ?_)
      refine s_pass hR19 rfl (by decide) (want_f hR19 rfl rfl rfl (by decide) rfl rfl) (fun a20 hR21 => ?_)
      refine r_pick_t (st_listV rfl) hR21 rfl rfl rfl rfl (by decide) (fun a22 hR23 => ?_)
      refine wpList_nil ?_
      exact x_then_n ⟨(Reg.cons hR23 (Reg.consb hR23 (hR23.nil) rfl (by first | rfl | (simp only [decide_eq_true h16, if_pos h16, Bool.true_and, Bool.and_true, Bool.false_and, Bool.and_false, Bool.true_or, Bool.or_true, Bool.false_or, Bool.or_false, Bool.not_true, Bool.not_false, if_true, ite_true, ite_false, Bool.false_eq_true]; done) | (simp [h16]; done) | (simp [h16]; omega))) rfl), hS3⟩
    · skip
      have hR24 := hR15.setb (d := 5) (b := false) rfl (decide_eq_false h16)
      refine r_move (st_listV_w (want_t hR24 rfl rfl rfl (by decide) rfl)) hR24 rfl rfl rfl (by decide) (fun a25 hR26 => ?_)
      refine r_gtr (st_listV_w (want_t hR26 rfl rfl rfl (by decide) rfl)) hR26 rfl rfl rfl rfl (by decide) (fun a27 hR28 => ?_)
      refine r_pick_f (st_listV rfl) hR28 rfl rfl rfl rfl (by decide) (fun a29 hR30 => ?_)
      refine wpList_nil ?_
      exact x_then_n ⟨(Reg.cons hR30 (Reg.consb hR30 (hR30.nil) rfl (by first | rfl | (simp only [decide_eq_false h16, if_neg h16, Bool.true_and, Bool.and_true, Bool.false_and, Bool.and_false, Bool.true_or, Bool.or_true, Bool.false_or, Bool.or_false, Bool.not_true, Bool.not_false, if_true, ite_true, ite_false, Bool.false_eq_true]; done) | (simp [h16]; done) | (simp [h16]; omega))) rfl), hS3⟩
  rintro a31 w32 ⟨hR33, hS34⟩
  refine r_assign (st_listV rfl) hR33 rfl rfl rfl (by decide) (fun a35 hR36 => ?_)
  refine wpList_nil ?_
  refine x_then_n (hK9 _ _ ?_)
  refine wp_ret ?_
  refine e_ret1 hR36 rfl rfl ?_
  refine ⟨?_, hS34.fr⟩
  exact congrArg Ending.returned (ret_b (by first | rfl | omega | ( omega) | (simp []; done) | (simp [] at *; done) | (simp [] <;> omega) | (rw [Bool.eq_iff_iff]; simp [] <;> omega) | (rw [Bool.eq_iff_iff]; simp [] at * <;> omega)))

set_option maxRecDepth 100000 in
set_option maxHeartbeats 1000000 in
theorem lvIndex_calls (w0 : World) (Z : Nat → Prop) (hZ : ∀ k, Z k → k < w0.heap.size) (tA : Option Addr) (tc : Nat) (t : List Int) (ht : (dRow 1 tA t.length tc (encIs t)).φ w0 Z) (hl : t.length ≤ 1000000) :
    Calls Tryd.prog 148 [.slice tA t.length tc, .func (.func 145) #[] #[]].toArray w0 (fun e w' => e = .returned (.int .i64 (lvIndex t)) ∧ Fr none_ w0 w') := by
  have hstart : ∀ k, Z k → imm Z w0 [] w0 k ∧ w0.heap[k]? = w0.heap[k]? := fun k hk => ⟨⟨hZ k hk, fun _ => hk, fun _ h => by cases h⟩, rfl⟩
  have hS3 : St w0 Z none_ w0 [] [dRow 1 tA t.length tc (encIs t)] := St.start w0 Z none_ _ (by
    intro d hd
    simp only [List.mem_cons, List.not_mem_nil, or_false] at hd
    rcases hd with rfl
    · exact Dat.mono _ _ _ _ _ ht hstart
    )
  refine c_enter Tryd.func148 rfl Tryd.ntmps148 rfl (fun a1 hR2 => ?_)
  refine wp_seq_k (fun K4 hK5 => ?_)
  refine c_region ?_
  refine r_assign (st_listV rfl) hR2 rfl rfl rfl (by decide) (fun a6 hR7 => ?_)
  refine wpList_nil ?_
  refine x_then_n (hK5 _ _ ?_)
  refine wp_seq_k (fun K8 hK9 => ?_)
  refine wp_seq_k (fun K10 hK11 => ?_)
  refine c_region ?_
  refine r_move (st_listV rfl) hR7 rfl rfl rfl (by decide) (fun a12 hR13 => ?_)
  refine r_len (st_listV rfl) hR13 rfl rfl rfl rfl Tryd.underlying66 (by decide) (fun a14 hR15 => ?_)
  refine r_move (st_listV rfl) hR15 rfl rfl rfl (by decide) (fun a16 hR17 => ?_)
  refine wpList_nil ?_
  refine x_then_n (hK11 _ _ ?_)
  refine wp_block ?_
  refine wp_loop_ghost (fun gn ga gw => ∃ k : Nat, (Reg ga 19 [(0, .slice tA t.length tc), (1, .func (.func 145) #[] #[]), (7, .int .i64 ((t.length : Nat) : Int)), (8, .int .i64 ((k : Nat) : Int))]) ∧ (St w0 Z none_ gw [] [dRow 1 tA t.length tc (encIs t)]) ∧ (k ≤ t.length) ∧ (lvIndex t = (let r := lvIndex (t.drop k); if r < 0 then r else r + (k : Int))) ∧ (t.length - k) = gn) _ ⟨0, (Reg.cons hR17 (Reg.cons hR17 (Reg.cons hR17 (Reg.cons hR17 (hR17.nil) rfl) rfl) rfl) rfl), hS3, by omega, by simp, rfl⟩ ?_
  rintro r18 a19 w20 ⟨k, hR21, hS22, hk, hi, hn23⟩
  refine wp_seq_k (fun K24 hK25 => ?_)
  refine c_region ?_
  refine r_lss (st_listV rfl) hR21 rfl rfl rfl rfl (by decide) (fun a26 hR27 => ?_)
  refine wpList_nil ?_
  refine x_then_n (hK25 _ _ ?_)
  refine wp_seq_k (fun K28 hK29 => ?_)
  rcases Decidable.em (((k : Nat) : Int) < ((t.length : Nat) : Int)) with h30 | h30
  · skip
    have hR31 := hR27.setb (d := 9) (b := true) rfl (decide_eq_true h30)
    refine wp_cond_true (hR31.ev rfl) ?_
    refine wp_skip ?_
    refine x_then_n (hK29 _ _ ?_)
    refine wp_seq_k (fun K32 hK33 => ?_)
    refine wp_block ?_
    refine wp_seq_k (fun K34 hK35 => ?_)
    refine c_region ?_
    refine r_move (st_listV rfl) hR31 rfl rfl rfl (by decide) (fun a36 hR37 => ?_)
    refine r_assign (st_listV rfl) hR37 rfl rfl rfl (by decide) (fun a38 hR39 => ?_)
    refine wpList_nil ?_
    refine x_then_n (hK35 _ _ ?_)
    refine wp_seq_k (fun K40 hK41 => ?_)
    refine c_region ?_
    refine r_move (st_listV rfl) hR39 rfl rfl rfl (by decide) (fun a42 hR43 => ?_)
    refine r_move (st_listV rfl) hR43 rfl rfl rfl (by decide) (fun a44 hR45 => ?_)
    refine r_move (st_listV rfl) hR45 rfl rfl rfl (by decide) (fun a46 hR47 => ?_)
    refine m_index (i := k) (j := k * 1) (st_listV rfl) hR47 rfl rfl rfl rfl Tryd.underlying66 sz3 (by omega) (by omega) (ints_elem (t := t) (k := k) (hS22.row (i := 0) rfl).2 (by omega)).some_ rfl (by decide) (fun a48 hR49 => ?_)
    refine m_loadE (st_listV rfl) hR49 rfl rfl rfl 0 (k * 1) (ints_elem (t := t) (k := k) (hS22.row (i := 0) rfl).2 (by omega)) rfl rfl Tryd.underlying3 rfl (by decide) (fun a50 hR51 => ?_)
    have hS52 : St w0 Z none_ w20 [] [dRow 1 tA t.length tc (encIs t)] := hS22
    refine k_callV (xs := [.tmp 15]) (st_list rfl) hR51 rfl rfl rfl rfl (by decide) ok145 (lv_calls _ (imm Z w0 [] _) (fun _ h => h.1) ((nthI t k))) ?_
    rintro e59 w54 ⟨rfl, hf57⟩
    have hS60 := hS52.below hf57.below
    refine ⟨_, rfl, fun a53 hR55 => ?_⟩
    refine wpList_nil ?_
    refine x_then_n (hK41 _ _ ?_)
    rcases Bool.eq_false_or_eq_true (!decide (0 ≤ ((nthI t k)) ∧ ((nthI t k)) ≤ 9)) with h61 | h61
    · skip
      have h62 := not_t h61
      have h63 := of_decide_eq_false h62
      have hR64 := hR55.setb (d := 16) (b := true) rfl h61
      refine wp_cond_true (hR64.ev rfl) ?_
      refine wp_seq_k (fun K65 hK66 => ?_)
      refine c_region ?_
      refine r_move (st_listV rfl) hR64 rfl rfl rfl (by decide) (fun a67 hR68 => ?_)
      refine r_assign (st_listV rfl) hR68 rfl rfl rfl (by decide) (fun a69 hR70 => ?_)
      refine wpList_nil ?_
      refine x_then_n (hK66 _ _ ?_)
      refine wp_ret ?_
      refine x_block_r ?_
      refine x_then_r ?_
      refine x_then_r ?_
      refine x_block_r ?_
      refine x_then_r ?_
      refine e_ret1 hR70 rfl rfl ?_
      refine ⟨?_, hS60.fr⟩
      exact congrArg Ending.returned (ret_i (by first | exact (lvIndex_here (k := k) hi (by omega) (by intro h0; have q := h63; simp at q; omega)).symm | exact (lvIndex_none hi (by omega)).symm))
    · skip
      have h71 := not_f h61
      have h72 := of_decide_eq_true h71
      have hR73 := hR55.setb (d := 16) (b := false) rfl h61
      refine wp_cond_false (hR73.ev rfl) ?_
      refine wp_skip ?_
      refine x_block_n ?_
      refine x_then_n (hK33 _ _ ?_)
      refine c_region ?_
      refine r_add (z := ((k + 1 : Nat) : Int)) (st_listV rfl) hR73 rfl rfl rfl rfl (by decide) (by omega) (by omega) (by omega) (fun a74 hR75 => ?_)
      refine r_move (st_listV rfl) hR75 rfl rfl rfl (by decide) (fun a76 hR77 => ?_)
      refine wpList_nil ?_
      exact ⟨_, by omega, k + 1, (Reg.cons hR77 (Reg.cons hR77 (Reg.cons hR77 (Reg.cons hR77 (hR77.nil) rfl) rfl) rfl) rfl), hS60, by omega, lvIndex_step hi (by omega) (by have q := h72; simpa using q), rfl⟩
  · skip
    have hR78 := hR27.setb (d := 9) (b := false) rfl (decide_eq_false h30)
    refine wp_cond_false (hR78.ev rfl) ?_
    refine wp_exit ?_
    refine x_then_e ?_
    refine x_then_e ?_
    refine x_block_eq ?_
    refine x_then_n (hK9 _ _ ?_)
    refine wp_seq_k (fun K79 hK80 => ?_)
    refine c_region ?_
    refine r_assign (st_listV rfl) hR78 rfl rfl rfl (by decide) (fun a81 hR82 => ?_)
    refine wpList_nil ?_
    refine x_then_n (hK80 _ _ ?_)
    refine wp_ret ?_
    refine e_ret1 hR82 rfl rfl ?_
    refine ⟨?_, hS22.fr⟩
    exact congrArg Ending.returned (ret_i (by first | exact (lvIndex_here (k := k) hi (by omega) (by intro h0; have q := h30; simp at q; omega)).symm | exact (lvIndex_none hi (by omega)).symm))

set_option maxRecDepth 100000 in
set_option maxHeartbeats 1000000 in
theorem lvContains_calls (w0 : World) (Z : Nat → Prop) (hZ : ∀ k, Z k → k < w0.heap.size) (tA : Option Addr) (tc : Nat) (t : List Int) (ht : (dRow 1 tA t.length tc (encIs t)).φ w0 Z) (hl : t.length ≤ 1000000) :
    Calls Tryd.prog 144 [.slice tA t.length tc, .func (.func 145) #[] #[]].toArray w0 (fun e w' => e = .returned (.bool (decide (0 ≤ lvIndex t))) ∧ Fr none_ w0 w') := by
  have hstart : ∀ k, Z k → imm Z w0 [] w0 k ∧ w0.heap[k]? = w0.heap[k]? := fun k hk => ⟨⟨hZ k hk, fun _ => hk, fun _ h => by cases h⟩, rfl⟩
  have hS3 : St w0 Z none_ w0 [] [dRow 1 tA t.length tc (encIs t)] := St.start w0 Z none_ _ (by
    intro d hd
    simp only [List.mem_cons, List.not_mem_nil, or_false] at hd
    rcases hd with rfl
    · exact Dat.mono _ _ _ _ _ ht hstart
    )
  refine c_enter Tryd.func144 rfl Tryd.ntmps144 rfl (fun a1 hR2 => ?_)
  refine wp_seq_k (fun K4 hK5 => ?_)
  refine c_region ?_
  refine r_assign (st_listV rfl) hR2 rfl rfl rfl (by decide) (fun a6 hR7 => ?_)
  refine wpList_nil ?_
  refine x_then_n (hK5 _ _ ?_)
  refine wp_seq_k (fun K8 hK9 => ?_)
  refine c_region ?_
  refine r_move (st_listV rfl) hR7 rfl rfl rfl (by decide) (fun a10 hR11 => ?_)
  refine r_move (st_listV rfl) hR11 rfl rfl rfl (by decide) (fun a12 hR13 => ?_)
  have hS14 : St w0 Z none_ w0 [] [dRow 1 tA t.length tc (encIs t)] := hS3
  refine k_call (xs := [.tmp 5, .tmp 6]) (st_list rfl) hR13 rfl rfl rfl (by decide) ok148 (lvIndex_calls _ (imm Z w0 [] _) (fun _ h => h.1) tA tc t (hS14.get (i := 0) rfl) (by first | assumption | omega | (simp; done) | (simp; omega))) ?_
  rintro e21 w16 ⟨rfl, hf19⟩
  have hS22 := hS14.below hf19.below
  refine ⟨_, rfl, fun a15 hR17 => ?_⟩
  refine r_geq (st_listV rfl) hR17 rfl rfl rfl rfl (by decide) (fun a23 hR24 => ?_)
  refine r_assign (st_listV rfl) hR24 rfl rfl rfl (by decide) (fun a25 hR26 => ?_)
  refine wpList_nil ?_
  refine x_then_n (hK9 _ _ ?_)
  refine wp_ret ?_
  refine e_ret1 hR26 rfl rfl ?_
  refine ⟨?_, hS22.fr⟩
  exact congrArg Ending.returned (ret_b (by first | rfl | omega | ( omega) | (simp []; done) | (simp [] at *; done) | (simp [] <;> omega) | (rw [Bool.eq_iff_iff]; simp [] <;> omega) | (rw [Bool.eq_iff_iff]; simp [] at * <;> omega)))

set_option maxRecDepth 100000 in
set_option maxHeartbeats 1000000 in
theorem lvAll_calls (w0 : World) (Z : Nat → Prop) (hZ : ∀ k, Z k → k < w0.heap.size) (tA : Option Addr) (tc : Nat) (t : List Int) (ht : (dRow 1 tA t.length tc (encIs t)).φ w0 Z) (hl : t.length ≤ 1000000) :
    Calls Tryd.prog 138 [.slice tA t.length tc].toArray w0 (fun e w' => e = .returned (.bool (!decide (0 ≤ lvIndex t))) ∧ Fr none_ w0 w') := by
  have hstart : ∀ k, Z k → imm Z w0 [] w0 k ∧ w0.heap[k]? = w0.heap[k]? := fun k hk => ⟨⟨hZ k hk, fun _ => hk, fun _ h => by cases h⟩, rfl⟩
  have hS3 : St w0 Z none_ w0 [] [dRow 1 tA t.length tc (encIs t)] := St.start w0 Z none_ _ (by
    intro d hd
    simp only [List.mem_cons, List.not_mem_nil, or_false] at hd
    rcases hd with rfl
    · exact Dat.mono _ _ _ _ _ ht hstart
    )
  refine c_enter Tryd.func138 rfl Tryd.ntmps138 rfl (fun a1 hR2 => ?_)
  refine wp_seq_k (fun K4 hK5 => ?_)
  refine c_region ?_
  refine r_assign (st_listV rfl) hR2 rfl rfl rfl (by decide) (fun a6 hR7 => ?_)
  refine wpList_nil ?_
  refine x_then_n (hK5 _ _ ?_)
  refine wp_seq_k (fun K8 hK9 => ?_)
  refine c_region ?_
  refine r_move (st_listV rfl) hR7 rfl rfl rfl (by decide) (fun a10 hR11 => ?_)
  have hS12 : St w0 Z none_ w0 [] [dRow 1 tA t.length tc (encIs t)] := hS3
  refine k_call (xs := [.tmp 3, .func 145]) (st_list rfl) hR11 rfl rfl rfl (by decide) ok144 (lvContains_calls _ (imm Z w0 [] _) (fun _ h => h.1) tA tc t (hS12.get (i := 0) rfl) (by first | assumption | omega | (simp; done) | (simp; omega))) ?_
  rintro e19 w14 ⟨rfl, hf17⟩
  have hS20 := hS12.below hf17.below
  refine ⟨_, rfl, fun a13 hR15 => ?_⟩
  refine r_not (st_listV rfl) hR15 rfl rfl rfl (by decide) (fun a21 hR22 => ?_)
  refine r_assign (st_listV rfl) hR22 rfl rfl rfl (by decide) (fun a23 hR24 => ?_)
  refine wpList_nil ?_
  refine x_then_n (hK9 _ _ ?_)
  refine wp_ret ?_
  refine e_ret1 hR24 rfl rfl ?_
  refine ⟨?_, hS20.fr⟩
  exact congrArg Ending.returned (ret_b (by first | rfl | omega | ( omega) | (simp []; done) | (simp [] at *; done) | (simp [] <;> omega) | (rw [Bool.eq_iff_iff]; simp [] <;> omega) | (rw [Bool.eq_iff_iff]; simp [] at * <;> omega)))

set_option maxRecDepth 100000 in
set_option maxHeartbeats 1000000 in
theorem lvCheck_calls (w0 : World) (Z : Nat → Prop) (hZ : ∀ k, Z k → k < w0.heap.size) (n : Int)  :
    Calls Tryd.prog 129 [.int .i64 n].toArray w0 (fun e w' => e = .returned (.int .i64 (lvChk n)) ∧ Fr none_ w0 w') := by
  have hstart : ∀ k, Z k → imm Z w0 [] w0 k ∧ w0.heap[k]? = w0.heap[k]? := fun k hk => ⟨⟨hZ k hk, fun _ => hk, fun _ h => by cases h⟩, rfl⟩
  have hS3 : St w0 Z none_ w0 [] [] := St.start w0 Z none_ _ (by
    intro d hd
    cases hd
    )
  refine c_enter Tryd.func129 rfl Tryd.ntmps129 rfl (fun a1 hR2 => ?_)
  refine wp_seq_k (fun K4 hK5 => ?_)
  refine c_region ?_
  refine r_assign (st_listV rfl) hR2 rfl rfl rfl (by decide) (fun a6 hR7 => ?_)
  refine wpList_nil ?_
  refine x_then_n (hK5 _ _ ?_)
  refine wp_seq_k (fun K8 hK9 => ?_)
  refine wp_seq_k (fun K10 hK11 => ?_)
  refine c_region ?_
  refine r_move (st_listV rfl) hR7 rfl rfl rfl (by decide) (fun a12 hR13 => ?_)
  refine m_buildSlice (ps := [(0, .tmp 3)]) (cs := [.int .i64 (n)]) (st_listV rfl) hR13 hS3 rfl rfl rfl Tryd.underlying66 zi3 rfl rfl (by kernel_rfl) rfl (by decide) (fun a14 w15 g16 hR17 hS18 => ?_)
  have hS19 : St w0 Z none_ w15 [.row (some ⟨g16, 0, none⟩) 1 1 3 1 (encIs ([(n)]))] [] := hS18
  have hc23 := own_cap (hS19.res (i := 0) rfl)
  obtain ⟨hS20, hrow21⟩ := hS19.row_data (i := 0) rfl (fun _ h => h)
  have hS22 := hS20.data (dRow 1 (some ⟨g16, 0, none⟩) 1 1 (encIs ([(n)]))) ⟨hc23, hrow21⟩
  refine k_call (xs := [.tmp 4]) (st_list rfl) hR17 rfl rfl rfl (by decide) ok138 (lvAll_calls _ (imm Z w0 [] _) (fun _ h => h.1) (some ⟨g16, 0, none⟩) 1 ([(n)]) (hS22.get (i := 0) rfl) (by first | assumption | omega | (simp; done) | (simp; omega))) ?_
  rintro e30 w25 ⟨rfl, hf28⟩
  have hS31 := hS22.below hf28.below
  refine ⟨_, rfl, fun a24 hR26 => ?_⟩
  refine r_not (st_listV rfl) hR26 rfl rfl rfl (by decide) (fun a32 hR33 => ?_)
  refine wpList_nil ?_
  refine x_then_n (hK11 _ _ ?_)
  rcases Bool.eq_false_or_eq_true (!decide (0 ≤ lvIndex ([(n)]))) with h34 | h34
  · skip
    have h35 := not_t h34
    have h36 := of_decide_eq_false h35
    have hR37 := hR33.setb (d := 6) (b := false) rfl (by rw [h34]; rfl)
    refine wp_cond_false (hR37.ev rfl) ?_
    refine wp_skip ?_
    refine x_then_n (hK9 _ _ ?_)
    refine wp_seq_k (fun K38 hK39 => ?_)
    refine c_region ?_
    refine r_assign (st_listV rfl) hR37 rfl rfl rfl (by decide) (fun a40 hR41 => ?_)
    refine wpList_nil ?_
    refine x_then_n (hK39 _ _ ?_)
    refine wp_ret ?_
    refine e_ret1 hR41 rfl rfl ?_
    refine ⟨?_, hS31.fr⟩
    exact congrArg Ending.returned (ret_i (by exact (lvChk_good (by have q := h36; simpa using q)).symm))
  · skip
    have h42 := not_f h34
    have h43 := of_decide_eq_true h42
    have hR44 := hR33.setb (d := 6) (b := true) rfl (by rw [h34]; rfl)
    refine wp_cond_true (hR44.ev rfl) ?_
    refine wp_seq_k (fun K45 hK46 => ?_)
    refine c_region ?_
    refine r_assign (st_listV rfl) hR44 rfl rfl rfl (by decide) (fun a47 hR48 => ?_)
    refine wpList_nil ?_
    refine x_then_n (hK46 _ _ ?_)
    refine wp_ret ?_
    refine x_then_r ?_
    refine e_ret1 hR48 rfl rfl ?_
    refine ⟨?_, hS31.fr⟩
    exact congrArg Ending.returned (ret_i (by exact (lvChk_bad (by have q := h43; simpa using q)).symm))

set_option maxRecDepth 100000 in
set_option maxHeartbeats 1000000 in
theorem most_calls (w0 : World) (Z : Nat → Prop) (hZ : ∀ k, Z k → k < w0.heap.size) (k : Int)  :
    Calls Tryd.prog 130 [.int .i64 k].toArray w0 (fun e w' => e = .returned (.int .i64 (most k)) ∧ Fr none_ w0 w') := by
  have hstart : ∀ k, Z k → imm Z w0 [] w0 k ∧ w0.heap[k]? = w0.heap[k]? := fun k hk => ⟨⟨hZ k hk, fun _ => hk, fun _ h => by cases h⟩, rfl⟩
  have hS3 : St w0 Z none_ w0 [] [] := St.start w0 Z none_ _ (by
    intro d hd
    cases hd
    )
  refine c_enter Tryd.func130 rfl Tryd.ntmps130 rfl (fun a1 hR2 => ?_)
  refine wp_seq_k (fun K4 hK5 => ?_)
  refine c_region ?_
  refine r_assign (st_listV rfl) hR2 rfl rfl rfl (by decide) (fun a6 hR7 => ?_)
  refine wpList_nil ?_
  refine x_then_n (hK5 _ _ ?_)
  refine wp_seq_k (fun K8 hK9 => ?_)
  refine wp_seq_k (fun K10 hK11 => ?_)
  refine c_region ?_
  refine r_move (st_listV rfl) hR7 rfl rfl rfl (by decide) (fun a12 hR13 => ?_)
  refine wpList_nil ?_
  refine x_then_n (hK11 _ _ ?_)
  refine wp_block ?_
  refine wp_seq_k (fun K14 hK15 => ?_)
  refine c_region ?_
  refine r_eql (st_listV rfl) hR13 rfl rfl rfl rfl (by decide) (fun a16 hR17 => ?_)
  refine r_assign (st_listV rfl) hR17 rfl rfl rfl (by decide) (fun a18 hR19 => ?_)
  refine wpList_nil ?_
  refine x_then_n (hK15 _ _ ?_)
  rcases Decidable.em ((k) = 0) with h20 | h20
  · skip
    have hR21 := hR19.setb (d := 4) (b := true) rfl (decide_eq_true h20)
    refine wp_cond_true (hR21.ev rfl) ?_
    refine wp_seq_k (fun K22 hK23 => ?_)
    refine c_region ?_
    refine r_assign (st_listV rfl) hR21 rfl rfl rfl (by decide) (fun a24 hR25 => ?_)
    refine wpList_nil ?_
    refine x_then_n (hK23 _ _ ?_)
    refine wp_ret ?_
    refine x_block_r ?_
    refine x_then_r ?_
    refine e_ret1 hR25 rfl rfl ?_
    refine ⟨?_, hS3.fr⟩
    exact congrArg Ending.returned (ret_i (by have q0 := h20; (try simp at q0);  unfold most; (repeat' split) <;> omega))
  · skip
    have hR26 := hR19.setb (d := 4) (b := false) rfl (decide_eq_false h20)
    refine wp_cond_false (hR26.ev rfl) ?_
    refine c_join (fun ga gw => Reg ga 9 [(2, .int .i64 0), (6, .bool ((decide ((k) = 3)) || (decide ((k) = 6))))] ∧ St w0 Z none_ gw [] []) ?_ ?_
    · skip
      refine wp_seq_k (fun K27 hK28 => ?_)
      refine c_region ?_
      refine r_eql (st_listV rfl) hR26 rfl rfl rfl rfl (by decide) (fun a29 hR30 => ?_)
      refine r_assign (st_listV rfl) hR30 rfl rfl rfl (by decide) (fun a31 hR32 => ?_)
      refine wpList_nil ?_
      refine x_then_n (hK28 _ _ ?_)
      rcases Decidable.em ((k) = 3) with h33 | h33
      · skip
        have hR34 := hR32.setb (d := 6) (b := true) rfl (decide_eq_true h33)
        refine wp_cond_true (hR34.ev rfl) ?_
        refine wp_skip ?_
        exact x_then_n ⟨(Reg.cons hR34 (Reg.consb hR34 (hR34.nil) rfl (by first | rfl | (simp only [decide_eq_true h33, if_pos h33, Bool.true_and, Bool.and_true, Bool.false_and, Bool.and_false, Bool.true_or, Bool.or_true, Bool.false_or, Bool.or_false, Bool.not_true, Bool.not_false, if_true, ite_true, ite_false, Bool.false_eq_true]; done) | (simp [h33]; done) | (simp [h33]; omega))) rfl), hS3⟩
      · skip
        have hR35 := hR32.setb (d := 6) (b := false) rfl (decide_eq_false h33)
        refine wp_cond_false (hR35.ev rfl) ?_
        refine c_region ?_
        refine r_eql (st_listV rfl) hR35 rfl rfl rfl rfl (by decide) (fun a36 hR37 => ?_)
        refine r_assign (st_listV rfl) hR37 rfl rfl rfl (by decide) (fun a38 hR39 => ?_)
        refine wpList_nil ?_
        exact x_then_n ⟨(Reg.cons hR39 (Reg.consb hR39 (hR39.nil) rfl (by first | rfl | (simp only [decide_eq_false h33, if_neg h33, Bool.true_and, Bool.and_true, Bool.false_and, Bool.and_false, Bool.true_or, Bool.or_true, Bool.false_or, Bool.or_false, Bool.not_true, Bool.not_false, if_true, ite_true, ite_false, Bool.false_eq_true]; done) | (simp [h33]; done) | (simp [h33]; omega))) rfl), hS3⟩
    rintro a40 w41 ⟨hR42, hS43⟩
    rcases Bool.eq_false_or_eq_true (((decide ((k) = 3)) || (decide ((k) = 6)))) with h44 | h44
    · skip
      have hq45 := h44
      try simp only [Bool.or_eq_true, Bool.and_eq_true, Bool.not_eq_true', Bool.not_eq_false', decide_eq_true_eq, decide_eq_false_iff_not, Bool.or_eq_false_iff, Bool.and_eq_false_iff] at hq45
      have hR46 := hR42.setb (d := 6) (b := true) rfl h44
      refine wp_cond_true (hR46.ev rfl) ?_
      refine wp_seq_k (fun K47 hK48 => ?_)
      refine c_region ?_
      refine r_assign (st_listV rfl) hR46 rfl rfl rfl (by decide) (fun a49 hR50 => ?_)
      refine wpList_nil ?_
      refine x_then_n (hK48 _ _ ?_)
      refine wp_ret ?_
      refine x_block_r ?_
      refine x_then_r ?_
      refine e_ret1 hR50 rfl rfl ?_
      refine ⟨?_, hS43.fr⟩
      exact congrArg Ending.returned (ret_i (by have q0 := h20; (try simp at q0); have q1 := h44; (try simp at q1);  unfold most; (repeat' split) <;> omega))
    · skip
      have h51 := or_fl h44
      have h52 := of_decide_eq_false h51
      have h53 := or_fr h44
      have h54 := of_decide_eq_false h53
      have hR55 := hR42.setb (d := 6) (b := false) rfl h44
      refine wp_cond_false (hR55.ev rfl) ?_
      refine wp_skip ?_
      refine x_block_n ?_
      refine x_then_n (hK9 _ _ ?_)
      refine wp_seq_k (fun K56 hK57 => ?_)
      refine c_region ?_
      refine r_assign (st_listV rfl) hR55 rfl rfl rfl (by decide) (fun a58 hR59 => ?_)
      refine wpList_nil ?_
      refine x_then_n (hK57 _ _ ?_)
      refine wp_ret ?_
      refine e_ret1 hR59 rfl rfl ?_
      refine ⟨?_, hS43.fr⟩
      exact congrArg Ending.returned (ret_i (by have q0 := h20; (try simp at q0); have q1 := h44; (try simp at q1); have q2 := h52; (try simp at q2); have q3 := h54; (try simp at q3);  unfold most; (repeat' split) <;> omega))

set_option maxRecDepth 100000 in
set_option maxHeartbeats 1000000 in
theorem many_calls (w0 : World) (Z : Nat → Prop) (hZ : ∀ k, Z k → k < w0.heap.size) (n : Nd) (hShp : Shapes w0 Z) (hr : right n = true) :
    Calls Tryd.prog 126 [.agg #[.int .i64 (n.K), .int .i64 (n.N), .int .i64 (n.M), .string n.S]].toArray w0 (fun e w' => e = .returned (.int .i64 ((many n : Nat) : Int)) ∧ Fr none_ w0 w') := by
  have hstart : ∀ k, Z k → imm Z w0 [] w0 k ∧ w0.heap[k]? = w0.heap[k]? := fun k hk => ⟨⟨hZ k hk, fun _ => hk, fun _ h => by cases h⟩, rfl⟩
  have hS3 : St w0 Z none_ w0 [] [dShapes] := St.start w0 Z none_ _ (by
    intro d hd
    simp only [List.mem_cons, List.not_mem_nil, or_false] at hd
    rcases hd with rfl
    · exact Dat.mono _ _ _ _ _ hShp hstart
    )
  obtain ⟨hK1, hK2⟩ := right_K hr
  refine c_enter Tryd.func126 rfl Tryd.ntmps126 rfl (fun a1 hR2 => ?_)
  refine wp_seq_k (fun K4 hK5 => ?_)
  refine c_region ?_
  refine m_box (cs := [.int .i64 (n.K), .int .i64 (n.N), .int .i64 (n.M), .string n.S]) (st_listV rfl) hR2 hS3 rfl rfl rfl rfl (by decide) (fun a6 w7 g8 hR9 hS10 => ?_)
  refine r_assign (st_listV rfl) hR9 rfl rfl rfl (by decide) (fun a11 hR12 => ?_)
  refine wpList_nil ?_
  refine x_then_n (hK5 _ _ ?_)
  refine wp_seq_k (fun K13 hK14 => ?_)
  refine wp_seq_k (fun K15 hK16 => ?_)
  refine c_region ?_
  refine m_field (j' := 0) (st_listV rfl) hR12 rfl rfl rfl Tryd.underlying32 rfl sz3 rfl rfl (by decide) (fun a17 hR18 => ?_)
  refine m_load (i := 0) (st_listV rfl) hR18 hS10 rfl rfl rfl rfl rfl Tryd.underlying3 rfl (by decide) (fun a19 hR20 => ?_)
  refine wpList_nil ?_
  refine x_then_n (hK16 _ _ ?_)
  refine wp_block ?_
  refine wp_seq_k (fun K21 hK22 => ?_)
  refine c_region ?_
  refine r_eql (st_listV rfl) hR20 rfl rfl rfl rfl (by decide) (fun a23 hR24 => ?_)
  refine r_assign (st_listV rfl) hR24 rfl rfl rfl (by decide) (fun a25 hR26 => ?_)
  refine wpList_nil ?_
  refine x_then_n (hK22 _ _ ?_)
  rcases Decidable.em ((n.K) = 26) with h27 | h27
  · skip
    have hR28 := hR26.setb (d := 5) (b := true) rfl (decide_eq_true h27)
    refine wp_cond_true (hR28.ev rfl) ?_
    refine wp_seq_k (fun K29 hK30 => ?_)
    refine c_region ?_
    refine m_field (j' := 2) (st_listV rfl) hR28 rfl rfl rfl Tryd.underlying32 rfl sz3 rfl rfl (by decide) (fun a31 hR32 => ?_)
    refine m_load (i := 0) (st_listV rfl) hR32 hS10 rfl rfl rfl rfl rfl Tryd.underlying3 rfl (by decide) (fun a33 hR34 => ?_)
    refine r_assign (st_listV rfl) hR34 rfl rfl rfl (by decide) (fun a35 hR36 => ?_)
    refine wpList_nil ?_
    refine x_then_n (hK30 _ _ ?_)
    refine wp_ret ?_
    refine x_block_r ?_
    refine x_then_r ?_
    refine e_ret1 hR36 rfl rfl ?_
    refine ⟨?_, hS10.fr⟩
    exact congrArg Ending.returned (ret_i (by first | exact many_con hr (by omega) | exact many_elim hr (by omega) | exact many_oth (by omega) (by omega)))
  · skip
    have hR37 := hR26.setb (d := 5) (b := false) rfl (decide_eq_false h27)
    refine wp_cond_false (hR37.ev rfl) ?_
    refine wp_seq_k (fun K38 hK39 => ?_)
    refine c_region ?_
    refine r_eql (st_listV rfl) hR37 rfl rfl rfl rfl (by decide) (fun a40 hR41 => ?_)
    refine r_assign (st_listV rfl) hR41 rfl rfl rfl (by decide) (fun a42 hR43 => ?_)
    refine wpList_nil ?_
    refine x_then_n (hK39 _ _ ?_)
    rcases Decidable.em ((n.K) = 27) with h44 | h44
    · skip
      obtain ⟨he1, he2⟩ := right_elim hr h44
      have hR45 := hR43.setb (d := 9) (b := true) rfl (decide_eq_true h44)
      refine wp_cond_true (hR45.ev rfl) ?_
      refine wp_seq_k (fun K46 hK47 => ?_)
      refine c_region ?_
      refine m_field (j' := 2) (st_listV rfl) hR45 rfl rfl rfl Tryd.underlying32 rfl sz3 rfl rfl (by decide) (fun a48 hR49 => ?_)
      refine m_load (i := 0) (st_listV rfl) hR49 hS10 rfl rfl rfl rfl rfl Tryd.underlying3 rfl (by decide) (fun a50 hR51 => ?_)
      refine r_add (z := (n.M + 2)) (st_listV rfl) hR51 rfl rfl rfl rfl (by decide) (by omega) (by omega) (by omega) (fun a52 hR53 => ?_)
      refine r_assign (st_listV rfl) hR53 rfl rfl rfl (by decide) (fun a54 hR55 => ?_)
      refine wpList_nil ?_
      refine x_then_n (hK47 _ _ ?_)
      refine wp_ret ?_
      refine x_block_r ?_
      refine x_then_r ?_
      refine e_ret1 hR55 rfl rfl ?_
      refine ⟨?_, hS10.fr⟩
      exact congrArg Ending.returned (ret_i (by first | exact many_con hr (by omega) | exact many_elim hr (by omega) | exact many_oth (by omega) (by omega)))
    · skip
      have hR56 := hR43.setb (d := 9) (b := false) rfl (decide_eq_false h44)
      refine wp_cond_false (hR56.ev rfl) ?_
      refine wp_skip ?_
      refine x_block_n ?_
      refine x_then_n (hK14 _ _ ?_)
      refine wp_seq_k (fun K57 hK58 => ?_)
      refine c_region ?_
      refine m_field (j' := 0) (st_listV rfl) hR56 rfl rfl rfl Tryd.underlying32 rfl sz3 rfl rfl (by decide) (fun a59 hR60 => ?_)
      refine m_load (i := 0) (st_listV rfl) hR60 hS10 rfl rfl rfl rfl rfl Tryd.underlying3 rfl (by decide) (fun a61 hR62 => ?_)
      refine m_indexA (i := ((n.K)).toNat) (j := (((n.K)).toNat) * 4) (st_listV rfl) hR62 rfl rfl rfl rfl Tryd.underlying130 sz129 (by omega) (by omega) rfl (by decide) (fun a63 hR64 => ?_)
      refine m_fieldE (j' := (((n.K)).toNat) * 4) (st_listV rfl) hR64 rfl rfl rfl rfl Tryd.underlying129 rfl sz66 rfl rfl (by decide) (fun a65 hR66 => ?_)
      obtain ⟨A67, c68, hd69, he70⟩ := shapes_at (hS10.get (i := 0) rfl) (((n.K)).toNat) (by omega)
      have hS71 := hS10.data (dRow 1 A67 (shp (((n.K)).toNat)).b.length c68 (encIs (shp (((n.K)).toNat)).b)) hd69
      refine m_loadE (st_listV rfl) hR66 rfl rfl rfl 0 ((((n.K)).toNat) * 4) he70 rfl rfl Tryd.underlying66 rfl (by decide) (fun a72 hR73 => ?_)
      refine r_len (st_listV rfl) hR73 rfl rfl rfl rfl Tryd.underlying66 (by decide) (fun a74 hR75 => ?_)
      refine r_assign (st_listV rfl) hR75 rfl rfl rfl (by decide) (fun a76 hR77 => ?_)
      refine wpList_nil ?_
      refine x_then_n (hK58 _ _ ?_)
      refine wp_ret ?_
      refine e_ret1 hR77 rfl rfl ?_
      refine ⟨?_, hS71.fr⟩
      exact congrArg Ending.returned (ret_i (by first | exact many_con hr (by omega) | exact many_elim hr (by omega) | exact many_oth (by omega) (by omega)))

set_option maxRecDepth 100000 in
set_option maxHeartbeats 1000000 in
theorem name_calls (w0 : World) (Z : Nat → Prop) (hZ : ∀ k, Z k → k < w0.heap.size) (s : ByteArray) (hs : s.size < 1000000) :
    Calls Tryd.prog 128 [.string s].toArray w0 (fun e w' => e = .returned (.bool (nameOk s)) ∧ Fr none_ w0 w') := by
  have hstart : ∀ k, Z k → imm Z w0 [] w0 k ∧ w0.heap[k]? = w0.heap[k]? := fun k hk => ⟨⟨hZ k hk, fun _ => hk, fun _ h => by cases h⟩, rfl⟩
  have hS3 : St w0 Z none_ w0 [] [] := St.start w0 Z none_ _ (by
    intro d hd
    cases hd
    )
  refine c_enter Tryd.func128 rfl Tryd.ntmps128 rfl (fun a1 hR2 => ?_)
  refine wp_seq_k (fun K4 hK5 => ?_)
  refine c_region ?_
  refine r_assign (st_listV rfl) hR2 rfl rfl rfl (by decide) (fun a6 hR7 => ?_)
  refine wpList_nil ?_
  refine x_then_n (hK5 _ _ ?_)
  refine wp_seq_k (fun K8 hK9 => ?_)
  refine wp_seq_k (fun K10 hK11 => ?_)
  refine c_region ?_
  refine r_move (st_listV rfl) hR7 rfl rfl rfl (by decide) (fun a12 hR13 => ?_)
  refine r_lenS (st_listV rfl) hR13 rfl rfl rfl rfl Tryd.underlying9 (by decide) (fun a14 hR15 => ?_)
  refine r_move (st_listV rfl) hR15 rfl rfl rfl (by decide) (fun a16 hR17 => ?_)
  refine wpList_nil ?_
  refine x_then_n (hK11 _ _ ?_)
  refine wp_block ?_
  refine wp_loop_ghost (fun gn ga gw => ∃ k : Nat, (Reg ga 48 [(0, .string s), (7, .int .i64 ((s.size : Nat) : Int)), (8, .int .i64 ((k : Nat) : Int))]) ∧ (St w0 Z none_ gw [] []) ∧ (k ≤ s.size) ∧ (nameTo s k) ∧ (s.size - k) = gn) _ ⟨0, (Reg.cons hR17 (Reg.cons hR17 (Reg.cons hR17 (hR17.nil) rfl) rfl) rfl), hS3, by omega, nameTo_zero s, rfl⟩ ?_
  rintro r18 a19 w20 ⟨k, hR21, hS22, hk, hi, hn23⟩
  refine wp_seq_k (fun K24 hK25 => ?_)
  refine c_region ?_
  refine r_lss (st_listV rfl) hR21 rfl rfl rfl rfl (by decide) (fun a26 hR27 => ?_)
  refine wpList_nil ?_
  refine x_then_n (hK25 _ _ ?_)
  refine wp_seq_k (fun K28 hK29 => ?_)
  rcases Decidable.em (((k : Nat) : Int) < ((s.size : Nat) : Int)) with h30 | h30
  · skip
    have hR31 := hR27.setb (d := 9) (b := true) rfl (decide_eq_true h30)
    refine wp_cond_true (hR31.ev rfl) ?_
    refine wp_skip ?_
    refine x_then_n (hK29 _ _ ?_)
    refine wp_seq_k (fun K32 hK33 => ?_)
    refine wp_block ?_
    refine wp_seq_k (fun K34 hK35 => ?_)
    refine c_region ?_
    refine r_move (st_listV rfl) hR31 rfl rfl rfl (by decide) (fun a36 hR37 => ?_)
    refine r_assign (st_listV rfl) hR37 rfl rfl rfl (by decide) (fun a38 hR39 => ?_)
    refine wpList_nil ?_
    refine x_then_n (hK35 _ _ ?_)
    refine wp_seq_k (fun K40 hK41 => ?_)
    refine c_region ?_
    refine r_move (st_listV rfl) hR39 rfl rfl rfl (by decide) (fun a42 hR43 => ?_)
    refine r_move (st_listV rfl) hR43 rfl rfl rfl (by decide) (fun a44 hR45 => ?_)
    refine r_byte (i := k) (st_listV rfl) hR45 rfl rfl rfl rfl Tryd.underlying9 (by omega) (by omega) (by decide) (fun a46 hR47 => ?_)
    refine r_assign (st_listV rfl) hR47 rfl rfl rfl (by decide) (fun a48 hR49 => ?_)
    refine wpList_nil ?_
    refine x_then_n (hK41 _ _ ?_)
    refine wp_seq_k (fun K50 hK51 => ?_)
    refine c_region ?_
    refine r_move (st_listV rfl) hR49 rfl rfl rfl (by decide) (fun a52 hR53 => ?_)
    refine r_int (v := .int .u8 ((orB (byteAt s k) 32 : Nat) : Int)) (st_listV rfl) hR53 rfl rfl rfl rfl (by decide) (run_or8 (a := byteAt s k) (b := 32) (by first | exact byteAt_lt _ _ | omega) (by first | exact byteAt_lt _ _ | omega)) (fun a54 hR55 => ?_)
    refine r_geq (st_listV rfl) hR55 rfl rfl rfl rfl (by decide) (fun a56 hR57 => ?_)
    refine r_move (st_listV rfl) hR57 rfl rfl rfl (by decide) (fun a58 hR59 => ?_)
    refine l_join (fun ga gw => Reg ga 48 [(0, .string s), (3, .int .i64 ((k : Nat) : Int)), (4, .int .u8 ((byteAt s k : Nat) : Int)), (7, .int .i64 ((s.size : Nat) : Int)), (8, .int .i64 ((k : Nat) : Int)), (21, .bool ((decide (97 ≤ ((orB (byteAt s k) 32 : Nat) : Int))) && (decide (((orB (byteAt s k) 32 : Nat) : Int) ≤ 122))))] ∧ St w0 Z none_ gw [] []) 4 ?_ ?_
    · skip
      rcases Decidable.em (97 ≤ ((orB (byteAt s k) 32 : Nat) : Int)) with h60 | h60
      · skip
        have hR61 := hR59.setb (d := 17) (b := true) rfl (decide_eq_true h60)
        refine r_move (st_listV_w (want_t hR61 rfl rfl rfl (by decide) rfl)) hR61 rfl rfl rfl (by decide) (fun a62 hR63 => ?_)
        refine r_int (v := .int .u8 ((orB (byteAt s k) 32 : Nat) : Int)) (st_listV_w (want_t hR63 rfl rfl rfl (by decide) rfl)) hR63 rfl rfl rfl rfl (by decide) (run_or8 (a := byteAt s k) (b := 32) (by first | exact byteAt_lt _ _ | omega) (by first | exact byteAt_lt _ _ | omega)) (fun a64 hR65 => ?_)
        refine r_leq (st_listV_w (want_t hR65 rfl rfl rfl (by decide) rfl)) hR65 rfl rfl rfl rfl (by decide) (fun a66 hR67 => ?_)
        refine r_pick_t (st_listV rfl) hR67 rfl rfl rfl rfl (by decide) (fun a68 hR69 => ?_)
        refine wpList_nil ?_
        exact x_then_n ⟨(Reg.cons hR69 (Reg.cons hR69 (Reg.cons hR69 (Reg.cons hR69 (Reg.cons hR69 (Reg.consb hR69 (hR69.nil) rfl (by first | rfl | (simp only [decide_eq_true h60, if_pos h60, Bool.true_and, Bool.and_true, Bool.false_and, Bool.and_false, Bool.true_or, Bool.or_true, Bool.false_or, Bool.or_false, Bool.not_true, Bool.not_false, if_true, ite_true, ite_false, Bool.false_eq_true]; done) | (simp [h60]; done) | (simp [h60]; omega))) rfl) rfl) rfl) rfl) rfl), hS22⟩
      · skip
        have hR70 := hR59.setb (d := 17) (b := false) rfl (decide_eq_false h60)
        refine s_pass hR70 rfl (by decide) (want_f hR70 rfl rfl rfl (by decide) rfl rfl) (fun a71 hR72 => ?_)
        refine s_pass hR72 rfl (by decide) (want_f hR72 rfl rfl rfl (by decide) rfl rfl) (fun a73 hR74 => ?_)
        refine s_pass hR74 rfl (by decide) (want_f hR74 rfl rfl rfl (by decide) rfl rfl) (fun a75 hR76 => ?_)
        refine r_pick_f (st_listV rfl) hR76 rfl rfl rfl rfl (by decide) (fun a77 hR78 => ?_)
        refine wpList_nil ?_
        exact x_then_n ⟨(Reg.cons hR78 (Reg.cons hR78 (Reg.cons hR78 (Reg.cons hR78 (Reg.cons hR78 (Reg.consb hR78 (hR78.nil) rfl (by first | rfl | (simp only [decide_eq_false h60, if_neg h60, Bool.true_and, Bool.and_true, Bool.false_and, Bool.and_false, Bool.true_or, Bool.or_true, Bool.false_or, Bool.or_false, Bool.not_true, Bool.not_false, if_true, ite_true, ite_false, Bool.false_eq_true]; done) | (simp [h60]; done) | (simp [h60]; omega))) rfl) rfl) rfl) rfl) rfl), hS22⟩
    rintro a79 w80 ⟨hR81, hS82⟩
    refine r_move (st_listV rfl) hR81 rfl rfl rfl (by decide) (fun a83 hR84 => ?_)
    refine l_join (fun ga gw => Reg ga 48 [(0, .string s), (3, .int .i64 ((k : Nat) : Int)), (4, .int .u8 ((byteAt s k : Nat) : Int)), (7, .int .i64 ((s.size : Nat) : Int)), (8, .int .i64 ((k : Nat) : Int)), (25, .bool (((decide (97 ≤ ((orB (byteAt s k) 32 : Nat) : Int))) && (decide (((orB (byteAt s k) 32 : Nat) : Int) ≤ 122))) || (decide (((byteAt s k : Nat) : Int) = 95))))] ∧ St w0 Z none_ gw [] []) 3 ?_ ?_
    · skip
      rcases Bool.eq_false_or_eq_true (((decide (97 ≤ ((orB (byteAt s k) 32 : Nat) : Int))) && (decide (((orB (byteAt s k) 32 : Nat) : Int) ≤ 122)))) with h85 | h85
      · skip
        have h86 := and_tl h85
        have h87 := of_decide_eq_true h86
        have h88 := and_tr h85
        have h89 := of_decide_eq_true h88
        have hR90 := hR84.setb (d := 22) (b := true) rfl h85
        refine s_pass hR90 rfl (by decide) (want_f hR90 rfl rfl rfl (by decide) rfl rfl) (fun a91 hR92 => ?_)
        refine s_pass hR92 rfl (by decide) (want_f hR92 rfl rfl rfl (by decide) rfl rfl) (fun a93 hR94 => ?_)
        refine r_pick_t (st_listV rfl) hR94 rfl rfl rfl rfl (by decide) (fun a95 hR96 => ?_)
        refine wpList_nil ?_
        exact x_then_n ⟨(Reg.cons hR96 (Reg.cons hR96 (Reg.cons hR96 (Reg.cons hR96 (Reg.cons hR96 (Reg.consb hR96 (hR96.nil) rfl (by first | rfl | (simp only [h85, Bool.true_and, Bool.and_true, Bool.false_and, Bool.and_false, Bool.true_or, Bool.or_true, Bool.false_or, Bool.or_false, Bool.not_true, Bool.not_false, if_true, ite_true, ite_false, Bool.false_eq_true]; done) | (simp [h85]; done) | (simp [h85]; omega))) rfl) rfl) rfl) rfl) rfl), hS82⟩
      · skip
        have hq97 := h85
        try simp only [Bool.or_eq_true, Bool.and_eq_true, Bool.not_eq_true', Bool.not_eq_false', decide_eq_true_eq, decide_eq_false_iff_not, Bool.or_eq_false_iff, Bool.and_eq_false_iff] at hq97
        have hR98 := hR84.setb (d := 22) (b := false) rfl h85
        refine r_move (st_listV_w (want_t hR98 rfl rfl rfl (by decide) rfl)) hR98 rfl rfl rfl (by decide) (fun a99 hR100 => ?_)
        refine r_eql (st_listV_w (want_t hR100 rfl rfl rfl (by decide) rfl)) hR100 rfl rfl rfl rfl (by decide) (fun a101 hR102 => ?_)
        refine r_pick_f (st_listV rfl) hR102 rfl rfl rfl rfl (by decide) (fun a103 hR104 => ?_)
        refine wpList_nil ?_
        exact x_then_n ⟨(Reg.cons hR104 (Reg.cons hR104 (Reg.cons hR104 (Reg.cons hR104 (Reg.cons hR104 (Reg.consb hR104 (hR104.nil) rfl (by first | rfl | (simp only [h85, Bool.true_and, Bool.and_true, Bool.false_and, Bool.and_false, Bool.true_or, Bool.or_true, Bool.false_or, Bool.or_false, Bool.not_true, Bool.not_false, if_true, ite_true, ite_false, Bool.false_eq_true]; done) | (simp [h85]; done) | (simp [h85]; omega))) rfl) rfl) rfl) rfl) rfl), hS82⟩
    rintro a105 w106 ⟨hR107, hS108⟩
    refine r_assign (st_listV rfl) hR107 rfl rfl rfl (by decide) (fun a109 hR110 => ?_)
    refine wpList_nil ?_
    refine x_then_n (hK51 _ _ ?_)
    refine wp_seq_k (fun K111 hK112 => ?_)
    refine c_region ?_
    refine r_move (st_listV rfl) hR110 rfl rfl rfl (by decide) (fun a113 hR114 => ?_)
    refine r_not (st_listV rfl) hR114 rfl rfl rfl (by decide) (fun a115 hR116 => ?_)
    refine r_move (st_listV rfl) hR116 rfl rfl rfl (by decide) (fun a117 hR118 => ?_)
    refine l_join (fun ga gw => Reg ga 48 [(0, .string s), (7, .int .i64 ((s.size : Nat) : Int)), (8, .int .i64 ((k : Nat) : Int)), (39, .bool ((!(((decide (97 ≤ ((orB (byteAt s k) 32 : Nat) : Int))) && (decide (((orB (byteAt s k) 32 : Nat) : Int) ≤ 122))) || (decide (((byteAt s k : Nat) : Int) = 95)))) && ((decide (((k : Nat) : Int) = 0)) || ((decide (((byteAt s k : Nat) : Int) < 48)) || (decide (57 < ((byteAt s k : Nat) : Int)))))))] ∧ St w0 Z none_ gw [] []) 11 ?_ ?_
    · skip
      rcases Bool.eq_false_or_eq_true ((((decide (97 ≤ ((orB (byteAt s k) 32 : Nat) : Int))) && (decide (((orB (byteAt s k) 32 : Nat) : Int) ≤ 122))) || (decide (((byteAt s k : Nat) : Int) = 95)))) with h119 | h119
      · skip
        have hq120 := h119
        try simp only [Bool.or_eq_true, Bool.and_eq_true, Bool.not_eq_true', Bool.not_eq_false', decide_eq_true_eq, decide_eq_false_iff_not, Bool.or_eq_false_iff, Bool.and_eq_false_iff] at hq120
        have hR121 := hR118.setb (d := 28) (b := false) rfl (by rw [h119]; rfl)
        refine s_pass hR121 rfl (by decide) (want_f hR121 rfl rfl rfl (by decide) rfl rfl) (fun a122 hR123 => ?_)
        refine s_pass hR123 rfl (by decide) (want_f hR123 rfl rfl rfl (by decide) rfl rfl) (fun a124 hR125 => ?_)
        refine s_pass hR125 rfl (by decide) (want_f hR125 rfl rfl rfl (by decide) rfl rfl) (fun a126 hR127 => ?_)
        refine s_pass hR127 rfl (by decide) (want_u hR127 rfl rfl rfl (by decide) rfl) (fun a128 hR129 => ?_)
        refine s_pass hR129 rfl (by decide) (want_u hR129 rfl rfl rfl (by decide) rfl) (fun a130 hR131 => ?_)
        refine s_pass hR131 rfl (by decide) (want_f hR131 rfl rfl rfl (by decide) rfl rfl) (fun a132 hR133 => ?_)
        refine s_pass hR133 rfl (by decide) (want_f hR133 rfl rfl rfl (by decide) rfl rfl) (fun a134 hR135 => ?_)
        refine s_pass hR135 rfl (by decide) (want_u hR135 rfl rfl rfl (by decide) rfl) (fun a136 hR137 => ?_)
        refine s_pass hR137 rfl (by decide) (want_u hR137 rfl rfl rfl (by decide) rfl) (fun a138 hR139 => ?_)
        refine s_pass hR139 rfl (by decide) (want_f hR139 rfl rfl rfl (by decide) rfl rfl) (fun a140 hR141 => ?_)
        refine r_pick_f (st_listV rfl) hR141 rfl rfl rfl rfl (by decide) (fun a142 hR143 => ?_)
        refine wpList_nil ?_
        exact x_then_n ⟨(Reg.cons hR143 (Reg.cons hR143 (Reg.cons hR143 (Reg.consb hR143 (hR143.nil) rfl (by first | rfl | (simp only [h119, Bool.true_and, Bool.and_true, Bool.false_and, Bool.and_false, Bool.true_or, Bool.or_true, Bool.false_or, Bool.or_false, Bool.not_true, Bool.not_false, if_true, ite_true, ite_false, Bool.false_eq_true]; done) | (simp [h119]; done) | (simp [h119]; omega))) rfl) rfl) rfl), hS108⟩
      · skip
        have h144 := or_fl h119
        have hq145 := h144
        try simp only [Bool.or_eq_true, Bool.and_eq_true, Bool.not_eq_true', Bool.not_eq_false', decide_eq_true_eq, decide_eq_false_iff_not, Bool.or_eq_false_iff, Bool.and_eq_false_iff] at hq145
        have h146 := or_fr h119
        have h147 := of_decide_eq_false h146
        have hR148 := hR118.setb (d := 28) (b := true) rfl (by rw [h119]; rfl)
        refine r_move (st_listV_w (want_t hR148 rfl rfl rfl (by decide) rfl)) hR148 rfl rfl rfl (by decide) (fun a149 hR150 => ?_)
        refine r_eql (st_listV_w (want_t hR150 rfl rfl rfl (by decide) rfl)) hR150 rfl rfl rfl rfl (by decide) (fun a151 hR152 => ?_)
        refine r_move (st_listV_w (want_t hR152 rfl rfl rfl (by decide) rfl)) hR152 rfl rfl rfl (by decide) (fun a153 hR154 => ?_)
        rcases Decidable.em (((k : Nat) : Int) = 0) with h155 | h155
        · skip
          have hR156 := hR154.setb (d := 31) (b := true) rfl (decide_eq_true h155)
          refine s_pass hR156 rfl (by decide) (want_f hR156 rfl rfl rfl (by decide) rfl rfl) (fun a157 hR158 => ?_)
          refine s_pass hR158 rfl (by decide) (want_f hR158 rfl rfl rfl (by decide) rfl rfl) (fun a159 hR160 => ?_)
          refine r_pick_t (st_listV_w (want_t hR160 rfl rfl rfl (by decide) rfl)) hR160 rfl rfl rfl rfl (by decide) (fun a161 hR162 => ?_)
          refine r_move (st_listV_w (want_t hR162 rfl rfl rfl (by decide) rfl)) hR162 rfl rfl rfl (by decide) (fun a163 hR164 => ?_)
          refine s_pass hR164 rfl (by decide) (want_f hR164 rfl rfl rfl (by decide) rfl rfl) (fun a165 hR166 => ?_)
          refine s_pass hR166 rfl (by decide) (want_f hR166 rfl rfl rfl (by decide) rfl rfl) (fun a167 hR168 => ?_)
          refine r_pick_t (st_listV_w (want_t hR168 rfl rfl rfl (by decide) rfl)) hR168 rfl rfl rfl rfl (by decide) (fun a169 hR170 => ?_)
          refine r_pick_t (st_listV rfl) hR170 rfl rfl rfl rfl (by decide) (fun a171 hR172 => ?_)
          refine wpList_nil ?_
          exact x_then_n ⟨(Reg.cons hR172 (Reg.cons hR172 (Reg.cons hR172 (Reg.consb hR172 (hR172.nil) rfl (by first | rfl | (simp only [h119, decide_eq_true h155, if_pos h155, Bool.true_and, Bool.and_true, Bool.false_and, Bool.and_false, Bool.true_or, Bool.or_true, Bool.false_or, Bool.or_false, Bool.not_true, Bool.not_false, if_true, ite_true, ite_false, Bool.false_eq_true]; done) | (simp [h119, h155]; done) | (simp [h119, h155]; omega))) rfl) rfl) rfl), hS108⟩
        · skip
          have hR173 := hR154.setb (d := 31) (b := false) rfl (decide_eq_false h155)
          refine r_move (st_listV_w (want_t hR173 rfl rfl rfl (by decide) rfl)) hR173 rfl rfl rfl (by decide) (fun a174 hR175 => ?_)
          refine r_lss (st_listV_w (want_t hR175 rfl rfl rfl (by decide) rfl)) hR175 rfl rfl rfl rfl (by decide) (fun a176 hR177 => ?_)
          refine r_pick_f (st_listV_w (want_t hR177 rfl rfl rfl (by decide) rfl)) hR177 rfl rfl rfl rfl (by decide) (fun a178 hR179 => ?_)
          refine r_move (st_listV_w (want_t hR179 rfl rfl rfl (by decide) rfl)) hR179 rfl rfl rfl (by decide) (fun a180 hR181 => ?_)
          rcases Decidable.em (((byteAt s k : Nat) : Int) < 48) with h182 | h182
          · skip
            have hR183 := hR181.setb (d := 35) (b := true) rfl (decide_eq_true h182)
            refine s_pass hR183 rfl (by decide) (want_f hR183 rfl rfl rfl (by decide) rfl rfl) (fun a184 hR185 => ?_)
            refine s_pass hR185 rfl (by decide) (want_f hR185 rfl rfl rfl (by decide) rfl rfl) (fun a186 hR187 => ?_)
            refine r_pick_t (st_listV_w (want_t hR187 rfl rfl rfl (by decide) rfl)) hR187 rfl rfl rfl rfl (by decide) (fun a188 hR189 => ?_)
            refine r_pick_t (st_listV rfl) hR189 rfl rfl rfl rfl (by decide) (fun a190 hR191 => ?_)
            refine wpList_nil ?_
            exact x_then_n ⟨(Reg.cons hR191 (Reg.cons hR191 (Reg.cons hR191 (Reg.consb hR191 (hR191.nil) rfl (by first | rfl | (simp only [h119, decide_eq_false h155, if_neg h155, decide_eq_true h182, if_pos h182, Bool.true_and, Bool.and_true, Bool.false_and, Bool.and_false, Bool.true_or, Bool.or_true, Bool.false_or, Bool.or_false, Bool.not_true, Bool.not_false, if_true, ite_true, ite_false, Bool.false_eq_true]; done) | (simp [h119, h155, h182]; done) | (simp [h119, h155, h182]; omega))) rfl) rfl) rfl), hS108⟩
          · skip
            have hR192 := hR181.setb (d := 35) (b := false) rfl (decide_eq_false h182)
            refine r_move (st_listV_w (want_t hR192 rfl rfl rfl (by decide) rfl)) hR192 rfl rfl rfl (by decide) (fun a193 hR194 => ?_)
            refine r_gtr (st_listV_w (want_t hR194 rfl rfl rfl (by decide) rfl)) hR194 rfl rfl rfl rfl (by decide) (fun a195 hR196 => ?_)
            refine r_pick_f (st_listV_w (want_t hR196 rfl rfl rfl (by decide) rfl)) hR196 rfl rfl rfl rfl (by decide) (fun a197 hR198 => ?_)
            refine r_pick_t (st_listV rfl) hR198 rfl rfl rfl rfl (by decide) (fun a199 hR200 => ?_)
            refine wpList_nil ?_
            exact x_then_n ⟨(Reg.cons hR200 (Reg.cons hR200 (Reg.cons hR200 (Reg.consb hR200 (hR200.nil) rfl (by first | rfl | (simp only [h119, decide_eq_false h155, if_neg h155, decide_eq_false h182, if_neg h182, Bool.true_and, Bool.and_true, Bool.false_and, Bool.and_false, Bool.true_or, Bool.or_true, Bool.false_or, Bool.or_false, Bool.not_true, Bool.not_false, if_true, ite_true, ite_false, Bool.false_eq_true]; done) | (simp [h119, h155, h182]; done) | (simp [h119, h155, h182]; omega))) rfl) rfl) rfl), hS108⟩
    rintro a201 w202 ⟨hR203, hS204⟩
    refine wpList_nil ?_
    refine x_then_n (hK112 _ _ ?_)
    rcases Bool.eq_false_or_eq_true (((!(((decide (97 ≤ ((orB (byteAt s k) 32 : Nat) : Int))) && (decide (((orB (byteAt s k) 32 : Nat) : Int) ≤ 122))) || (decide (((byteAt s k : Nat) : Int) = 95)))) && ((decide (((k : Nat) : Int) = 0)) || ((decide (((byteAt s k : Nat) : Int) < 48)) || (decide (57 < ((byteAt s k : Nat) : Int))))))) with h205 | h205
    · skip
      have h206 := and_tl h205
      have h207 := not_t h206
      have h208 := or_fl h207
      have hq209 := h208
      try simp only [Bool.or_eq_true, Bool.and_eq_true, Bool.not_eq_true', Bool.not_eq_false', decide_eq_true_eq, decide_eq_false_iff_not, Bool.or_eq_false_iff, Bool.and_eq_false_iff] at hq209
      have h210 := or_fr h207
      have h211 := of_decide_eq_false h210
      have h212 := and_tr h205
      have hq213 := h212
      try simp only [Bool.or_eq_true, Bool.and_eq_true, Bool.not_eq_true', Bool.not_eq_false', decide_eq_true_eq, decide_eq_false_iff_not, Bool.or_eq_false_iff, Bool.and_eq_false_iff] at hq213
      have hR214 := hR203.setb (d := 39) (b := true) rfl h205
      refine wp_cond_true (hR214.ev rfl) ?_
      refine wp_seq_k (fun K215 hK216 => ?_)
      refine c_region ?_
      refine r_assign (st_listV rfl) hR214 rfl rfl rfl (by decide) (fun a217 hR218 => ?_)
      refine wpList_nil ?_
      refine x_then_n (hK216 _ _ ?_)
      refine wp_ret ?_
      refine x_block_r ?_
      refine x_then_r ?_
      refine x_then_r ?_
      refine x_block_r ?_
      refine x_then_r ?_
      refine e_ret1 hR218 rfl rfl ?_
      refine ⟨?_, hS204.fr⟩
      exact congrArg Ending.returned (ret_b (by first | exact (name_bad (k := k) (by omega) (by have q0 := h30; (try simp at q0); have q1 := h205; (try simp at q1); have q2 := h211; (try simp at q2);  unfold okC; omega)).symm | (rw [name_end hi (by omega)]; done) | (rw [name_end hi (by omega)]; simp [h30, h205, h211])))
    · skip
      have hq219 := h205
      try simp only [Bool.or_eq_true, Bool.and_eq_true, Bool.not_eq_true', Bool.not_eq_false', decide_eq_true_eq, decide_eq_false_iff_not, Bool.or_eq_false_iff, Bool.and_eq_false_iff] at hq219
      have hR220 := hR203.setb (d := 39) (b := false) rfl h205
      refine wp_cond_false (hR220.ev rfl) ?_
      refine wp_skip ?_
      refine x_block_n ?_
      refine x_then_n (hK33 _ _ ?_)
      refine c_region ?_
      refine r_add (z := ((k + 1 : Nat) : Int)) (st_listV rfl) hR220 rfl rfl rfl rfl (by decide) (by omega) (by omega) (by omega) (fun a221 hR222 => ?_)
      refine r_move (st_listV rfl) hR222 rfl rfl rfl (by decide) (fun a223 hR224 => ?_)
      refine wpList_nil ?_
      exact ⟨_, by omega, k + 1, (Reg.cons hR224 (Reg.cons hR224 (Reg.cons hR224 (hR224.nil) rfl) rfl) rfl), hS204, by omega, nameTo_step hi (by have q0 := h30; (try simp at q0); have q1 := h205; (try simp at q1);  unfold okC; omega), rfl⟩
  · skip
    have hR225 := hR27.setb (d := 9) (b := false) rfl (decide_eq_false h30)
    refine wp_cond_false (hR225.ev rfl) ?_
    refine wp_exit ?_
    refine x_then_e ?_
    refine x_then_e ?_
    refine x_block_eq ?_
    refine x_then_n (hK9 _ _ ?_)
    refine wp_seq_k (fun K226 hK227 => ?_)
    refine c_region ?_
    refine r_move (st_listV rfl) hR225 rfl rfl rfl (by decide) (fun a228 hR229 => ?_)
    refine r_neqS (st_listV rfl) hR229 rfl rfl rfl rfl (by decide) (fun a230 hR231 => ?_)
    refine r_move (st_listV rfl) hR231 rfl rfl rfl (by decide) (fun a232 hR233 => ?_)
    refine l_join (fun ga gw => Reg ga 48 [(47, .bool ((!(decide (s = (⟨#[]⟩ : ByteArray)))) && (decide (((s.size : Nat) : Int) ≤ 16))))] ∧ St w0 Z none_ gw [] []) 4 ?_ ?_
    · skip
      rcases Decidable.em (s = (⟨#[]⟩ : ByteArray)) with h234 | h234
      · skip
        have hR235 := hR233.setb (d := 43) (b := false) rfl (by rw [(decide_eq_true h234)]; rfl)
        refine s_pass hR235 rfl (by decide) (want_f hR235 rfl rfl rfl (by decide) rfl rfl) (fun a236 hR237 => ?_)
        refine s_pass hR237 rfl (by decide) (want_f hR237 rfl rfl rfl (by decide) rfl rfl) (fun a238 hR239 => ?_)
        refine s_pass hR239 rfl (by decide) (want_f hR239 rfl rfl rfl (by decide) rfl rfl) (fun a240 hR241 => ?_)
        refine r_pick_f (st_listV rfl) hR241 rfl rfl rfl rfl (by decide) (fun a242 hR243 => ?_)
        refine wpList_nil ?_
        exact x_then_n ⟨(Reg.consb hR243 (hR243.nil) rfl (by first | rfl | (simp only [decide_eq_true h234, if_pos h234, Bool.true_and, Bool.and_true, Bool.false_and, Bool.and_false, Bool.true_or, Bool.or_true, Bool.false_or, Bool.or_false, Bool.not_true, Bool.not_false, if_true, ite_true, ite_false, Bool.false_eq_true]; done) | (simp [h234]; done) | (simp [h234]; omega))), hS22⟩
      · skip
        have hR244 := hR233.setb (d := 43) (b := true) rfl (by rw [(decide_eq_false h234)]; rfl)
        refine r_move (st_listV_w (want_t hR244 rfl rfl rfl (by decide) rfl)) hR244 rfl rfl rfl (by decide) (fun a245 hR246 => ?_)
        refine r_lenS (st_listV_w (want_t hR246 rfl rfl rfl (by decide) rfl)) hR246 rfl rfl rfl rfl Tryd.underlying9 (by decide) (fun a247 hR248 => ?_)
        refine r_leq (st_listV_w (want_t hR248 rfl rfl rfl (by decide) rfl)) hR248 rfl rfl rfl rfl (by decide) (fun a249 hR250 => ?_)
        refine r_pick_t (st_listV rfl) hR250 rfl rfl rfl rfl (by decide) (fun a251 hR252 => ?_)
        refine wpList_nil ?_
        exact x_then_n ⟨(Reg.consb hR252 (hR252.nil) rfl (by first | rfl | (simp only [decide_eq_false h234, if_neg h234, Bool.true_and, Bool.and_true, Bool.false_and, Bool.and_false, Bool.true_or, Bool.or_true, Bool.false_or, Bool.or_false, Bool.not_true, Bool.not_false, if_true, ite_true, ite_false, Bool.false_eq_true]; done) | (simp [h234]; done) | (simp [h234]; omega))), hS22⟩
    rintro a253 w254 ⟨hR255, hS256⟩
    refine r_assign (st_listV rfl) hR255 rfl rfl rfl (by decide) (fun a257 hR258 => ?_)
    refine wpList_nil ?_
    refine x_then_n (hK227 _ _ ?_)
    refine wp_ret ?_
    refine e_ret1 hR258 rfl rfl ?_
    refine ⟨?_, hS256.fr⟩
    exact congrArg Ending.returned (ret_b (by first | exact (name_bad (k := k) (by omega) (by have q0 := h30; (try simp at q0);  unfold okC; omega)).symm | (rw [name_end hi (by omega)]; done) | (rw [name_end hi (by omega)]; simp [h30])))
end Go.Proofs.YtobgdeffhdefeaaDoor
