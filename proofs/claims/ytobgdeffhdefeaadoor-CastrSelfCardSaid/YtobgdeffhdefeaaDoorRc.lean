import Derived.Test.YtobgdeffhdefeaaDoorRb
/- Contracts of functions, one theorem each: what the call returns, and that nothing old is changed. Printed by gen.py. -/
namespace Go.Proofs.YtobgdeffhdefeaaDoor
open Go Go.RowKit
set_option linter.unusedSimpArgs false
set_option linter.unusedVariables false

set_option maxRecDepth 100000 in
set_option maxHeartbeats 1000000 in
theorem rwhole_calls (w0 : World) (Z : Nat → Prop) (hZ : ∀ k, Z k → k < w0.heap.size) (tA : Option Addr) (tc : Nat) (t : List Nd) (ht : (dRow 4 tA t.length tc (encNs t)).φ w0 Z) (hl : t.length ≤ 1000000) (hsm : sml t) :
    Calls Tryd.prog 46 [.slice tA t.length tc].toArray w0 (fun e w' => e = .returned (.bool (measB t)) ∧ Fr none_ w0 w') := by
  have hstart : ∀ k, Z k → imm Z w0 [] w0 k ∧ w0.heap[k]? = w0.heap[k]? := fun k hk => ⟨⟨hZ k hk, fun _ => hk, fun _ h => by cases h⟩, rfl⟩
  have hS3 : St w0 Z none_ w0 [] [dRow 4 tA t.length tc (encNs t)] := St.start w0 Z none_ _ (by
    intro d hd
    simp only [List.mem_cons, List.not_mem_nil, or_false] at hd
    rcases hd with rfl
    · exact Dat.mono _ _ _ _ _ ht hstart
    )
  refine c_enter Tryd.func46 rfl Tryd.ntmps46 rfl (fun a1 hR2 => ?_)
  refine wp_seq_k (fun K4 hK5 => ?_)
  refine c_region ?_
  refine r_assign (st_listV rfl) hR2 rfl rfl rfl (by decide) (fun a6 hR7 => ?_)
  refine wpList_nil ?_
  refine x_then_n (hK5 _ _ ?_)
  refine wp_seq_k (fun K8 hK9 => ?_)
  refine c_region ?_
  refine r_assign (st_listV rfl) hR7 rfl rfl rfl (by decide) (fun a10 hR11 => ?_)
  refine wpList_nil ?_
  refine x_then_n (hK9 _ _ ?_)
  refine wp_seq_k (fun K12 hK13 => ?_)
  refine wp_seq_k (fun K14 hK15 => ?_)
  refine c_region ?_
  refine r_assign (st_listV rfl) hR11 rfl rfl rfl (by decide) (fun a16 hR17 => ?_)
  refine wpList_nil ?_
  refine x_then_n (hK15 _ _ ?_)
  refine wp_block ?_
  refine wp_loop_ghost (fun gn ga gw => ∃ k : Nat, ∃ st : List T, (Reg ga 36 [(0, .slice tA t.length tc), (4, .int .i64 ((k : Nat) : Int)), (3, .int .i64 ((st.length : Nat) : Int))]) ∧ (St w0 Z none_ gw [] [dRow 4 tA t.length tc (encNs t)]) ∧ (k ≤ t.length) ∧ (scanT [] (t.take k) = some st) ∧ (t.length - k) = gn) _ ⟨0, [], (Reg.cons hR17 (Reg.cons hR17 (Reg.cons hR17 (hR17.nil) rfl) rfl) rfl), hS3, by omega, rfl, rfl⟩ ?_
  rintro r18 a19 w20 ⟨k, st, hR21, hS22, hk, hsc, hn23⟩
  have hfl := scan_flats hsc hk
  have hsl := flats_len_ge st
  have hbl := bindL_le (nth t k)
  refine wp_seq_k (fun K24 hK25 => ?_)
  refine wp_seq_k (fun K26 hK27 => ?_)
  refine c_region ?_
  refine r_move (st_listV rfl) hR21 rfl rfl rfl (by decide) (fun a28 hR29 => ?_)
  refine r_move (st_listV rfl) hR29 rfl rfl rfl (by decide) (fun a30 hR31 => ?_)
  refine r_len (st_listV rfl) hR31 rfl rfl rfl rfl Tryd.underlying22 (by decide) (fun a32 hR33 => ?_)
  refine r_lss (st_listV rfl) hR33 rfl rfl rfl rfl (by decide) (fun a34 hR35 => ?_)
  refine wpList_nil ?_
  refine x_then_n (hK27 _ _ ?_)
  rcases Decidable.em (((k : Nat) : Int) < ((t.length : Nat) : Int)) with h36 | h36
  · skip
    have hR37 := hR35.setb (d := 10) (b := true) rfl (decide_eq_true h36)
    refine wp_cond_true (hR37.ev rfl) ?_
    refine wp_skip ?_
    refine x_then_n (hK25 _ _ ?_)
    refine wp_seq_k (fun K38 hK39 => ?_)
    refine wp_block ?_
    refine wp_seq_k (fun K40 hK41 => ?_)
    refine c_region ?_
    refine r_move (st_listV rfl) hR37 rfl rfl rfl (by decide) (fun a42 hR43 => ?_)
    refine r_move (st_listV rfl) hR43 rfl rfl rfl (by decide) (fun a44 hR45 => ?_)
    refine m_index (i := k) (j := k * 4) (st_listV rfl) hR45 rfl rfl rfl rfl Tryd.underlying22 sz32 (by omega) (by omega) (nds_elem (t := t) (k := k) (hS22.row (i := 0) rfl).2 (by omega)).some_ rfl (by decide) (fun a46 hR47 => ?_)
    refine m_loadEN (st_listV rfl) hR47 rfl rfl rfl (nds_elem (t := t) (k := k) (hS22.row (i := 0) rfl).2 (by omega)) Tryd.underlying32 rfl sz32 (by decide) (fun a48 hR49 => ?_)
    have hS50 : St w0 Z none_ w20 [] [dRow 4 tA t.length tc (encNs t)] := hS22
    refine k_call (xs := [.tmp 17]) (st_list rfl) hR49 rfl rfl rfl (by decide) ok56 (rbinds_calls _ (imm Z w0 [] _) (fun _ h => h.1) (nth t k) (hsm _ (by omega))) ?_
    rintro e60 w52 ⟨A56, c57, rfl, hf55, hd58⟩
    have hS61 := hS50.below hf55.below
    have hS62 := hS61.data (dRow 1 A56 ((bindL (nth t k)).length) c57 (encIs (bindL (nth t k)))) ⟨hd58.1, hd58.2.mono (fun _ hk => ⟨nxt_imm hS50 hk, rfl⟩)⟩
    refine ⟨_, rfl, fun a51 hR53 => ?_⟩
    refine r_move (st_listV rfl) hR53 rfl rfl rfl (by decide) (fun a63 hR64 => ?_)
    refine r_extract (st_listV rfl) hR64 rfl rfl rfl rfl (by decide) (fun a65 hR66 => ?_)
    refine r_extract (st_listV rfl) hR66 rfl rfl rfl rfl (by decide) (fun a67 hR68 => ?_)
    refine r_assign (st_listV rfl) hR68 rfl rfl rfl (by decide) (fun a69 hR70 => ?_)
    refine r_assign (st_listV rfl) hR70 rfl rfl rfl (by decide) (fun a71 hR72 => ?_)
    refine wpList_nil ?_
    refine x_then_n (hK41 _ _ ?_)
    refine wp_seq_k (fun K73 hK74 => ?_)
    refine wp_seq_k (fun K75 hK76 => ?_)
    refine c_region ?_
    refine r_move (st_listV rfl) hR72 rfl rfl rfl (by decide) (fun a77 hR78 => ?_)
    refine r_not (st_listV rfl) hR78 rfl rfl rfl (by decide) (fun a79 hR80 => ?_)
    refine r_move (st_listV rfl) hR80 rfl rfl rfl (by decide) (fun a81 hR82 => ?_)
    refine l_join (fun ga gw => Reg ga 36 [(0, .slice tA t.length tc), (3, .int .i64 ((st.length : Nat) : Int)), (4, .int .i64 ((k : Nat) : Int)), (5, .slice A56 ((bindL (nth t k)).length) c57), (28, .bool ((!(right (nth t k))) || (decide (((st.length : Nat) : Int) < (((bindL (nth t k)).length : Nat) : Int)))))] ∧ St w0 Z none_ gw [] [dRow 4 tA t.length tc (encNs t), dRow 1 A56 ((bindL (nth t k)).length) c57 (encIs (bindL (nth t k)))]) 5 ?_ ?_
    · skip
      rcases Bool.eq_false_or_eq_true (right (nth t k)) with h83 | h83
      · skip
        have hR84 := hR82.setb (d := 23) (b := false) rfl (by rw [h83]; rfl)
        refine r_move (st_listV_w (want_t hR84 rfl rfl rfl (by decide) rfl)) hR84 rfl rfl rfl (by decide) (fun a85 hR86 => ?_)
        refine r_len (st_listV_w (want_t hR86 rfl rfl rfl (by decide) rfl)) hR86 rfl rfl rfl rfl Tryd.underlying66 (by decide) (fun a87 hR88 => ?_)
        refine r_move (st_listV_w (want_t hR88 rfl rfl rfl (by decide) rfl)) hR88 rfl rfl rfl (by decide) (fun a89 hR90 => ?_)
        refine r_gtr (st_listV_w (want_t hR90 rfl rfl rfl (by decide) rfl)) hR90 rfl rfl rfl rfl (by decide) (fun a91 hR92 => ?_)
        refine r_pick_f (st_listV rfl) hR92 rfl rfl rfl rfl (by decide) (fun a93 hR94 => ?_)
        refine wpList_nil ?_
        exact x_then_n ⟨(Reg.cons hR94 (Reg.cons hR94 (Reg.cons hR94 (Reg.cons hR94 (Reg.consb hR94 (hR94.nil) rfl (by first | rfl | (simp only [h83, Bool.true_and, Bool.and_true, Bool.false_and, Bool.and_false, Bool.true_or, Bool.or_true, Bool.false_or, Bool.or_false, Bool.not_true, Bool.not_false, if_true, ite_true, ite_false, Bool.false_eq_true]; done) | (simp [h83]; done) | (simp [h83]; omega))) rfl) rfl) rfl) rfl), hS62⟩
      · skip
        have hR95 := hR82.setb (d := 23) (b := true) rfl (by rw [h83]; rfl)
        refine s_pass hR95 rfl (by decide) (want_f hR95 rfl rfl rfl (by decide) rfl rfl) (fun a96 hR97 => ?_)
        refine s_pass hR97 rfl (by decide) (want_f hR97 rfl rfl rfl (by decide) rfl rfl) (fun a98 hR99 => ?_)
        refine s_pass hR99 rfl (by decide) (want_f hR99 rfl rfl rfl (by decide) rfl rfl) (fun a100 hR101 => ?_)
        refine s_pass hR101 rfl (by decide) (want_f hR101 rfl rfl rfl (by decide) rfl rfl) (fun a102 hR103 => ?_)
        refine r_pick_t (st_listV rfl) hR103 rfl rfl rfl rfl (by decide) (fun a104 hR105 => ?_)
        refine wpList_nil ?_
        exact x_then_n ⟨(Reg.cons hR105 (Reg.cons hR105 (Reg.cons hR105 (Reg.cons hR105 (Reg.consb hR105 (hR105.nil) rfl (by first | rfl | (simp only [h83, Bool.true_and, Bool.and_true, Bool.false_and, Bool.and_false, Bool.true_or, Bool.or_true, Bool.false_or, Bool.or_false, Bool.not_true, Bool.not_false, if_true, ite_true, ite_false, Bool.false_eq_true]; done) | (simp [h83]; done) | (simp [h83]; omega))) rfl) rfl) rfl) rfl), hS62⟩
    rintro a106 w107 ⟨hR108, hS109⟩
    refine wpList_nil ?_
    refine x_then_n (hK76 _ _ ?_)
    rcases Bool.eq_false_or_eq_true (((!(right (nth t k))) || (decide (((st.length : Nat) : Int) < (((bindL (nth t k)).length : Nat) : Int))))) with h110 | h110
    · skip
      have hq111 := h110
      try simp only [Bool.or_eq_true, Bool.and_eq_true, Bool.not_eq_true', Bool.not_eq_false', decide_eq_true_eq, decide_eq_false_iff_not, Bool.or_eq_false_iff, Bool.and_eq_false_iff] at hq111
      have hR112 := hR108.setb (d := 28) (b := true) rfl h110
      refine wp_cond_true (hR112.ev rfl) ?_
      refine wp_seq_k (fun K113 hK114 => ?_)
      refine c_region ?_
      refine r_assign (st_listV rfl) hR112 rfl rfl rfl (by decide) (fun a115 hR116 => ?_)
      refine wpList_nil ?_
      refine x_then_n (hK114 _ _ ?_)
      refine wp_ret ?_
      refine x_then_r ?_
      refine x_block_r ?_
      refine x_then_r ?_
      refine x_then_r ?_
      refine x_block_r ?_
      refine x_then_r ?_
      refine e_ret1 hR116 rfl rfl ?_
      refine ⟨?_, hS109.fr⟩
      exact congrArg Ending.returned (ret_b (by exact (whole_no hsc (by omega) hq111).symm))
    · skip
      have h117 := or_fl h110
      have h118 := not_f h117
      have h119 := or_fr h110
      have h120 := of_decide_eq_false h119
      have hbm := bindL_many (n := nth t k) (by assumption)
      have hR121 := hR108.setb (d := 28) (b := false) rfl h110
      refine wp_cond_false (hR121.ev rfl) ?_
      refine wp_skip ?_
      refine x_then_n (hK74 _ _ ?_)
      refine c_region ?_
      refine r_move (st_listV rfl) hR121 rfl rfl rfl (by decide) (fun a122 hR123 => ?_)
      refine r_move (st_listV rfl) hR123 rfl rfl rfl (by decide) (fun a124 hR125 => ?_)
      refine r_len (st_listV rfl) hR125 rfl rfl rfl rfl Tryd.underlying66 (by decide) (fun a126 hR127 => ?_)
      refine r_sub (z := (((st.length : Nat) : Int) - (((bindL (nth t k)).length : Nat) : Int))) (st_listV rfl) hR127 rfl rfl rfl rfl (by decide) (by omega) (by omega) (by omega) (fun a128 hR129 => ?_)
      refine r_add (z := (((st.length : Nat) : Int) - (((bindL (nth t k)).length : Nat) : Int) + 1)) (st_listV rfl) hR129 rfl rfl rfl rfl (by decide) (by omega) (by omega) (by omega) (fun a130 hR131 => ?_)
      refine r_assign (st_listV rfl) hR131 rfl rfl rfl (by decide) (fun a132 hR133 => ?_)
      refine wpList_nil ?_
      refine x_block_n ?_
      refine x_then_n (hK39 _ _ ?_)
      refine c_region ?_
      refine r_move (st_listV rfl) hR133 rfl rfl rfl (by decide) (fun a134 hR135 => ?_)
      refine r_add (z := ((k + 1 : Nat) : Int)) (st_listV rfl) hR135 rfl rfl rfl rfl (by decide) (by omega) (by omega) (by omega) (fun a136 hR137 => ?_)
      refine r_assign (st_listV rfl) hR137 rfl rfl rfl (by decide) (fun a138 hR139 => ?_)
      refine wpList_nil ?_
      obtain ⟨st', hp, hpl⟩ := push_some (st := st) (n := nth t k) (by assumption) (by omega)
      have hS140 := hS109.forget 1
      exact ⟨_, by omega, k + 1, st', (Reg.cons hR139 (Reg.cons hR139 (Reg.consi hR139 (hR139.nil) rfl (by rw [hpl]; omega)) rfl) rfl), hS140, by omega, (scan_step hsc (by omega)).trans hp, rfl⟩
  · skip
    have hR141 := hR35.setb (d := 10) (b := false) rfl (decide_eq_false h36)
    refine wp_cond_false (hR141.ev rfl) ?_
    refine wp_exit ?_
    refine x_then_e ?_
    refine x_then_e ?_
    refine x_block_eq ?_
    refine x_then_n (hK13 _ _ ?_)
    refine wp_seq_k (fun K142 hK143 => ?_)
    refine c_region ?_
    refine r_move (st_listV rfl) hR141 rfl rfl rfl (by decide) (fun a144 hR145 => ?_)
    refine r_eql (st_listV rfl) hR145 rfl rfl rfl rfl (by decide) (fun a146 hR147 => ?_)
    refine r_assign (st_listV rfl) hR147 rfl rfl rfl (by decide) (fun a148 hR149 => ?_)
    refine wpList_nil ?_
    refine x_then_n (hK143 _ _ ?_)
    refine wp_ret ?_
    refine e_ret1 hR149 rfl rfl ?_
    refine ⟨?_, hS22.fr⟩
    exact congrArg Ending.returned (ret_b (by first | (rw [measB_end (by rw [← hsc, List.take_of_length_le (by omega)])]; done) | (rw [measB_end (by rw [← hsc, List.take_of_length_le (by omega)])]; simp; done)))

set_option maxRecDepth 100000 in
set_option maxHeartbeats 1000000 in
theorem rdeeper_calls (w0 : World) (Z : Nat → Prop) (hZ : ∀ k, Z k → k < w0.heap.size) (tA : Option Addr) (tc : Nat) (t : List Nd) (ht : (dRow 4 tA t.length tc (encNs t)).φ w0 Z) (hl : t.length ≤ 4000) (hsm : sml t) (hb : measB t = true) :
    Calls Tryd.prog 47 [.slice tA t.length tc].toArray w0 (fun e w' => e = .returned (.bool (deepB t)) ∧ Fr none_ w0 w') := by
  have hstart : ∀ k, Z k → imm Z w0 [] w0 k ∧ w0.heap[k]? = w0.heap[k]? := fun k hk => ⟨⟨hZ k hk, fun _ => hk, fun _ h => by cases h⟩, rfl⟩
  have hS3 : St w0 Z none_ w0 [] [dRow 4 tA t.length tc (encNs t)] := St.start w0 Z none_ _ (by
    intro d hd
    simp only [List.mem_cons, List.not_mem_nil, or_false] at hd
    rcases hd with rfl
    · exact Dat.mono _ _ _ _ _ ht hstart
    )
  refine c_enter Tryd.func47 rfl Tryd.ntmps47 rfl (fun a1 hR2 => ?_)
  refine wp_seq_k (fun K4 hK5 => ?_)
  refine c_region ?_
  refine r_assign (st_listV rfl) hR2 rfl rfl rfl (by decide) (fun a6 hR7 => ?_)
  refine wpList_nil ?_
  refine x_then_n (hK5 _ _ ?_)
  refine wp_seq_k (fun K8 hK9 => ?_)
  refine c_region ?_
  refine m_buildSlice (ps := []) (cs := []) (st_listV rfl) hR7 hS3 rfl rfl rfl Tryd.underlying66 zi3 rfl rfl (by kernel_rfl) rfl (by decide) (fun a10 w11 g12 hR13 hS14 => ?_)
  refine r_assign (st_listV rfl) hR13 rfl rfl rfl (by decide) (fun a15 hR16 => ?_)
  refine wpList_nil ?_
  refine x_then_n (hK9 _ _ ?_)
  refine wp_seq_k (fun K17 hK18 => ?_)
  refine wp_seq_k (fun K19 hK20 => ?_)
  refine c_region ?_
  refine r_assign (st_listV rfl) hR16 rfl rfl rfl (by decide) (fun a21 hR22 => ?_)
  refine wpList_nil ?_
  refine x_then_n (hK20 _ _ ?_)
  refine wp_block ?_
  refine wp_loop_ghost (fun gn ga gw => ∃ k : Nat, ∃ st : List T, ∃ Al : Option Addr, ∃ cl : Nat, (Reg ga 51 [(0, .slice tA t.length tc), (4, .int .i64 ((k : Nat) : Int)), (3, .slice Al ((dl st).length) cl)]) ∧ (St w0 Z none_ gw [.row Al ((dl st).length) cl 3 1 (encIs (dl st))] [dRow 4 tA t.length tc (encNs t)]) ∧ (k ≤ t.length) ∧ (scanT [] (t.take k) = some st) ∧ (shallow st) ∧ (t.length - k) = gn) _ ⟨0, [], (some ⟨g12, 0, none⟩), 0, (Reg.cons hR22 (Reg.cons hR22 (Reg.cons hR22 (hR22.nil) rfl) rfl) rfl), hS14, by omega, rfl, (fun _ h => by cases h), rfl⟩ ?_
  rintro r23 a24 w25 ⟨k, st, Al, cl, hR26, hS27, hk, hsc, hsh, hn28⟩
  have hfl := scan_flats hsc hk
  have hsl := flats_len_ge st
  have hdl := dl_length st
  refine wp_seq_k (fun K29 hK30 => ?_)
  refine wp_seq_k (fun K31 hK32 => ?_)
  refine c_region ?_
  refine r_move (st_listV rfl) hR26 rfl rfl rfl (by decide) (fun a33 hR34 => ?_)
  refine r_move (st_listV rfl) hR34 rfl rfl rfl (by decide) (fun a35 hR36 => ?_)
  refine r_len (st_listV rfl) hR36 rfl rfl rfl rfl Tryd.underlying22 (by decide) (fun a37 hR38 => ?_)
  refine r_lss (st_listV rfl) hR38 rfl rfl rfl rfl (by decide) (fun a39 hR40 => ?_)
  refine wpList_nil ?_
  refine x_then_n (hK32 _ _ ?_)
  rcases Decidable.em (((k : Nat) : Int) < ((t.length : Nat) : Int)) with h41 | h41
  · skip
    obtain ⟨hrk, hmk⟩ := measB_at hb hsc (by omega)
    have hbm := bindL_many hrk
    have hR42 := hR40.setb (d := 13) (b := true) rfl (decide_eq_true h41)
    refine wp_cond_true (hR42.ev rfl) ?_
    refine wp_skip ?_
    refine x_then_n (hK30 _ _ ?_)
    refine wp_seq_k (fun K43 hK44 => ?_)
    refine wp_block ?_
    refine wp_seq_k (fun K45 hK46 => ?_)
    refine c_region ?_
    refine r_move (st_listV rfl) hR42 rfl rfl rfl (by decide) (fun a47 hR48 => ?_)
    refine r_move (st_listV rfl) hR48 rfl rfl rfl (by decide) (fun a49 hR50 => ?_)
    refine m_index (i := k) (j := k * 4) (st_listV rfl) hR50 rfl rfl rfl rfl Tryd.underlying22 sz32 (by omega) (by omega) (nds_elem (t := t) (k := k) (hS27.row (i := 0) rfl).2 (by omega)).some_ rfl (by decide) (fun a51 hR52 => ?_)
    refine m_loadEN (st_listV rfl) hR52 rfl rfl rfl (nds_elem (t := t) (k := k) (hS27.row (i := 0) rfl).2 (by omega)) Tryd.underlying32 rfl sz32 (by decide) (fun a53 hR54 => ?_)
    have hS55 : St w0 Z none_ w25 [.row Al ((dl st).length) cl 3 1 (encIs (dl st))] [dRow 4 tA t.length tc (encNs t)] := hS27
    refine k_call (xs := [.tmp 20]) (st_list rfl) hR54 rfl rfl rfl (by decide) ok56 (rbinds_calls _ (imm Z w0 [.row Al ((dl st).length) cl 3 1 (encIs (dl st))] _) (fun _ h => h.1) (nth t k) (hsm _ (by omega))) ?_
    rintro e65 w57 ⟨A61, c62, rfl, hf60, hd63⟩
    have hS66 := hS55.below hf60.below
    have hS67 := hS66.data (dRow 1 A61 ((bindL (nth t k)).length) c62 (encIs (bindL (nth t k)))) ⟨hd63.1, hd63.2.mono (fun _ hk => ⟨nxt_imm hS55 hk, rfl⟩)⟩
    refine ⟨_, rfl, fun a56 hR58 => ?_⟩
    refine r_move (st_listV rfl) hR58 rfl rfl rfl (by decide) (fun a68 hR69 => ?_)
    refine r_extract (st_listV rfl) hR69 rfl rfl rfl rfl (by decide) (fun a70 hR71 => ?_)
    refine r_extract (st_listV rfl) hR71 rfl rfl rfl rfl (by decide) (fun a72 hR73 => ?_)
    refine r_assign (st_listV rfl) hR73 rfl rfl rfl (by decide) (fun a74 hR75 => ?_)
    refine r_assign (st_listV rfl) hR75 rfl rfl rfl (by decide) (fun a76 hR77 => ?_)
    refine wpList_nil ?_
    refine x_then_n (hK46 _ _ ?_)
    refine wp_seq_k (fun K78 hK79 => ?_)
    refine c_region ?_
    refine r_assign (st_listV rfl) hR77 rfl rfl rfl (by decide) (fun a80 hR81 => ?_)
    refine wpList_nil ?_
    refine x_then_n (hK79 _ _ ?_)
    refine wp_seq_k (fun K82 hK83 => ?_)
    refine wp_seq_k (fun K84 hK85 => ?_)
    refine c_region ?_
    refine r_assign (st_listV rfl) hR81 rfl rfl rfl (by decide) (fun a86 hR87 => ?_)
    refine wpList_nil ?_
    refine x_then_n (hK85 _ _ ?_)
    refine wp_block ?_
    refine wp_loop_ghost (fun gn ga gw => ∃ j : Nat, (Reg ga 51 [(0, .slice tA t.length tc), (4, .int .i64 ((k : Nat) : Int)), (5, .slice A61 ((bindL (nth t k)).length) c62), (8, .int .i64 ((j : Nat) : Int)), (7, .int .i64 ((maxB st j))), (3, .slice Al ((dl st).length - j) cl)]) ∧ (St w0 Z none_ gw [.row Al ((dl st).length) cl 3 1 (encIs (dl st))] [dRow 4 tA t.length tc (encNs t), dRow 1 A61 ((bindL (nth t k)).length) c62 (encIs (bindL (nth t k)))]) ∧ (j ≤ many (nth t k)) ∧ (many (nth t k) - j) = gn) _ ⟨0, (Reg.cons hR87 (Reg.cons hR87 (Reg.cons hR87 (Reg.cons hR87 (Reg.consi hR87 (Reg.cons hR87 (hR87.nil) rfl) rfl (by rw [maxB_zero])) rfl) rfl) rfl) rfl), hS67, by omega, rfl⟩ ?_
    rintro r88 a89 w90 ⟨j, hR91, hS92, hj, hn93⟩
    have hmx := maxB_le (st := st) (j := j)
    refine wp_seq_k (fun K94 hK95 => ?_)
    refine wp_seq_k (fun K96 hK97 => ?_)
    refine c_region ?_
    refine r_move (st_listV rfl) hR91 rfl rfl rfl (by decide) (fun a98 hR99 => ?_)
    refine r_move (st_listV rfl) hR99 rfl rfl rfl (by decide) (fun a100 hR101 => ?_)
    refine r_len (st_listV rfl) hR101 rfl rfl rfl rfl Tryd.underlying66 (by decide) (fun a102 hR103 => ?_)
    refine r_lss (st_listV rfl) hR103 rfl rfl rfl rfl (by decide) (fun a104 hR105 => ?_)
    refine wpList_nil ?_
    refine x_then_n (hK97 _ _ ?_)
    rcases Decidable.em (((j : Nat) : Int) < (((bindL (nth t k)).length : Nat) : Int)) with h106 | h106
    · skip
      have hR107 := hR105.setb (d := 27) (b := true) rfl (decide_eq_true h106)
      refine wp_cond_true (hR107.ev rfl) ?_
      refine wp_skip ?_
      refine x_then_n (hK95 _ _ ?_)
      refine wp_seq_k (fun K108 hK109 => ?_)
      refine wp_block ?_
      refine wp_seq_k (fun K110 hK111 => ?_)
      refine c_region ?_
      refine r_move (st_listV rfl) hR107 rfl rfl rfl (by decide) (fun a112 hR113 => ?_)
      refine r_move (st_listV rfl) hR113 rfl rfl rfl (by decide) (fun a114 hR115 => ?_)
      refine r_move (st_listV rfl) hR115 rfl rfl rfl (by decide) (fun a116 hR117 => ?_)
      refine r_len (st_listV rfl) hR117 rfl rfl rfl rfl Tryd.underlying66 (by decide) (fun a118 hR119 => ?_)
      refine r_sub (z := ((((dl st).length - j : Nat) : Int) - 1)) (st_listV rfl) hR119 rfl rfl rfl rfl (by decide) (by omega) (by omega) (by omega) (fun a120 hR121 => ?_)
      refine m_index (i := ((dl st).length - j) - (1)) (j := (((dl st).length - j) - (1)) * 1) (st_listV rfl) hR121 rfl rfl rfl rfl Tryd.underlying66 sz3 (by omega) (by omega) (own_ints (t := dl st) (k := ((dl st).length - j) - (1)) (hS92.res (i := 0) rfl) (by omega)).some_ rfl (by decide) (fun a122 hR123 => ?_)
      refine m_loadE (st_listV rfl) hR123 rfl rfl rfl 0 ((((dl st).length - j) - (1)) * 1) (own_ints (t := dl st) (k := ((dl st).length - j) - (1)) (hS92.res (i := 0) rfl) (by omega)) rfl rfl Tryd.underlying3 rfl (by decide) (fun a124 hR125 => ?_)
      refine r_max (st_listV rfl) hR125 rfl rfl rfl rfl rfl (by decide) (fun a126 hR127 => ?_)
      refine r_assign (st_listV rfl) hR127 rfl rfl rfl (by decide) (fun a128 hR129 => ?_)
      refine wpList_nil ?_
      refine x_then_n (hK111 _ _ ?_)
      refine c_region ?_
      refine r_move (st_listV rfl) hR129 rfl rfl rfl (by decide) (fun a130 hR131 => ?_)
      refine r_move (st_listV rfl) hR131 rfl rfl rfl (by decide) (fun a132 hR133 => ?_)
      refine r_len (st_listV rfl) hR133 rfl rfl rfl rfl Tryd.underlying66 (by decide) (fun a134 hR135 => ?_)
      refine r_sub (z := ((((dl st).length - j : Nat) : Int) - 1)) (st_listV rfl) hR135 rfl rfl rfl rfl (by decide) (by omega) (by omega) (by omega) (fun a136 hR137 => ?_)
      have hcap140 := own_cap (hS92.res (i := 0) rfl)
      refine m_sliceP (q := ((dl st).length - j) - (1)) (st_listV rfl) hR137 rfl rfl rfl rfl (by omega) Tryd.underlying66 sz3 (by omega) (by decide) (fun a141 hR142 => ?_)
      refine r_assign (st_listV rfl) hR142 rfl rfl rfl (by decide) (fun a143 hR144 => ?_)
      refine wpList_nil ?_
      refine x_block_n ?_
      refine x_then_n (hK109 _ _ ?_)
      refine c_region ?_
      refine r_move (st_listV rfl) hR144 rfl rfl rfl (by decide) (fun a145 hR146 => ?_)
      refine r_add (z := ((j + 1 : Nat) : Int)) (st_listV rfl) hR146 rfl rfl rfl rfl (by decide) (by omega) (by omega) (by omega) (fun a147 hR148 => ?_)
      refine r_assign (st_listV rfl) hR148 rfl rfl rfl (by decide) (fun a149 hR150 => ?_)
      refine wpList_nil ?_
      exact ⟨_, by omega, j + 1, (Reg.cons hR150 (Reg.cons hR150 (Reg.cons hR150 (Reg.cons hR150 (Reg.consi hR150 (Reg.cons hR150 (hR150.nil) rfl) rfl (by rw [dl_length]; exact (maxB_step (by omega)).symm)) rfl) rfl) rfl) rfl), hS92, by omega, rfl⟩
    · skip
      have hR151 := hR105.setb (d := 27) (b := false) rfl (decide_eq_false h106)
      refine wp_cond_false (hR151.ev rfl) ?_
      refine wp_exit ?_
      refine x_then_e ?_
      refine x_then_e ?_
      refine x_block_eq ?_
      refine x_then_n (hK83 _ _ ?_)
      refine wp_seq_k (fun K152 hK153 => ?_)
      refine wp_seq_k (fun K154 hK155 => ?_)
      refine c_region ?_
      refine r_move (st_listV rfl) hR151 rfl rfl rfl (by decide) (fun a156 hR157 => ?_)
      refine r_add (z := ((maxB st j) + 1)) (st_listV rfl) hR157 rfl rfl rfl rfl (by decide) (by omega) (by omega) (by omega) (fun a158 hR159 => ?_)
      refine r_gtr (st_listV rfl) hR159 rfl rfl rfl rfl (by decide) (fun a160 hR161 => ?_)
      refine wpList_nil ?_
      refine x_then_n (hK155 _ _ ?_)
      rcases Decidable.em (60 < ((maxB st j) + 1)) with h162 | h162
      · skip
        have hR163 := hR161.setb (d := 45) (b := true) rfl (decide_eq_true h162)
        refine wp_cond_true (hR163.ev rfl) ?_
        refine wp_seq_k (fun K164 hK165 => ?_)
        refine c_region ?_
        refine r_assign (st_listV rfl) hR163 rfl rfl rfl (by decide) (fun a166 hR167 => ?_)
        refine wpList_nil ?_
        refine x_then_n (hK165 _ _ ?_)
        refine wp_ret ?_
        refine x_then_r ?_
        refine x_block_r ?_
        refine x_then_r ?_
        refine x_then_r ?_
        refine x_block_r ?_
        refine x_then_r ?_
        refine e_ret1 hR167 rfl rfl ?_
        refine ⟨?_, hS92.fr⟩
        exact congrArg Ending.returned (ret_b (by exact (deepB_true (k := k) hb hsc (by omega) hrk (by omega) (by rw [← show j = many (nth t k) by omega]; omega)).symm))
      · skip
        have hR168 := hR161.setb (d := 45) (b := false) rfl (decide_eq_false h162)
        refine wp_cond_false (hR168.ev rfl) ?_
        refine wp_skip ?_
        refine x_then_n (hK153 _ _ ?_)
        refine c_region ?_
        refine r_move (st_listV rfl) hR168 rfl rfl rfl (by decide) (fun a169 hR170 => ?_)
        refine r_move (st_listV rfl) hR170 rfl rfl rfl (by decide) (fun a171 hR172 => ?_)
        refine r_add (z := ((maxB st j) + 1)) (st_listV rfl) hR172 rfl rfl rfl rfl (by decide) (by omega) (by omega) (by omega) (fun a173 hR174 => ?_)
        refine m_buildSlice (ps := [(0, .tmp 48)]) (cs := [.int .i64 ((maxB st j) + 1)]) (st_listV rfl) hR174 hS92 rfl rfl rfl Tryd.underlying66 zi3 rfl rfl (by kernel_rfl) rfl (by decide) (fun a175 w176 g177 hR178 hS179 => ?_)
        refine m_appendC (f := encI) (i := 0) (dl st) ([((maxB st j) + 1)]) (st_listV rfl) hR178 hS179 rfl rfl rfl rfl rfl (by omega) encI_len (encI_one _) Tryd.underlying66 zi3 rfl rfl (own_lnews (f := encI) (hS179.res (i := 1) rfl)) rfl (by first | omega | (simp only [List.length_cons, List.length_nil]; omega)) (by decide) (fun a180 w181 A182 c183 hc184 hR185 hS186 => ?_)
        have hl188 : ((dl st).take ((dl st).length - j) ++ ([((maxB st j) + 1)]) : List Int).length = (dl st).length - j + 1 := by first | (simp only [List.length_append, List.length_take, List.length_cons, List.length_nil]; done) | (simp only [List.length_append, List.length_take, List.length_cons, List.length_nil]; omega)
        have hS189 := hS186.erase 1
        refine r_assign (st_listV rfl) hR185 rfl rfl rfl (by decide) (fun a190 hR191 => ?_)
        refine wpList_nil ?_
        refine x_block_n ?_
        refine x_then_n (hK44 _ _ ?_)
        refine c_region ?_
        refine r_move (st_listV rfl) hR191 rfl rfl rfl (by decide) (fun a192 hR193 => ?_)
        refine r_add (z := ((k + 1 : Nat) : Int)) (st_listV rfl) hR193 rfl rfl rfl rfl (by decide) (by omega) (by omega) (by omega) (fun a194 hR195 => ?_)
        refine r_assign (st_listV rfl) hR195 rfl rfl rfl (by decide) (fun a196 hR197 => ?_)
        refine wpList_nil ?_
        obtain ⟨st', hp, hpl⟩ := push_some (st := st) (n := nth t k) hrk (by omega)
        have hpd := (push_dl hp).1
        have hjq : j = many (nth t k) := by omega
        have he198 : (dl st).take ((dl st).length - j) ++ ([((maxB st j) + 1)]) = dl st' := by rw [hpd, hjq, dl_length]
        have hR199 := hR197
        have hS200 := hS189
        rw [he198] at hR199 hS200
        have hS201 := hS200.forget 1
        exact ⟨_, by omega, k + 1, st', A182, c183, (Reg.cons hR199 (Reg.cons hR199 (Reg.cons hR199 (hR199.nil) rfl) rfl) rfl), hS201, by omega, (scan_step hsc (by omega)).trans hp, shallow_push hp hsh (by rw [← hjq]; omega), rfl⟩
  · skip
    have hR202 := hR40.setb (d := 13) (b := false) rfl (decide_eq_false h41)
    refine wp_cond_false (hR202.ev rfl) ?_
    refine wp_exit ?_
    refine x_then_e ?_
    refine x_then_e ?_
    refine x_block_eq ?_
    refine x_then_n (hK18 _ _ ?_)
    refine wp_seq_k (fun K203 hK204 => ?_)
    refine c_region ?_
    refine r_assign (st_listV rfl) hR202 rfl rfl rfl (by decide) (fun a205 hR206 => ?_)
    refine wpList_nil ?_
    refine x_then_n (hK204 _ _ ?_)
    refine wp_ret ?_
    refine e_ret1 hR206 rfl rfl ?_
    refine ⟨?_, hS27.fr⟩
    exact congrArg Ending.returned (ret_b (by exact (deepB_false (by rw [← hsc, List.take_of_length_le (by omega)]) hsh).symm))

set_option maxRecDepth 100000 in
set_option maxHeartbeats 1000000 in
theorem rcheck_calls (w0 : World) (Z : Nat → Prop) (hZ : ∀ k, Z k → k < w0.heap.size) (tA : Option Addr) (tc : Nat) (t : List Nd) (ht : (dRow 4 tA t.length tc (encNs t)).φ w0 Z) (hl : t.length ≤ 1000000) (hsm : sml t) :
    Calls Tryd.prog 19 [.slice tA t.length tc].toArray w0 (fun e w' => e = .returned (.int .i64 (chk t)) ∧ Fr none_ w0 w') := by
  have hstart : ∀ k, Z k → imm Z w0 [] w0 k ∧ w0.heap[k]? = w0.heap[k]? := fun k hk => ⟨⟨hZ k hk, fun _ => hk, fun _ h => by cases h⟩, rfl⟩
  have hS3 : St w0 Z none_ w0 [] [dRow 4 tA t.length tc (encNs t)] := St.start w0 Z none_ _ (by
    intro d hd
    simp only [List.mem_cons, List.not_mem_nil, or_false] at hd
    rcases hd with rfl
    · exact Dat.mono _ _ _ _ _ ht hstart
    )
  refine c_enter Tryd.func19 rfl Tryd.ntmps19 rfl (fun a1 hR2 => ?_)
  refine wp_seq_k (fun K4 hK5 => ?_)
  refine c_region ?_
  refine r_assign (st_listV rfl) hR2 rfl rfl rfl (by decide) (fun a6 hR7 => ?_)
  refine wpList_nil ?_
  refine x_then_n (hK5 _ _ ?_)
  refine wp_seq_k (fun K8 hK9 => ?_)
  refine wp_seq_k (fun K10 hK11 => ?_)
  refine c_region ?_
  refine r_move (st_listV rfl) hR7 rfl rfl rfl (by decide) (fun a12 hR13 => ?_)
  refine r_len (st_listV rfl) hR13 rfl rfl rfl rfl Tryd.underlying22 (by decide) (fun a14 hR15 => ?_)
  refine r_gtr (st_listV rfl) hR15 rfl rfl rfl rfl (by decide) (fun a16 hR17 => ?_)
  refine wpList_nil ?_
  refine x_then_n (hK11 _ _ ?_)
  rcases Decidable.em (4000 < ((t.length : Nat) : Int)) with h18 | h18
  · skip
    have hR19 := hR17.setb (d := 5) (b := true) rfl (decide_eq_true h18)
    refine wp_cond_true (hR19.ev rfl) ?_
    refine wp_seq_k (fun K20 hK21 => ?_)
    refine c_region ?_
    refine r_assign (st_listV rfl) hR19 rfl rfl rfl (by decide) (fun a22 hR23 => ?_)
    refine wpList_nil ?_
    refine x_then_n (hK21 _ _ ?_)
    refine wp_ret ?_
    refine x_then_r ?_
    refine e_ret1 hR23 rfl rfl ?_
    refine ⟨?_, hS3.fr⟩
    exact congrArg Ending.returned (ret_i (by exact (chk_size (by omega)).symm))
  · skip
    have hR24 := hR17.setb (d := 5) (b := false) rfl (decide_eq_false h18)
    refine wp_cond_false (hR24.ev rfl) ?_
    refine wp_skip ?_
    refine x_then_n (hK9 _ _ ?_)
    refine wp_seq_k (fun K25 hK26 => ?_)
    refine wp_seq_k (fun K27 hK28 => ?_)
    refine c_region ?_
    refine r_move (st_listV rfl) hR24 rfl rfl rfl (by decide) (fun a29 hR30 => ?_)
    have hS31 : St w0 Z none_ w0 [] [dRow 4 tA t.length tc (encNs t)] := hS3
    refine k_call (xs := [.tmp 6]) (st_list rfl) hR30 rfl rfl rfl (by decide) ok46 (rwhole_calls _ (imm Z w0 [] _) (fun _ h => h.1) tA tc t (hS31.get (i := 0) rfl) (by first | assumption | omega | (simp; done) | (simp; omega)) (by first | assumption | omega | (simp; done) | (simp; omega))) ?_
    rintro e38 w33 ⟨rfl, hf36⟩
    have hS39 := hS31.below hf36.below
    refine ⟨_, rfl, fun a32 hR34 => ?_⟩
    refine r_not (st_listV rfl) hR34 rfl rfl rfl (by decide) (fun a40 hR41 => ?_)
    refine wpList_nil ?_
    refine x_then_n (hK28 _ _ ?_)
    rcases Bool.eq_false_or_eq_true (measB t) with h42 | h42
    · skip
      have hR43 := hR41.setb (d := 8) (b := false) rfl (by rw [h42]; rfl)
      refine wp_cond_false (hR43.ev rfl) ?_
      refine wp_skip ?_
      refine x_then_n (hK26 _ _ ?_)
      refine wp_seq_k (fun K44 hK45 => ?_)
      refine wp_seq_k (fun K46 hK47 => ?_)
      refine c_region ?_
      refine r_move (st_listV rfl) hR43 rfl rfl rfl (by decide) (fun a48 hR49 => ?_)
      have hS50 : St w0 Z none_ w33 [] [dRow 4 tA t.length tc (encNs t)] := hS39
      refine k_call (xs := [.tmp 9]) (st_list rfl) hR49 rfl rfl rfl (by decide) ok47 (rdeeper_calls _ (imm Z w0 [] _) (fun _ h => h.1) tA tc t (hS50.get (i := 0) rfl) (by first | assumption | omega | (simp; done) | (simp; omega)) (by first | assumption | omega | (simp; done) | (simp; omega)) (by first | assumption | omega | (simp; done) | (simp; omega))) ?_
      rintro e57 w52 ⟨rfl, hf55⟩
      have hS58 := hS50.below hf55.below
      refine ⟨_, rfl, fun a51 hR53 => ?_⟩
      refine wpList_nil ?_
      refine x_then_n (hK47 _ _ ?_)
      rcases Bool.eq_false_or_eq_true (deepB t) with h59 | h59
      · skip
        have hR60 := hR53.setb (d := 10) (b := true) rfl h59
        refine wp_cond_true (hR60.ev rfl) ?_
        refine wp_seq_k (fun K61 hK62 => ?_)
        refine c_region ?_
        refine r_assign (st_listV rfl) hR60 rfl rfl rfl (by decide) (fun a63 hR64 => ?_)
        refine wpList_nil ?_
        refine x_then_n (hK62 _ _ ?_)
        refine wp_ret ?_
        refine x_then_r ?_
        refine e_ret1 hR64 rfl rfl ?_
        refine ⟨?_, hS58.fr⟩
        exact congrArg Ending.returned (ret_i (by (rw [chk_whole (by omega) (by assumption)]; simp [h18, h42, h59])))
      · skip
        have hR65 := hR53.setb (d := 10) (b := false) rfl h59
        refine wp_cond_false (hR65.ev rfl) ?_
        refine wp_skip ?_
        refine x_then_n (hK45 _ _ ?_)
        refine wp_seq_k (fun K66 hK67 => ?_)
        refine c_region ?_
        refine r_assign (st_listV rfl) hR65 rfl rfl rfl (by decide) (fun a68 hR69 => ?_)
        refine wpList_nil ?_
        refine x_then_n (hK67 _ _ ?_)
        refine wp_ret ?_
        refine e_ret1 hR69 rfl rfl ?_
        refine ⟨?_, hS58.fr⟩
        exact congrArg Ending.returned (ret_i (by (rw [chk_whole (by omega) (by assumption)]; simp [h18, h42, h59])))
    · skip
      have hR70 := hR41.setb (d := 8) (b := true) rfl (by rw [h42]; rfl)
      refine wp_cond_true (hR70.ev rfl) ?_
      refine wp_seq_k (fun K71 hK72 => ?_)
      refine c_region ?_
      refine r_assign (st_listV rfl) hR70 rfl rfl rfl (by decide) (fun a73 hR74 => ?_)
      refine wpList_nil ?_
      refine x_then_n (hK72 _ _ ?_)
      refine wp_ret ?_
      refine x_then_r ?_
      refine e_ret1 hR74 rfl rfl ?_
      refine ⟨?_, hS39.fr⟩
      exact congrArg Ending.returned (ret_i (by exact (chk_form (by omega) (by assumption)).symm))

set_option maxRecDepth 100000 in
set_option maxHeartbeats 1000000 in
theorem rroot_calls (w0 : World) (Z : Nat → Prop) (hZ : ∀ k, Z k → k < w0.heap.size) (tA : Option Addr) (tc : Nat) (t : List Nd) (ht : (dRow 4 tA t.length tc (encNs t)).φ w0 Z) (hl : t.length ≤ 1000000) (h0 : 0 < t.length) :
    Calls Tryd.prog 23 [.slice tA t.length tc].toArray w0 (fun e w' => e = .returned (.agg #[.int .i64 (((nth t (t.length - 1)).K)), .int .i64 (((nth t (t.length - 1)).N)), .int .i64 (((nth t (t.length - 1)).M)), .string ((nth t (t.length - 1)).S)]) ∧ Fr none_ w0 w') := by
  have hstart : ∀ k, Z k → imm Z w0 [] w0 k ∧ w0.heap[k]? = w0.heap[k]? := fun k hk => ⟨⟨hZ k hk, fun _ => hk, fun _ h => by cases h⟩, rfl⟩
  have hS3 : St w0 Z none_ w0 [] [dRow 4 tA t.length tc (encNs t)] := St.start w0 Z none_ _ (by
    intro d hd
    simp only [List.mem_cons, List.not_mem_nil, or_false] at hd
    rcases hd with rfl
    · exact Dat.mono _ _ _ _ _ ht hstart
    )
  refine c_enter Tryd.func23 rfl Tryd.ntmps23 rfl (fun a1 hR2 => ?_)
  refine wp_seq_k (fun K4 hK5 => ?_)
  refine c_region ?_
  refine m_alloc (cs := [.int .i64 0, .int .i64 0, .int .i64 0, .string (⟨#[]⟩ : ByteArray)]) (st_listV rfl) hR2 hS3 rfl rfl ze32 rfl (by decide) (fun a6 w7 g8 hR9 hS10 => ?_)
  refine wpList_nil ?_
  refine x_then_n (hK5 _ _ ?_)
  refine wp_seq_k (fun K11 hK12 => ?_)
  refine c_region ?_
  refine r_move (st_listV rfl) hR9 rfl rfl rfl (by decide) (fun a13 hR14 => ?_)
  refine r_move (st_listV rfl) hR14 rfl rfl rfl (by decide) (fun a15 hR16 => ?_)
  refine r_len (st_listV rfl) hR16 rfl rfl rfl rfl Tryd.underlying22 (by decide) (fun a17 hR18 => ?_)
  refine r_sub (z := (((t.length : Nat) : Int) - 1)) (st_listV rfl) hR18 rfl rfl rfl rfl (by decide) (by omega) (by omega) (by omega) (fun a19 hR20 => ?_)
  refine m_index (i := (t.length) - (1)) (j := ((t.length) - (1)) * 4) (st_listV rfl) hR20 rfl rfl rfl rfl Tryd.underlying22 sz32 (by omega) (by omega) (nds_elem (t := t) (k := (t.length) - (1)) (hS10.row (i := 0) rfl).2 (by omega)).some_ rfl (by decide) (fun a21 hR22 => ?_)
  refine m_loadEN (st_listV rfl) hR22 rfl rfl rfl (nds_elem (t := t) (k := (t.length) - (1)) (hS10.row (i := 0) rfl).2 (by omega)) Tryd.underlying32 rfl sz32 (by decide) (fun a23 hR24 => ?_)
  refine m_store (i := 0) (cs' := [.int .i64 (((nth t ((t.length) - (1))).K)), .int .i64 (((nth t ((t.length) - (1))).N)), .int .i64 (((nth t ((t.length) - (1))).M)), .string ((nth t ((t.length) - (1))).S)]) (st_list rfl) hR24 hS10 rfl rfl rfl rfl rfl sz32 rfl rfl rfl (fun a25 w26 hR27 hS28 => ?_)
  refine wpList_nil ?_
  refine x_then_n (hK12 _ _ ?_)
  refine wp_ret ?_
  refine e_cell (i := 0) (vs := [.int .i64 (((nth t ((t.length) - (1))).K)), .int .i64 (((nth t ((t.length) - (1))).N)), .int .i64 (((nth t ((t.length) - (1))).M)), .string ((nth t ((t.length) - (1))).S)]) (.inl rfl) hR27 hS28 rfl rfl rfl Tryd.underlying32 rfl sz32 ?_
  refine ⟨?_, hS28.fr⟩
  exact congrArg Ending.returned rfl

set_option maxRecDepth 100000 in
set_option maxHeartbeats 1000000 in
theorem rsame_calls (w0 : World) (Z : Nat → Prop) (hZ : ∀ k, Z k → k < w0.heap.size) (tA : Option Addr) (tc : Nat) (t : List Nd) (uA : Option Addr) (uc : Nat) (u : List Nd) (ht : (dRow 4 tA t.length tc (encNs t)).φ w0 Z) (hu : (dRow 4 uA u.length uc (encNs u)).φ w0 Z) (hl : t.length ≤ 1000000) :
    Calls Tryd.prog 30 [.slice tA t.length tc, .slice uA u.length uc].toArray w0 (fun e w' => e = .returned (.bool (decide (t = u))) ∧ Fr none_ w0 w') := by
  have hstart : ∀ k, Z k → imm Z w0 [] w0 k ∧ w0.heap[k]? = w0.heap[k]? := fun k hk => ⟨⟨hZ k hk, fun _ => hk, fun _ h => by cases h⟩, rfl⟩
  have hS3 : St w0 Z none_ w0 [] [dRow 4 tA t.length tc (encNs t), dRow 4 uA u.length uc (encNs u)] := St.start w0 Z none_ _ (by
    intro d hd
    simp only [List.mem_cons, List.not_mem_nil, or_false] at hd
    rcases hd with rfl | rfl
    · exact Dat.mono _ _ _ _ _ ht hstart
    · exact Dat.mono _ _ _ _ _ hu hstart
    )
  refine c_enter Tryd.func30 rfl Tryd.ntmps30 rfl (fun a1 hR2 => ?_)
  refine wp_seq_k (fun K4 hK5 => ?_)
  refine c_region ?_
  refine r_assign (st_listV rfl) hR2 rfl rfl rfl (by decide) (fun a6 hR7 => ?_)
  refine wpList_nil ?_
  refine x_then_n (hK5 _ _ ?_)
  refine wp_seq_k (fun K8 hK9 => ?_)
  refine wp_seq_k (fun K10 hK11 => ?_)
  refine c_region ?_
  refine r_move (st_listV rfl) hR7 rfl rfl rfl (by decide) (fun a12 hR13 => ?_)
  refine r_len (st_listV rfl) hR13 rfl rfl rfl rfl Tryd.underlying22 (by decide) (fun a14 hR15 => ?_)
  refine r_move (st_listV rfl) hR15 rfl rfl rfl (by decide) (fun a16 hR17 => ?_)
  refine r_len (st_listV rfl) hR17 rfl rfl rfl rfl Tryd.underlying22 (by decide) (fun a18 hR19 => ?_)
  refine r_neq (st_listV rfl) hR19 rfl rfl rfl rfl (by decide) (fun a20 hR21 => ?_)
  refine wpList_nil ?_
  refine x_then_n (hK11 _ _ ?_)
  rcases Decidable.em (((t.length : Nat) : Int) = ((u.length : Nat) : Int)) with h22 | h22
  · skip
    have hR23 := hR21.setb (d := 10) (b := false) rfl (by rw [(decide_eq_true h22)]; rfl)
    refine wp_cond_false (hR23.ev rfl) ?_
    refine wp_skip ?_
    refine x_then_n (hK9 _ _ ?_)
    refine wp_seq_k (fun K24 hK25 => ?_)
    refine wp_seq_k (fun K26 hK27 => ?_)
    refine c_region ?_
    refine r_assign (st_listV rfl) hR23 rfl rfl rfl (by decide) (fun a28 hR29 => ?_)
    refine wpList_nil ?_
    refine x_then_n (hK27 _ _ ?_)
    refine wp_block ?_
    refine wp_loop_ghost (fun gn ga gw => ∃ k : Nat, (Reg ga 26 [(0, .slice tA t.length tc), (1, .slice uA u.length uc), (5, .int .i64 ((k : Nat) : Int))]) ∧ (St w0 Z none_ gw [] [dRow 4 tA t.length tc (encNs t), dRow 4 uA u.length uc (encNs u)]) ∧ (k ≤ t.length) ∧ (t.take k = u.take k) ∧ (t.length - k) = gn) _ ⟨0, (Reg.cons hR29 (Reg.cons hR29 (Reg.cons hR29 (hR29.nil) rfl) rfl) rfl), hS3, by omega, rfl, rfl⟩ ?_
    rintro r30 a31 w32 ⟨k, hR33, hS34, hk, hi, hn35⟩
    refine wp_seq_k (fun K36 hK37 => ?_)
    refine wp_seq_k (fun K38 hK39 => ?_)
    refine c_region ?_
    refine r_move (st_listV rfl) hR33 rfl rfl rfl (by decide) (fun a40 hR41 => ?_)
    refine r_move (st_listV rfl) hR41 rfl rfl rfl (by decide) (fun a42 hR43 => ?_)
    refine r_len (st_listV rfl) hR43 rfl rfl rfl rfl Tryd.underlying22 (by decide) (fun a44 hR45 => ?_)
    refine r_lss (st_listV rfl) hR45 rfl rfl rfl rfl (by decide) (fun a46 hR47 => ?_)
    refine wpList_nil ?_
    refine x_then_n (hK39 _ _ ?_)
    rcases Decidable.em (((k : Nat) : Int) < ((t.length : Nat) : Int)) with h48 | h48
    · skip
      have hR49 := hR47.setb (d := 14) (b := true) rfl (decide_eq_true h48)
      refine wp_cond_true (hR49.ev rfl) ?_
      refine wp_skip ?_
      refine x_then_n (hK37 _ _ ?_)
      refine wp_seq_k (fun K50 hK51 => ?_)
      refine wp_block ?_
      refine wp_seq_k (fun K52 hK53 => ?_)
      obtain ⟨J54, hJ55, hS56⟩ := hS34.agree
      refine d_region2 (S := (fun x => (∀ k, J54 k → x.heap[k]? = w32.heap[k]?) ∧ (True))) (n := 9) mixed rfl hS56 (pan_then (pan_block (pan_then (pan_then (pan_block (pan_then pan_body)))))) (fun Q59 hP60 hN61 w57 hS58 => ?_)
      have hSw62 : (∀ k, J54 k → w57.heap[k]? = w32.heap[k]?) ∧ (True) := ⟨fun k hk => (hS58.get (i := 2) rfl k hk).2, trivial⟩
      refine d_take (i := 0) rfl (by kernel_rfl) (by kernel_rfl) (by kernel_rfl) (fun c a w h => hP60 c _ _ _ _ h) rfl (by decide) hR49 (want_n rfl) (fun x hx => r_move (st_yield hR49 rfl (by decide)) hR49 rfl rfl rfl (by decide) (fun _ h => ⟨h.get _ _ rfl, rfl⟩)) hSw62 (fun a63 hR64 => ?_)
      refine d_take (i := 1) rfl (by kernel_rfl) (by kernel_rfl) (by kernel_rfl) (fun c a w h => hP60 c _ _ _ _ h) rfl (by decide) hR64 (want_n rfl) (fun x hx => r_move (st_yield hR64 rfl (by decide)) hR64 rfl rfl rfl (by decide) (fun _ h => ⟨h.get _ _ rfl, rfl⟩)) hSw62 (fun a65 hR66 => ?_)
      refine d_take (i := 2) rfl (by kernel_rfl) (by kernel_rfl) (by kernel_rfl) (fun c a w h => hP60 c _ _ _ _ h) rfl (by decide) hR66 (want_n rfl) (fun x hx => m_index (i := k) (j := k * 4) (st_yield hR66 rfl (by decide)) hR66 rfl rfl rfl rfl Tryd.underlying22 sz32 (by omega) (by omega) (nds_elem (t := t) (k := k) (sdat (hJ55 0 _ rfl) hx.1).2 (by omega)).some_ rfl (by decide) (fun _ h => ⟨h.get _ _ rfl, rfl⟩)) hSw62 (fun a67 hR68 => ?_)
      refine d_take (i := 3) rfl (by kernel_rfl) (by kernel_rfl) (by kernel_rfl) (fun c a w h => hP60 c _ _ _ _ h) rfl (by decide) hR68 (want_n rfl) (fun x hx => m_loadEN (st_yield hR68 rfl (by decide)) hR68 rfl rfl rfl (nds_elem (t := t) (k := k) (sdat (hJ55 0 _ rfl) hx.1).2 (by omega)) Tryd.underlying32 rfl sz32 (by decide) (fun _ h => ⟨h.get _ _ rfl, rfl⟩)) hSw62 (fun a69 hR70 => ?_)
      refine d_take (i := 4) rfl (by kernel_rfl) (by kernel_rfl) (by kernel_rfl) (fun c a w h => hP60 c _ _ _ _ h) rfl (by decide) hR70 (want_n rfl) (fun x hx => r_move (st_yield hR70 rfl (by decide)) hR70 rfl rfl rfl (by decide) (fun _ h => ⟨h.get _ _ rfl, rfl⟩)) hSw62 (fun a71 hR72 => ?_)
      refine d_take (i := 5) rfl (by kernel_rfl) (by kernel_rfl) (by kernel_rfl) (fun c a w h => hP60 c _ _ _ _ h) rfl (by decide) hR72 (want_n rfl) (fun x hx => r_move (st_yield hR72 rfl (by decide)) hR72 rfl rfl rfl (by decide) (fun _ h => ⟨h.get _ _ rfl, rfl⟩)) hSw62 (fun a73 hR74 => ?_)
      refine d_take (i := 6) rfl (by kernel_rfl) (by kernel_rfl) (by kernel_rfl) (fun c a w h => hP60 c _ _ _ _ h) rfl (by decide) hR74 (want_n rfl) (fun x hx => m_index (i := k) (j := k * 4) (st_yield hR74 rfl (by decide)) hR74 rfl rfl rfl rfl Tryd.underlying22 sz32 (by omega) (by omega) (nds_elem (t := u) (k := k) (sdat (hJ55 1 _ rfl) hx.1).2 (by omega)).some_ rfl (by decide) (fun _ h => ⟨h.get _ _ rfl, rfl⟩)) hSw62 (fun a75 hR76 => ?_)
      refine d_take (i := 7) rfl (by kernel_rfl) (by kernel_rfl) (by kernel_rfl) (fun c a w h => hP60 c _ _ _ _ h) rfl (by decide) hR76 (want_n rfl) (fun x hx => m_loadEN (st_yield hR76 rfl (by decide)) hR76 rfl rfl rfl (nds_elem (t := u) (k := k) (sdat (hJ55 1 _ rfl) hx.1).2 (by omega)) Tryd.underlying32 rfl sz32 (by decide) (fun _ h => ⟨h.get _ _ rfl, rfl⟩)) hSw62 (fun a77 hR78 => ?_)
      refine d_take (i := 8) rfl (by kernel_rfl) (by kernel_rfl) (by kernel_rfl) (fun c a w h => hP60 c _ _ _ _ h) rfl (by decide) hR78 (want_n rfl) (fun x hx => r_neqN (m := (nth t k)) (n := (nth u k)) (st_yield hR78 rfl (by decide)) hR78 rfl rfl rfl rfl (by decide) (fun _ h => ⟨h.get _ _ rfl, rfl⟩)) hSw62 (fun a79 hR80 => ?_)
      refine wpAnyH_done (by kernel_rfl) (hN61 _ _ ?_) _
      refine x_then_n (hK53 _ _ ?_)
      rcases Decidable.em ((nth t k) = (nth u k)) with h81 | h81
      · skip
        have hR82 := hR80.setb (d := 25) (b := false) rfl (by rw [(decide_eq_true h81)]; rfl)
        refine wp_cond_false (hR82.ev rfl) ?_
        refine wp_skip ?_
        refine x_block_n ?_
        refine x_then_n (hK51 _ _ ?_)
        refine c_region ?_
        refine r_move (st_listV rfl) hR82 rfl rfl rfl (by decide) (fun a83 hR84 => ?_)
        refine r_add (z := ((k + 1 : Nat) : Int)) (st_listV rfl) hR84 rfl rfl rfl rfl (by decide) (by omega) (by omega) (by omega) (fun a85 hR86 => ?_)
        refine r_assign (st_listV rfl) hR86 rfl rfl rfl (by decide) (fun a87 hR88 => ?_)
        refine wpList_nil ?_
        have hS89 := hS58.forget 2
        exact ⟨_, by omega, k + 1, (Reg.cons hR88 (Reg.cons hR88 (Reg.cons hR88 (hR88.nil) rfl) rfl) rfl), hS89, by omega, same_step hi (by omega) (by omega) (by assumption), rfl⟩
      · skip
        have hR90 := hR80.setb (d := 25) (b := true) rfl (by rw [(decide_eq_false h81)]; rfl)
        refine wp_cond_true (hR90.ev rfl) ?_
        refine wp_seq_k (fun K91 hK92 => ?_)
        refine c_region ?_
        refine r_assign (st_listV rfl) hR90 rfl rfl rfl (by decide) (fun a93 hR94 => ?_)
        refine wpList_nil ?_
        refine x_then_n (hK92 _ _ ?_)
        refine wp_ret ?_
        refine x_block_r ?_
        refine x_then_r ?_
        refine x_then_r ?_
        refine x_block_r ?_
        refine x_then_r ?_
        refine e_ret1 hR94 rfl rfl ?_
        refine ⟨?_, hS58.fr⟩
        exact congrArg Ending.returned (ret_b (by first | exact (same_len (by omega)).symm | exact (same_no (k := k) (by omega) (by omega) (by assumption)).symm | exact (same_end hi (by omega) (by omega)).symm))
    · skip
      have hR95 := hR47.setb (d := 14) (b := false) rfl (decide_eq_false h48)
      refine wp_cond_false (hR95.ev rfl) ?_
      refine wp_exit ?_
      refine x_then_e ?_
      refine x_then_e ?_
      refine x_block_eq ?_
      refine x_then_n (hK25 _ _ ?_)
      refine wp_seq_k (fun K96 hK97 => ?_)
      refine c_region ?_
      refine r_assign (st_listV rfl) hR95 rfl rfl rfl (by decide) (fun a98 hR99 => ?_)
      refine wpList_nil ?_
      refine x_then_n (hK97 _ _ ?_)
      refine wp_ret ?_
      refine e_ret1 hR99 rfl rfl ?_
      refine ⟨?_, hS34.fr⟩
      exact congrArg Ending.returned (ret_b (by first | exact (same_len (by omega)).symm | exact (same_no (k := k) (by omega) (by omega) (by assumption)).symm | exact (same_end hi (by omega) (by omega)).symm))
  · skip
    have hR100 := hR21.setb (d := 10) (b := true) rfl (by rw [(decide_eq_false h22)]; rfl)
    refine wp_cond_true (hR100.ev rfl) ?_
    refine wp_seq_k (fun K101 hK102 => ?_)
    refine c_region ?_
    refine r_assign (st_listV rfl) hR100 rfl rfl rfl (by decide) (fun a103 hR104 => ?_)
    refine wpList_nil ?_
    refine x_then_n (hK102 _ _ ?_)
    refine wp_ret ?_
    refine x_then_r ?_
    refine e_ret1 hR104 rfl rfl ?_
    refine ⟨?_, hS3.fr⟩
    exact congrArg Ending.returned (ret_b (by first | exact (same_len (by omega)).symm | exact (same_no (k := k) (by omega) (by omega) (by assumption)).symm | exact (same_end hi (by omega) (by omega)).symm))
end Go.Proofs.YtobgdeffhdefeaaDoor
