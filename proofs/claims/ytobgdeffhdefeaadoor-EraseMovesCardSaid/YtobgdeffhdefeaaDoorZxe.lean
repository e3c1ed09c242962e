import Derived.Test.YtobgdeffhdefeaaDoorZxd
/- Contracts of functions, one theorem each: what the call returns, and that nothing old is changed. Printed by gen.py. -/
namespace Go.Proofs.YtobgdeffhdefeaaDoor
open Go Go.RowKit
set_option linter.unusedSimpArgs false
set_option linter.unusedVariables false

set_option maxRecDepth 100000 in
set_option maxHeartbeats 1000000 in
theorem rwhole_calls (w0 : World) (Z : Nat → Prop) (hZ : ∀ k, Z k → k < w0.heap.size) (tA : Option Addr) (tc : Nat) (t : List Nd) (ht : (dRow 4 tA t.length tc (encNs t)).φ w0 Z) (hl : t.length ≤ 1000000) (hsm : sml t) :
    Calls Tryd.prog 46 [.slice tA t.length tc].toArray w0 (fun e w' => e = .returned (.bool (measB t)) ∧ Fr none_ w0 w') := by
  have hstart : ∀ k, Z k → imm Z w0 [] w0 k ∧ w0.heap[k]? = w0.heap[k]? := fun k hk => ⟨⟨hZ k hk, fun _ => hk, fun _ h => by cases h⟩, rfl⟩
  have hS3 : St w0 Z none_ w0 [] [dRow 4 tA t.length tc (encNs t)] := St.start w0 Z none_ _ (by
    intro d hd
    simp only [List.mem_cons, List.not_mem_nil, or_false] at hd
    rcases hd with rfl
    · exact Dat.mono _ _ _ _ _ (Nat.le_refl _) ht hstart
    )
  refine c_enter Tryd.func46 rfl Tryd.ntmps46 rfl (fun a1 hR2 => ?_)
  refine wp_seq_k (fun K4 hK5 => ?_)
  refine c_region ?_
  refine asg hR2 (fun a6 hR7 => ?_)
  refine wpList_nil (x_then_n (hK5 _ _ ?_))
  refine wp_seq_k (fun K8 hK9 => ?_)
  refine c_region ?_
  refine asg hR7 (fun a10 hR11 => ?_)
  refine wpList_nil (x_then_n (hK9 _ _ ?_))
  refine wp_seq_k (fun K12 hK13 => ?_)
  refine wp_seq_k (fun K14 hK15 => ?_)
  refine c_region ?_
  refine asg hR11 (fun a16 hR17 => ?_)
  refine wpList_nil (x_then_n (hK15 _ _ ?_))
  refine wp_block ?_
  refine wp_loop_ghost (fun gn ga gw => ∃ k : Nat, ∃ st : List T, (Reg ga 36 [(1000000, .bool false), (0, .slice tA t.length tc), (4, .int .i64 ((k : Nat) : Int)), (3, .int .i64 ((st.length : Nat) : Int))]) ∧ (St w0 Z none_ gw [] [dRow 4 tA t.length tc (encNs t)]) ∧ (k ≤ t.length) ∧ (scanT [] (t.take k) = some st) ∧ (t.length - k) = gn) _ ⟨0, [], (hR17.sub (rc rfl (rc rfl (rc rfl (rc rfl rnl))))), hS3, by omega, rfl, rfl⟩ ?_
  rintro r18 a19 w20 ⟨k, st, hR21, hS22, hk, hsc, hn23⟩
  have hfl := scan_flats hsc hk
  have hsl := flats_len_ge st
  have hbl := bindL_le (nth t k)
  refine wp_seq_k (fun K24 hK25 => ?_)
  refine wp_seq_k (fun K26 hK27 => ?_)
  refine c_region ?_
  refine mv hR21 (fun a28 hR29 => ?_)
  refine mv hR29 (fun a30 hR31 => ?_)
  refine r_len sv hR31 rfl rfl rfl rfl Tryd.underlying22 (by decide) (fun a32 hR33 => ?_)
  refine r_lss sv hR33 rfl rfl rfl rfl (by decide) (fun a34 hR35 => ?_)
  refine wpList_nil (x_then_n (hK27 _ _ ?_))
  rcases Decidable.em (((k : Nat) : Int) < ((t.length : Nat) : Int)) with h36 | h36
  · skip
    have hR37 := hR35.setb (d := 10) (b := true) rfl (decide_eq_true h36)
    refine wp_cond_true (hR37.ev rfl) ?_
    refine wp_skip ?_
    refine x_then_n (hK25 _ _ ?_)
    refine wp_seq_k (fun K38 hK39 => ?_)
    refine wp_block ?_
    refine wp_seq_k (fun K40 hK41 => ?_)
    refine c_region ?_
    refine mv hR37 (fun a42 hR43 => ?_)
    refine mv hR43 (fun a44 hR45 => ?_)
    refine m_index (i := k) (j := k * 4) sv hR45 rfl rfl rfl rfl Tryd.underlying22 sz32 (by omega) (by omega) (nds_elem (t := t) (k := k) (hS22.row (i := 0) rfl).2 (by omega)).some_ rfl (by decide) (fun a46 hR47 => ?_)
    refine m_loadEN sv hR47 rfl rfl rfl (nds_elem (t := t) (k := k) (hS22.row (i := 0) rfl).2 (by omega)) Tryd.underlying32 rfl sz32 (by decide) (fun a48 hR49 => ?_)
    have hS50 : St w0 Z none_ w20 [] [dRow 4 tA t.length tc (encNs t)] := hS22
    refine k_call (xs := [.tmp 17]) se hR49 rfl rfl rfl (by decide) ok56 (rbinds_calls _ (imm Z w0 [] _) (fun _ h => h.1) (nth t k) (hsm _ (by omega))) ?_
    rintro e60 w52 ⟨A56, c57, rfl, hf55, hd58⟩
    have hS61 := hS50.below hf55.below
    have hS62 := hS61.data (dRow 1 A56 ((bindL (nth t k)).length) c57 (encIs (bindL (nth t k)))) ⟨hd58.1, hd58.2.mono (fun _ hk => ⟨nxt_imm hS50 hk, rfl⟩)⟩
    refine ⟨_, rfl, fun a51 hR53 => ?_⟩
    refine mv hR53 (fun a63 hR64 => ?_)
    refine r_extract sv hR64 rfl rfl rfl rfl (by decide) (fun a65 hR66 => ?_)
    refine r_extract sv hR66 rfl rfl rfl rfl (by decide) (fun a67 hR68 => ?_)
    refine asg hR68 (fun a69 hR70 => ?_)
    refine asg hR70 (fun a71 hR72 => ?_)
    refine wpList_nil (x_then_n (hK41 _ _ ?_))
    refine wp_seq_k (fun K73 hK74 => ?_)
    refine wp_seq_k (fun K75 hK76 => ?_)
    refine c_region ?_
    refine mv hR72 (fun a77 hR78 => ?_)
    refine r_not sv hR78 rfl rfl rfl (by decide) (fun a79 hR80 => ?_)
    refine mv hR80 (fun a81 hR82 => ?_)
    refine l_join (fun ga gw => Reg ga 36 [(0, .slice tA t.length tc), (3, .int .i64 ((st.length : Nat) : Int)), (4, .int .i64 ((k : Nat) : Int)), (5, .slice A56 ((bindL (nth t k)).length) c57), (28, .bool ((!(right (nth t k))) || (decide (((st.length : Nat) : Int) < (((bindL (nth t k)).length : Nat) : Int))))), (1000000, .bool false)] ∧ St w0 Z none_ gw [] [dRow 4 tA t.length tc (encNs t), dRow 1 A56 ((bindL (nth t k)).length) c57 (encIs (bindL (nth t k)))]) 5 ?_ ?_
    · skip
      rcases Bool.eq_false_or_eq_true (right (nth t k)) with h83 | h83
      · skip
        have hR84 := hR82.setb (d := 23) (b := false) rfl (by rw [h83]; rfl)
        refine r_move (st_listV_w (wt hR84)) hR84 rfl rfl rfl (by decide) (fun a85 hR86 => ?_)
        refine r_len (st_listV_w (wt hR86)) hR86 rfl rfl rfl rfl Tryd.underlying66 (by decide) (fun a87 hR88 => ?_)
        refine r_move (st_listV_w (wt hR88)) hR88 rfl rfl rfl (by decide) (fun a89 hR90 => ?_)
        refine r_gtr (st_listV_w (wt hR90)) hR90 rfl rfl rfl rfl (by decide) (fun a91 hR92 => ?_)
        refine r_pick_f sv hR92 rfl rfl rfl rfl (by decide) (fun a93 hR94 => ?_)
        refine wpList_nil ?_
        exact x_then_n ⟨(hR94.sub (rc rfl (rc rfl (rc rfl (rc rfl (rc (rb rfl (by first | rfl | (simp only [h83, bl]; done) | (simp [h83]; done) | (simp [h83]; omega))) (rc rfl rnl))))))), hS62⟩
      · skip
        have hR95 := hR82.setb (d := 23) (b := true) rfl (by rw [h83]; rfl)
        refine sps hR95 (wff hR95) (fun a96 hR97 => ?_)
        refine sps hR97 (wff hR97) (fun a98 hR99 => ?_)
        refine sps hR99 (wff hR99) (fun a100 hR101 => ?_)
        refine sps hR101 (wff hR101) (fun a102 hR103 => ?_)
        refine r_pick_t sv hR103 rfl rfl rfl rfl (by decide) (fun a104 hR105 => ?_)
        refine wpList_nil ?_
        exact x_then_n ⟨(hR105.sub (rc rfl (rc rfl (rc rfl (rc rfl (rc (rb rfl (by first | rfl | (simp only [h83, bl]; done) | (simp [h83]; done) | (simp [h83]; omega))) (rc rfl rnl))))))), hS62⟩
    rintro a106 w107 ⟨hR108, hS109⟩
    refine wpList_nil (x_then_n (hK76 _ _ ?_))
    rcases Bool.eq_false_or_eq_true (((!(right (nth t k))) || (decide (((st.length : Nat) : Int) < (((bindL (nth t k)).length : Nat) : Int))))) with h110 | h110
    · skip
      have hq111 := h110
      try simp only [Bool.or_eq_true, Bool.and_eq_true, Bool.not_eq_true', Bool.not_eq_false', decide_eq_true_eq, decide_eq_false_iff_not, Bool.or_eq_false_iff, Bool.and_eq_false_iff] at hq111
      have hR112 := hR108.setb (d := 28) (b := true) rfl h110
      refine wp_cond_true (hR112.ev rfl) ?_
      refine wp_seq_k (fun K113 hK114 => ?_)
      refine c_region ?_
      refine asg hR112 (fun a115 hR116 => ?_)
      refine wpList_nil (x_then_n (hK114 _ _ ?_))
      refine wp_ret ?_
      refine x_then_r ?_
      refine x_block_r ?_
      refine x_then_r ?_
      refine x_then_r ?_
      refine x_block_r ?_
      refine x_then_r ?_
      refine e_ret1 hR116 rfl rfl rfl ?_
      refine ⟨?_, hS109.fr⟩
      exact congrArg Ending.returned (ret_b (by exact (whole_no hsc (by omega) hq111).symm))
    · skip
      have h117 := or_fl h110
      have h118 := not_f h117
      have h119 := or_fr h110
      have h120 := of_decide_eq_false h119
      have hbm := bindL_many (n := nth t k) (by assumption)
      have hR121 := hR108.setb (d := 28) (b := false) rfl h110
      refine wp_cond_false (hR121.ev rfl) ?_
      refine wp_skip ?_
      refine x_then_n (hK74 _ _ ?_)
      refine c_region ?_
      refine mv hR121 (fun a122 hR123 => ?_)
      refine mv hR123 (fun a124 hR125 => ?_)
      refine r_len sv hR125 rfl rfl rfl rfl Tryd.underlying66 (by decide) (fun a126 hR127 => ?_)
      refine r_sub (z := (((st.length : Nat) : Int) - (((bindL (nth t k)).length : Nat) : Int))) sv hR127 rfl rfl rfl rfl (by decide) (by omega) (by omega) (by omega) (fun a128 hR129 => ?_)
      refine r_add (z := (((st.length : Nat) : Int) - (((bindL (nth t k)).length : Nat) : Int) + 1)) sv hR129 rfl rfl rfl rfl (by decide) (by omega) (by omega) (by omega) (fun a130 hR131 => ?_)
      refine asg hR131 (fun a132 hR133 => ?_)
      refine wpList_nil ?_
      refine x_block_n ?_
      refine x_then_n (hK39 _ _ ?_)
      refine c_region ?_
      refine mv hR133 (fun a134 hR135 => ?_)
      refine r_add (z := ((k + 1 : Nat) : Int)) sv hR135 rfl rfl rfl rfl (by decide) (by omega) (by omega) (by omega) (fun a136 hR137 => ?_)
      refine asg hR137 (fun a138 hR139 => ?_)
      refine wpList_nil ?_
      obtain ⟨st', hp, hpl⟩ := push_some (st := st) (n := nth t k) (by assumption) (by omega)
      have hS140 := hS109.forget 1
      exact ⟨_, by omega, k + 1, st', (hR139.sub (rc rfl (rc rfl (rc rfl (rc (ri rfl (by rw [hpl]; omega)) rnl))))), hS140, by omega, (scan_step hsc (by omega)).trans hp, rfl⟩
  · skip
    have hR141 := hR35.setb (d := 10) (b := false) rfl (decide_eq_false h36)
    refine wp_cond_false (hR141.ev rfl) ?_
    refine wp_exit ?_
    refine x_then_e ?_
    refine x_then_e ?_
    refine x_block_eq ?_
    refine x_then_n (hK13 _ _ ?_)
    refine wp_seq_k (fun K142 hK143 => ?_)
    refine c_region ?_
    refine mv hR141 (fun a144 hR145 => ?_)
    refine r_eql sv hR145 rfl rfl rfl rfl (by decide) (fun a146 hR147 => ?_)
    refine asg hR147 (fun a148 hR149 => ?_)
    refine wpList_nil (x_then_n (hK143 _ _ ?_))
    refine wp_ret ?_
    refine e_ret1 hR149 rfl rfl rfl ?_
    refine ⟨?_, hS22.fr⟩
    exact congrArg Ending.returned (ret_b (by first | (rw [measB_end (by rw [← hsc, List.take_of_length_le (by omega)])]; done) | (rw [measB_end (by rw [← hsc, List.take_of_length_le (by omega)])]; simp; done)))

set_option maxRecDepth 100000 in
set_option maxHeartbeats 1000000 in
theorem rdeeper_calls (w0 : World) (Z : Nat → Prop) (hZ : ∀ k, Z k → k < w0.heap.size) (tA : Option Addr) (tc : Nat) (t : List Nd) (ht : (dRow 4 tA t.length tc (encNs t)).φ w0 Z) (hl : t.length ≤ 4000) (hsm : sml t) (hb : measB t = true) :
    Calls Tryd.prog 47 [.slice tA t.length tc].toArray w0 (fun e w' => e = .returned (.bool (deepB t)) ∧ Fr none_ w0 w') := by
  have hstart : ∀ k, Z k → imm Z w0 [] w0 k ∧ w0.heap[k]? = w0.heap[k]? := fun k hk => ⟨⟨hZ k hk, fun _ => hk, fun _ h => by cases h⟩, rfl⟩
  have hS3 : St w0 Z none_ w0 [] [dRow 4 tA t.length tc (encNs t)] := St.start w0 Z none_ _ (by
    intro d hd
    simp only [List.mem_cons, List.not_mem_nil, or_false] at hd
    rcases hd with rfl
    · exact Dat.mono _ _ _ _ _ (Nat.le_refl _) ht hstart
    )
  refine c_enter Tryd.func47 rfl Tryd.ntmps47 rfl (fun a1 hR2 => ?_)
  refine wp_seq_k (fun K4 hK5 => ?_)
  refine c_region ?_
  refine asg hR2 (fun a6 hR7 => ?_)
  refine wpList_nil (x_then_n (hK5 _ _ ?_))
  refine wp_seq_k (fun K8 hK9 => ?_)
  refine c_region ?_
  refine m_buildSlice (ps := []) (cs := []) sv hR7 hS3 rfl rfl rfl Tryd.underlying66 zi3 rfl rfl (by kernel_rfl) rfl (by decide) (fun a10 w11 g12 hR13 hS14 => ?_)
  refine asg hR13 (fun a15 hR16 => ?_)
  refine wpList_nil (x_then_n (hK9 _ _ ?_))
  refine wp_seq_k (fun K17 hK18 => ?_)
  refine wp_seq_k (fun K19 hK20 => ?_)
  refine c_region ?_
  refine asg hR16 (fun a21 hR22 => ?_)
  refine wpList_nil (x_then_n (hK20 _ _ ?_))
  refine wp_block ?_
  refine wp_loop_ghost (fun gn ga gw => ∃ k : Nat, ∃ st : List T, ∃ Al : Option Addr, ∃ cl : Nat, (Reg ga 51 [(1000000, .bool false), (0, .slice tA t.length tc), (4, .int .i64 ((k : Nat) : Int)), (3, .slice Al ((dl st).length) cl)]) ∧ (St w0 Z none_ gw [.row Al ((dl st).length) cl 3 1 (encIs (dl st))] [dRow 4 tA t.length tc (encNs t)]) ∧ (k ≤ t.length) ∧ (scanT [] (t.take k) = some st) ∧ (shallow st) ∧ (t.length - k) = gn) _ ⟨0, [], (some ⟨g12, 0, none⟩), 0, (hR22.sub (rc rfl (rc rfl (rc rfl (rc rfl rnl))))), hS14, by omega, rfl, (fun _ h => by cases h), rfl⟩ ?_
  rintro r23 a24 w25 ⟨k, st, Al, cl, hR26, hS27, hk, hsc, hsh, hn28⟩
  have hfl := scan_flats hsc hk
  have hsl := flats_len_ge st
  have hdl := dl_length st
  refine wp_seq_k (fun K29 hK30 => ?_)
  refine wp_seq_k (fun K31 hK32 => ?_)
  refine c_region ?_
  refine mv hR26 (fun a33 hR34 => ?_)
  refine mv hR34 (fun a35 hR36 => ?_)
  refine r_len sv hR36 rfl rfl rfl rfl Tryd.underlying22 (by decide) (fun a37 hR38 => ?_)
  refine r_lss sv hR38 rfl rfl rfl rfl (by decide) (fun a39 hR40 => ?_)
  refine wpList_nil (x_then_n (hK32 _ _ ?_))
  rcases Decidable.em (((k : Nat) : Int) < ((t.length : Nat) : Int)) with h41 | h41
  · skip
    obtain ⟨hrk, hmk⟩ := measB_at hb hsc (by omega)
    have hbm := bindL_many hrk
    have hR42 := hR40.setb (d := 13) (b := true) rfl (decide_eq_true h41)
    refine wp_cond_true (hR42.ev rfl) ?_
    refine wp_skip ?_
    refine x_then_n (hK30 _ _ ?_)
    refine wp_seq_k (fun K43 hK44 => ?_)
    refine wp_block ?_
    refine wp_seq_k (fun K45 hK46 => ?_)
    refine c_region ?_
    refine mv hR42 (fun a47 hR48 => ?_)
    refine mv hR48 (fun a49 hR50 => ?_)
    refine m_index (i := k) (j := k * 4) sv hR50 rfl rfl rfl rfl Tryd.underlying22 sz32 (by omega) (by omega) (nds_elem (t := t) (k := k) (hS27.row (i := 0) rfl).2 (by omega)).some_ rfl (by decide) (fun a51 hR52 => ?_)
    refine m_loadEN sv hR52 rfl rfl rfl (nds_elem (t := t) (k := k) (hS27.row (i := 0) rfl).2 (by omega)) Tryd.underlying32 rfl sz32 (by decide) (fun a53 hR54 => ?_)
    have hS55 : St w0 Z none_ w25 [.row Al ((dl st).length) cl 3 1 (encIs (dl st))] [dRow 4 tA t.length tc (encNs t)] := hS27
    refine k_call (xs := [.tmp 20]) se hR54 rfl rfl rfl (by decide) ok56 (rbinds_calls _ (imm Z w0 [.row Al ((dl st).length) cl 3 1 (encIs (dl st))] _) (fun _ h => h.1) (nth t k) (hsm _ (by omega))) ?_
    rintro e65 w57 ⟨A61, c62, rfl, hf60, hd63⟩
    have hS66 := hS55.below hf60.below
    have hS67 := hS66.data (dRow 1 A61 ((bindL (nth t k)).length) c62 (encIs (bindL (nth t k)))) ⟨hd63.1, hd63.2.mono (fun _ hk => ⟨nxt_imm hS55 hk, rfl⟩)⟩
    refine ⟨_, rfl, fun a56 hR58 => ?_⟩
    refine mv hR58 (fun a68 hR69 => ?_)
    refine r_extract sv hR69 rfl rfl rfl rfl (by decide) (fun a70 hR71 => ?_)
    refine r_extract sv hR71 rfl rfl rfl rfl (by decide) (fun a72 hR73 => ?_)
    refine asg hR73 (fun a74 hR75 => ?_)
    refine asg hR75 (fun a76 hR77 => ?_)
    refine wpList_nil (x_then_n (hK46 _ _ ?_))
    refine wp_seq_k (fun K78 hK79 => ?_)
    refine c_region ?_
    refine asg hR77 (fun a80 hR81 => ?_)
    refine wpList_nil (x_then_n (hK79 _ _ ?_))
    refine wp_seq_k (fun K82 hK83 => ?_)
    refine wp_seq_k (fun K84 hK85 => ?_)
    refine c_region ?_
    refine asg hR81 (fun a86 hR87 => ?_)
    refine wpList_nil (x_then_n (hK85 _ _ ?_))
    refine wp_block ?_
    refine wp_loop_ghost (fun gn ga gw => ∃ j : Nat, (Reg ga 51 [(1000000, .bool false), (0, .slice tA t.length tc), (4, .int .i64 ((k : Nat) : Int)), (5, .slice A61 ((bindL (nth t k)).length) c62), (8, .int .i64 ((j : Nat) : Int)), (7, .int .i64 ((maxB st j))), (3, .slice Al ((dl st).length - j) cl)]) ∧ (St w0 Z none_ gw [.row Al ((dl st).length) cl 3 1 (encIs (dl st))] [dRow 4 tA t.length tc (encNs t), dRow 1 A61 ((bindL (nth t k)).length) c62 (encIs (bindL (nth t k)))]) ∧ (j ≤ many (nth t k)) ∧ (many (nth t k) - j) = gn) _ ⟨0, (hR87.sub (rc rfl (rc rfl (rc rfl (rc rfl (rc rfl (rc (ri rfl (by rw [maxB_zero])) (rc rfl rnl)))))))), hS67, by omega, rfl⟩ ?_
    rintro r88 a89 w90 ⟨j, hR91, hS92, hj, hn93⟩
    have hmx := maxB_le (st := st) (j := j)
    refine wp_seq_k (fun K94 hK95 => ?_)
    refine wp_seq_k (fun K96 hK97 => ?_)
    refine c_region ?_
    refine mv hR91 (fun a98 hR99 => ?_)
    refine mv hR99 (fun a100 hR101 => ?_)
    refine r_len sv hR101 rfl rfl rfl rfl Tryd.underlying66 (by decide) (fun a102 hR103 => ?_)
    refine r_lss sv hR103 rfl rfl rfl rfl (by decide) (fun a104 hR105 => ?_)
    refine wpList_nil (x_then_n (hK97 _ _ ?_))
    rcases Decidable.em (((j : Nat) : Int) < (((bindL (nth t k)).length : Nat) : Int)) with h106 | h106
    · skip
      have hR107 := hR105.setb (d := 27) (b := true) rfl (decide_eq_true h106)
      refine wp_cond_true (hR107.ev rfl) ?_
      refine wp_skip ?_
      refine x_then_n (hK95 _ _ ?_)
      refine wp_seq_k (fun K108 hK109 => ?_)
      refine wp_block ?_
      refine wp_seq_k (fun K110 hK111 => ?_)
      refine c_region ?_
      refine mv hR107 (fun a112 hR113 => ?_)
      refine mv hR113 (fun a114 hR115 => ?_)
      refine mv hR115 (fun a116 hR117 => ?_)
      refine r_len sv hR117 rfl rfl rfl rfl Tryd.underlying66 (by decide) (fun a118 hR119 => ?_)
      refine r_sub (z := ((((dl st).length - j : Nat) : Int) - 1)) sv hR119 rfl rfl rfl rfl (by decide) (by omega) (by omega) (by omega) (fun a120 hR121 => ?_)
      refine m_index (i := ((dl st).length - j) - (1)) (j := (((dl st).length - j) - (1)) * 1) sv hR121 rfl rfl rfl rfl Tryd.underlying66 sz3 (by omega) (by omega) (own_ints (t := dl st) (k := ((dl st).length - j) - (1)) (hS92.res (i := 0) rfl) (by omega)).some_ rfl (by decide) (fun a122 hR123 => ?_)
      refine m_loadE sv hR123 rfl rfl rfl 0 ((((dl st).length - j) - (1)) * 1) (own_ints (t := dl st) (k := ((dl st).length - j) - (1)) (hS92.res (i := 0) rfl) (by omega)) rfl rfl Tryd.underlying3 rfl (by decide) (fun a124 hR125 => ?_)
      refine r_max sv hR125 rfl rfl rfl rfl rfl (by decide) (fun a126 hR127 => ?_)
      refine asg hR127 (fun a128 hR129 => ?_)
      refine wpList_nil (x_then_n (hK111 _ _ (c_region ?_)))
      refine mv hR129 (fun a130 hR131 => ?_)
      refine mv hR131 (fun a132 hR133 => ?_)
      refine r_len sv hR133 rfl rfl rfl rfl Tryd.underlying66 (by decide) (fun a134 hR135 => ?_)
      refine r_sub (z := ((((dl st).length - j : Nat) : Int) - 1)) sv hR135 rfl rfl rfl rfl (by decide) (by omega) (by omega) (by omega) (fun a136 hR137 => ?_)
      have hcap140 := own_cap (hS92.res (i := 0) rfl)
      refine m_sliceP (q := ((dl st).length - j) - (1)) sv hR137 rfl rfl rfl rfl (by omega) Tryd.underlying66 sz3 (by omega) (by decide) (fun a141 hR142 => ?_)
      refine asg hR142 (fun a143 hR144 => ?_)
      refine wpList_nil ?_
      refine x_block_n ?_
      refine x_then_n (hK109 _ _ ?_)
      refine c_region ?_
      refine mv hR144 (fun a145 hR146 => ?_)
      refine r_add (z := ((j + 1 : Nat) : Int)) sv hR146 rfl rfl rfl rfl (by decide) (by omega) (by omega) (by omega) (fun a147 hR148 => ?_)
      refine asg hR148 (fun a149 hR150 => ?_)
      refine wpList_nil ?_
      exact ⟨_, by omega, j + 1, (hR150.sub (rc rfl (rc rfl (rc rfl (rc rfl (rc rfl (rc (ri rfl (by rw [dl_length]; exact (maxB_step (by omega)).symm)) (rc rfl rnl)))))))), hS92, by omega, rfl⟩
    · skip
      have hR151 := hR105.setb (d := 27) (b := false) rfl (decide_eq_false h106)
      refine wp_cond_false (hR151.ev rfl) ?_
      refine wp_exit ?_
      refine x_then_e ?_
      refine x_then_e ?_
      refine x_block_eq ?_
      refine x_then_n (hK83 _ _ ?_)
      refine wp_seq_k (fun K152 hK153 => ?_)
      refine wp_seq_k (fun K154 hK155 => ?_)
      refine c_region ?_
      refine mv hR151 (fun a156 hR157 => ?_)
      refine r_add (z := ((maxB st j) + 1)) sv hR157 rfl rfl rfl rfl (by decide) (by omega) (by omega) (by omega) (fun a158 hR159 => ?_)
      refine r_gtr sv hR159 rfl rfl rfl rfl (by decide) (fun a160 hR161 => ?_)
      refine wpList_nil (x_then_n (hK155 _ _ ?_))
      rcases Decidable.em (60 < ((maxB st j) + 1)) with h162 | h162
      · skip
        have hR163 := hR161.setb (d := 45) (b := true) rfl (decide_eq_true h162)
        refine wp_cond_true (hR163.ev rfl) ?_
        refine wp_seq_k (fun K164 hK165 => ?_)
        refine c_region ?_
        refine asg hR163 (fun a166 hR167 => ?_)
        refine wpList_nil (x_then_n (hK165 _ _ ?_))
        refine wp_ret ?_
        refine x_then_r ?_
        refine x_block_r ?_
        refine x_then_r ?_
        refine x_then_r ?_
        refine x_block_r ?_
        refine x_then_r ?_
        refine e_ret1 hR167 rfl rfl rfl ?_
        refine ⟨?_, hS92.fr⟩
        exact congrArg Ending.returned (ret_b (by exact (deepB_true (k := k) hb hsc (by omega) hrk (by omega) (by rw [← show j = many (nth t k) by omega]; omega)).symm))
      · skip
        have hR168 := hR161.setb (d := 45) (b := false) rfl (decide_eq_false h162)
        refine wp_cond_false (hR168.ev rfl) ?_
        refine wp_skip ?_
        refine x_then_n (hK153 _ _ ?_)
        refine c_region ?_
        refine mv hR168 (fun a169 hR170 => ?_)
        refine mv hR170 (fun a171 hR172 => ?_)
        refine r_add (z := ((maxB st j) + 1)) sv hR172 rfl rfl rfl rfl (by decide) (by omega) (by omega) (by omega) (fun a173 hR174 => ?_)
        refine m_buildSlice (ps := [(0, .tmp 48)]) (cs := [.int .i64 ((maxB st j) + 1)]) sv hR174 hS92 rfl rfl rfl Tryd.underlying66 zi3 rfl rfl (by kernel_rfl) rfl (by decide) (fun a175 w176 g177 hR178 hS179 => ?_)
        refine m_appendC (f := encI) (i := 0) (dl st) ([((maxB st j) + 1)]) sv hR178 hS179 rfl rfl rfl rfl rfl (by omega) encI_len (encI_one _) Tryd.underlying66 zi3 rfl rfl (own_lnews (f := encI) (hS179.res (i := 1) rfl)) rfl (by first | omega | (simp only [List.length_cons, List.length_nil]; omega)) (by decide) (fun a180 w181 A182 c183 hc184 hR185 hS186 => ?_)
        have hl188 : ((dl st).take ((dl st).length - j) ++ ([((maxB st j) + 1)]) : List Int).length = (dl st).length - j + 1 := by first | (simp only [List.length_append, List.length_take, List.length_cons, List.length_nil]; done) | (simp only [List.length_append, List.length_take, List.length_cons, List.length_nil]; omega)
        have hS189 := hS186.erase 1
        refine asg hR185 (fun a190 hR191 => ?_)
        refine wpList_nil ?_
        refine x_block_n ?_
        refine x_then_n (hK44 _ _ ?_)
        refine c_region ?_
        refine mv hR191 (fun a192 hR193 => ?_)
        refine r_add (z := ((k + 1 : Nat) : Int)) sv hR193 rfl rfl rfl rfl (by decide) (by omega) (by omega) (by omega) (fun a194 hR195 => ?_)
        refine asg hR195 (fun a196 hR197 => ?_)
        refine wpList_nil ?_
        obtain ⟨st', hp, hpl⟩ := push_some (st := st) (n := nth t k) hrk (by omega)
        have hpd := (push_dl hp).1
        have hjq : j = many (nth t k) := by omega
        have he198 : (dl st).take ((dl st).length - j) ++ ([((maxB st j) + 1)]) = dl st' := by rw [hpd, hjq, dl_length]
        have hR199 := hR197
        have hS200 := hS189
        rw [he198] at hR199 hS200
        have hS201 := hS200.forget 1
        exact ⟨_, by omega, k + 1, st', A182, c183, (hR199.sub (rc rfl (rc rfl (rc rfl (rc rfl rnl))))), hS201, by omega, (scan_step hsc (by omega)).trans hp, shallow_push hp hsh (by rw [← hjq]; omega), rfl⟩
  · skip
    have hR202 := hR40.setb (d := 13) (b := false) rfl (decide_eq_false h41)
    refine wp_cond_false (hR202.ev rfl) ?_
    refine wp_exit ?_
    refine x_then_e ?_
    refine x_then_e ?_
    refine x_block_eq ?_
    refine x_then_n (hK18 _ _ ?_)
    refine wp_seq_k (fun K203 hK204 => ?_)
    refine c_region ?_
    refine asg hR202 (fun a205 hR206 => ?_)
    refine wpList_nil (x_then_n (hK204 _ _ ?_))
    refine wp_ret ?_
    refine e_ret1 hR206 rfl rfl rfl ?_
    refine ⟨?_, hS27.fr⟩
    exact congrArg Ending.returned (ret_b (by exact (deepB_false (by rw [← hsc, List.take_of_length_le (by omega)]) hsh).symm))

set_option maxRecDepth 100000 in
set_option maxHeartbeats 1000000 in
theorem rcheck_calls (w0 : World) (Z : Nat → Prop) (hZ : ∀ k, Z k → k < w0.heap.size) (tA : Option Addr) (tc : Nat) (t : List Nd) (ht : (dRow 4 tA t.length tc (encNs t)).φ w0 Z) (hl : t.length ≤ 100000000) (hsm : sml t) :
    Calls Tryd.prog 19 [.slice tA t.length tc].toArray w0 (fun e w' => e = .returned (.int .i64 (chk t)) ∧ Fr none_ w0 w') := by
  have hstart : ∀ k, Z k → imm Z w0 [] w0 k ∧ w0.heap[k]? = w0.heap[k]? := fun k hk => ⟨⟨hZ k hk, fun _ => hk, fun _ h => by cases h⟩, rfl⟩
  have hS3 : St w0 Z none_ w0 [] [dRow 4 tA t.length tc (encNs t)] := St.start w0 Z none_ _ (by
    intro d hd
    simp only [List.mem_cons, List.not_mem_nil, or_false] at hd
    rcases hd with rfl
    · exact Dat.mono _ _ _ _ _ (Nat.le_refl _) ht hstart
    )
  refine c_enter Tryd.func19 rfl Tryd.ntmps19 rfl (fun a1 hR2 => ?_)
  refine wp_seq_k (fun K4 hK5 => ?_)
  refine c_region ?_
  refine asg hR2 (fun a6 hR7 => ?_)
  refine wpList_nil (x_then_n (hK5 _ _ ?_))
  refine wp_seq_k (fun K8 hK9 => ?_)
  refine wp_seq_k (fun K10 hK11 => ?_)
  refine c_region ?_
  refine mv hR7 (fun a12 hR13 => ?_)
  refine r_len sv hR13 rfl rfl rfl rfl Tryd.underlying22 (by decide) (fun a14 hR15 => ?_)
  refine r_gtr sv hR15 rfl rfl rfl rfl (by decide) (fun a16 hR17 => ?_)
  refine wpList_nil (x_then_n (hK11 _ _ ?_))
  rcases Decidable.em (4000 < ((t.length : Nat) : Int)) with h18 | h18
  · skip
    have hR19 := hR17.setb (d := 5) (b := true) rfl (decide_eq_true h18)
    refine wp_cond_true (hR19.ev rfl) ?_
    refine wp_seq_k (fun K20 hK21 => ?_)
    refine c_region ?_
    refine asg hR19 (fun a22 hR23 => ?_)
    refine wpList_nil (x_then_n (hK21 _ _ ?_))
    refine wp_ret ?_
    refine x_then_r ?_
    refine e_ret1 hR23 rfl rfl rfl ?_
    refine ⟨?_, hS3.fr⟩
    exact congrArg Ending.returned (ret_i (by exact (chk_size (by omega)).symm))
  · skip
    have hR24 := hR17.setb (d := 5) (b := false) rfl (decide_eq_false h18)
    refine wp_cond_false (hR24.ev rfl) ?_
    refine wp_skip ?_
    refine x_then_n (hK9 _ _ ?_)
    refine wp_seq_k (fun K25 hK26 => ?_)
    refine wp_seq_k (fun K27 hK28 => ?_)
    refine c_region ?_
    refine mv hR24 (fun a29 hR30 => ?_)
    have hS31 : St w0 Z none_ w0 [] [dRow 4 tA t.length tc (encNs t)] := hS3
    refine k_call (xs := [.tmp 6]) se hR30 rfl rfl rfl (by decide) ok46 (rwhole_calls _ (imm Z w0 [] _) (fun _ h => h.1) tA tc t (hS31.get (i := 0) rfl) (by first | assumption | omega | (simp; done) | (simp; omega)) (by first | assumption | omega | (simp; done) | (simp; omega))) ?_
    rintro e38 w33 ⟨rfl, hf36⟩
    have hS39 := hS31.below hf36.below
    refine ⟨_, rfl, fun a32 hR34 => ?_⟩
    refine r_not sv hR34 rfl rfl rfl (by decide) (fun a40 hR41 => ?_)
    refine wpList_nil (x_then_n (hK28 _ _ ?_))
    rcases Bool.eq_false_or_eq_true (measB t) with h42 | h42
    · skip
      have hR43 := hR41.setb (d := 8) (b := false) rfl (by rw [h42]; rfl)
      refine wp_cond_false (hR43.ev rfl) ?_
      refine wp_skip ?_
      refine x_then_n (hK26 _ _ ?_)
      refine wp_seq_k (fun K44 hK45 => ?_)
      refine wp_seq_k (fun K46 hK47 => ?_)
      refine c_region ?_
      refine mv hR43 (fun a48 hR49 => ?_)
      have hS50 : St w0 Z none_ w33 [] [dRow 4 tA t.length tc (encNs t)] := hS39
      refine k_call (xs := [.tmp 9]) se hR49 rfl rfl rfl (by decide) ok47 (rdeeper_calls _ (imm Z w0 [] _) (fun _ h => h.1) tA tc t (hS50.get (i := 0) rfl) (by first | assumption | omega | (simp; done) | (simp; omega)) (by first | assumption | omega | (simp; done) | (simp; omega)) (by first | assumption | omega | (simp; done) | (simp; omega))) ?_
      rintro e57 w52 ⟨rfl, hf55⟩
      have hS58 := hS50.below hf55.below
      refine ⟨_, rfl, fun a51 hR53 => ?_⟩
      refine wpList_nil (x_then_n (hK47 _ _ ?_))
      rcases Bool.eq_false_or_eq_true (deepB t) with h59 | h59
      · skip
        have hR60 := hR53.setb (d := 10) (b := true) rfl h59
        refine wp_cond_true (hR60.ev rfl) ?_
        refine wp_seq_k (fun K61 hK62 => ?_)
        refine c_region ?_
        refine asg hR60 (fun a63 hR64 => ?_)
        refine wpList_nil (x_then_n (hK62 _ _ ?_))
        refine wp_ret ?_
        refine x_then_r ?_
        refine e_ret1 hR64 rfl rfl rfl ?_
        refine ⟨?_, hS58.fr⟩
        exact congrArg Ending.returned (ret_i (by (rw [chk_whole (by omega) (by assumption)]; simp [h18, h42, h59])))
      · skip
        have hR65 := hR53.setb (d := 10) (b := false) rfl h59
        refine wp_cond_false (hR65.ev rfl) ?_
        refine wp_skip ?_
        refine x_then_n (hK45 _ _ ?_)
        refine wp_seq_k (fun K66 hK67 => ?_)
        refine c_region ?_
        refine asg hR65 (fun a68 hR69 => ?_)
        refine wpList_nil (x_then_n (hK67 _ _ ?_))
        refine wp_ret ?_
        refine e_ret1 hR69 rfl rfl rfl ?_
        refine ⟨?_, hS58.fr⟩
        exact congrArg Ending.returned (ret_i (by (rw [chk_whole (by omega) (by assumption)]; simp [h18, h42, h59])))
    · skip
      have hR70 := hR41.setb (d := 8) (b := true) rfl (by rw [h42]; rfl)
      refine wp_cond_true (hR70.ev rfl) ?_
      refine wp_seq_k (fun K71 hK72 => ?_)
      refine c_region ?_
      refine asg hR70 (fun a73 hR74 => ?_)
      refine wpList_nil (x_then_n (hK72 _ _ ?_))
      refine wp_ret ?_
      refine x_then_r ?_
      refine e_ret1 hR74 rfl rfl rfl ?_
      refine ⟨?_, hS39.fr⟩
      exact congrArg Ending.returned (ret_i (by exact (chk_form (by omega) (by assumption)).symm))

set_option maxRecDepth 100000 in
set_option maxHeartbeats 1000000 in
theorem rroot_calls (w0 : World) (Z : Nat → Prop) (hZ : ∀ k, Z k → k < w0.heap.size) (tA : Option Addr) (tc : Nat) (t : List Nd) (ht : (dRow 4 tA t.length tc (encNs t)).φ w0 Z) (hl : t.length ≤ 1000000) (h0 : 0 < t.length) :
    Calls Tryd.prog 23 [.slice tA t.length tc].toArray w0 (fun e w' => e = .returned (.agg #[.int .i64 (((nth t (t.length - 1)).K)), .int .i64 (((nth t (t.length - 1)).N)), .int .i64 (((nth t (t.length - 1)).M)), .string ((nth t (t.length - 1)).S)]) ∧ Fr none_ w0 w') := by
  have hstart : ∀ k, Z k → imm Z w0 [] w0 k ∧ w0.heap[k]? = w0.heap[k]? := fun k hk => ⟨⟨hZ k hk, fun _ => hk, fun _ h => by cases h⟩, rfl⟩
  have hS3 : St w0 Z none_ w0 [] [dRow 4 tA t.length tc (encNs t)] := St.start w0 Z none_ _ (by
    intro d hd
    simp only [List.mem_cons, List.not_mem_nil, or_false] at hd
    rcases hd with rfl
    · exact Dat.mono _ _ _ _ _ (Nat.le_refl _) ht hstart
    )
  refine c_enter Tryd.func23 rfl Tryd.ntmps23 rfl (fun a1 hR2 => ?_)
  refine wp_seq_k (fun K4 hK5 => ?_)
  refine c_region ?_
  refine m_alloc (cs := [.int .i64 0, .int .i64 0, .int .i64 0, .string (⟨#[]⟩ : ByteArray)]) sv hR2 hS3 rfl rfl ze32 rfl (by decide) (fun a6 w7 g8 hR9 hS10 => ?_)
  refine wpList_nil (x_then_n (hK5 _ _ ?_))
  refine wp_seq_k (fun K11 hK12 => ?_)
  refine c_region ?_
  refine mv hR9 (fun a13 hR14 => ?_)
  refine mv hR14 (fun a15 hR16 => ?_)
  refine r_len sv hR16 rfl rfl rfl rfl Tryd.underlying22 (by decide) (fun a17 hR18 => ?_)
  refine r_sub (z := (((t.length : Nat) : Int) - 1)) sv hR18 rfl rfl rfl rfl (by decide) (by omega) (by omega) (by omega) (fun a19 hR20 => ?_)
  refine m_index (i := (t.length) - (1)) (j := ((t.length) - (1)) * 4) sv hR20 rfl rfl rfl rfl Tryd.underlying22 sz32 (by omega) (by omega) (nds_elem (t := t) (k := (t.length) - (1)) (hS10.row (i := 0) rfl).2 (by omega)).some_ rfl (by decide) (fun a21 hR22 => ?_)
  refine m_loadEN sv hR22 rfl rfl rfl (nds_elem (t := t) (k := (t.length) - (1)) (hS10.row (i := 0) rfl).2 (by omega)) Tryd.underlying32 rfl sz32 (by decide) (fun a23 hR24 => ?_)
  refine m_store (i := 0) (cs' := [.int .i64 (((nth t ((t.length) - (1))).K)), .int .i64 (((nth t ((t.length) - (1))).N)), .int .i64 (((nth t ((t.length) - (1))).M)), .string ((nth t ((t.length) - (1))).S)]) se hR24 hS10 rfl rfl rfl rfl rfl sz32 rfl rfl rfl (fun a25 w26 hR27 hS28 => ?_)
  refine wpList_nil (x_then_n (hK12 _ _ ?_))
  refine wp_ret ?_
  refine e_cell (i := 0) (vs := [.int .i64 (((nth t ((t.length) - (1))).K)), .int .i64 (((nth t ((t.length) - (1))).N)), .int .i64 (((nth t ((t.length) - (1))).M)), .string ((nth t ((t.length) - (1))).S)]) (.inl rfl) hR27 hS28 rfl rfl rfl rfl Tryd.underlying32 rfl sz32 ?_
  refine ⟨?_, hS28.fr⟩
  exact congrArg Ending.returned rfl

set_option maxRecDepth 100000 in
set_option maxHeartbeats 1000000 in
theorem rsame_calls (w0 : World) (Z : Nat → Prop) (hZ : ∀ k, Z k → k < w0.heap.size) (tA : Option Addr) (tc : Nat) (t : List Nd) (uA : Option Addr) (uc : Nat) (u : List Nd) (ht : (dRow 4 tA t.length tc (encNs t)).φ w0 Z) (hu : (dRow 4 uA u.length uc (encNs u)).φ w0 Z) (hl : t.length ≤ 1000000) :
    Calls Tryd.prog 30 [.slice tA t.length tc, .slice uA u.length uc].toArray w0 (fun e w' => e = .returned (.bool (decide (t = u))) ∧ Fr none_ w0 w') := by
  have hstart : ∀ k, Z k → imm Z w0 [] w0 k ∧ w0.heap[k]? = w0.heap[k]? := fun k hk => ⟨⟨hZ k hk, fun _ => hk, fun _ h => by cases h⟩, rfl⟩
  have hS3 : St w0 Z none_ w0 [] [dRow 4 tA t.length tc (encNs t), dRow 4 uA u.length uc (encNs u)] := St.start w0 Z none_ _ (by
    intro d hd
    simp only [List.mem_cons, List.not_mem_nil, or_false] at hd
    rcases hd with rfl | rfl
    · exact Dat.mono _ _ _ _ _ (Nat.le_refl _) ht hstart
    · exact Dat.mono _ _ _ _ _ (Nat.le_refl _) hu hstart
    )
  refine c_enter Tryd.func30 rfl Tryd.ntmps30 rfl (fun a1 hR2 => ?_)
  refine wp_seq_k (fun K4 hK5 => ?_)
  refine c_region ?_
  refine asg hR2 (fun a6 hR7 => ?_)
  refine wpList_nil (x_then_n (hK5 _ _ ?_))
  refine wp_seq_k (fun K8 hK9 => ?_)
  refine wp_seq_k (fun K10 hK11 => ?_)
  refine c_region ?_
  refine mv hR7 (fun a12 hR13 => ?_)
  refine r_len sv hR13 rfl rfl rfl rfl Tryd.underlying22 (by decide) (fun a14 hR15 => ?_)
  refine mv hR15 (fun a16 hR17 => ?_)
  refine r_len sv hR17 rfl rfl rfl rfl Tryd.underlying22 (by decide) (fun a18 hR19 => ?_)
  refine r_neq sv hR19 rfl rfl rfl rfl (by decide) (fun a20 hR21 => ?_)
  refine wpList_nil (x_then_n (hK11 _ _ ?_))
  rcases Decidable.em (((t.length : Nat) : Int) = ((u.length : Nat) : Int)) with h22 | h22
  · skip
    have hR23 := hR21.setb (d := 10) (b := false) rfl (by rw [(decide_eq_true h22)]; rfl)
    refine wp_cond_false (hR23.ev rfl) ?_
    refine wp_skip ?_
    refine x_then_n (hK9 _ _ ?_)
    refine wp_seq_k (fun K24 hK25 => ?_)
    refine wp_seq_k (fun K26 hK27 => ?_)
    refine c_region ?_
    refine asg hR23 (fun a28 hR29 => ?_)
    refine wpList_nil (x_then_n (hK27 _ _ ?_))
    refine wp_block ?_
    refine wp_loop_ghost (fun gn ga gw => ∃ k : Nat, (Reg ga 26 [(1000000, .bool false), (0, .slice tA t.length tc), (1, .slice uA u.length uc), (5, .int .i64 ((k : Nat) : Int))]) ∧ (St w0 Z none_ gw [] [dRow 4 tA t.length tc (encNs t), dRow 4 uA u.length uc (encNs u)]) ∧ (k ≤ t.length) ∧ (t.take k = u.take k) ∧ (t.length - k) = gn) _ ⟨0, (hR29.sub (rc rfl (rc rfl (rc rfl (rc rfl rnl))))), hS3, by omega, rfl, rfl⟩ ?_
    rintro r30 a31 w32 ⟨k, hR33, hS34, hk, hi, hn35⟩
    refine wp_seq_k (fun K36 hK37 => ?_)
    refine wp_seq_k (fun K38 hK39 => ?_)
    refine c_region ?_
    refine mv hR33 (fun a40 hR41 => ?_)
    refine mv hR41 (fun a42 hR43 => ?_)
    refine r_len sv hR43 rfl rfl rfl rfl Tryd.underlying22 (by decide) (fun a44 hR45 => ?_)
    refine r_lss sv hR45 rfl rfl rfl rfl (by decide) (fun a46 hR47 => ?_)
    refine wpList_nil (x_then_n (hK39 _ _ ?_))
    rcases Decidable.em (((k : Nat) : Int) < ((t.length : Nat) : Int)) with h48 | h48
    · skip
      have hR49 := hR47.setb (d := 14) (b := true) rfl (decide_eq_true h48)
      refine wp_cond_true (hR49.ev rfl) ?_
      refine wp_skip ?_
      refine x_then_n (hK37 _ _ ?_)
      refine wp_seq_k (fun K50 hK51 => ?_)
      refine wp_block ?_
      refine wp_seq_k (fun K52 hK53 => ?_)
      obtain ⟨J54, hJ55, hS56⟩ := hS34.agree
      refine d_region2 (S := (fun x => agr w32 J54 x ∧ True)) (n := 9) mixed rfl hS56 (pan_then (pan_block (pan_then (pan_then (pan_block (pan_then pan_body)))))) (fun Q59 hP60 hN61 w57 hS58 => ?_)
      have hSw62 : agr w32 J54 w57 ∧ True := ⟨⟨(hS58.get (i := 2) rfl).1, fun k hk => ((hS58.get (i := 2) rfl).2 k hk).2⟩, trivial⟩
      refine dt 0 rfl hP60 hR49 (want_n rfl) (fun x hx => r_move (sy hR49) hR49 rfl rfl rfl (by decide) gt) hSw62 (fun a63 hR64 => ?_)
      refine dt 1 rfl hP60 hR64 (want_n rfl) (fun x hx => r_move (sy hR64) hR64 rfl rfl rfl (by decide) gt) hSw62 (fun a65 hR66 => ?_)
      refine dt 2 rfl hP60 hR66 (want_n rfl) (fun x hx => m_index (i := k) (j := k * 4) (sy hR66) hR66 rfl rfl rfl rfl Tryd.underlying22 sz32 (by omega) (by omega) (nds_elem (t := t) (k := k) (sdat (hJ55 0 _ rfl) hx.1).2 (by omega)).some_ rfl (by decide) gt) hSw62 (fun a67 hR68 => ?_)
      refine dt 3 rfl hP60 hR68 (want_n rfl) (fun x hx => m_loadEN (sy hR68) hR68 rfl rfl rfl (nds_elem (t := t) (k := k) (sdat (hJ55 0 _ rfl) hx.1).2 (by omega)) Tryd.underlying32 rfl sz32 (by decide) gt) hSw62 (fun a69 hR70 => ?_)
      refine dt 4 rfl hP60 hR70 (want_n rfl) (fun x hx => r_move (sy hR70) hR70 rfl rfl rfl (by decide) gt) hSw62 (fun a71 hR72 => ?_)
      refine dt 5 rfl hP60 hR72 (want_n rfl) (fun x hx => r_move (sy hR72) hR72 rfl rfl rfl (by decide) gt) hSw62 (fun a73 hR74 => ?_)
      refine dt 6 rfl hP60 hR74 (want_n rfl) (fun x hx => m_index (i := k) (j := k * 4) (sy hR74) hR74 rfl rfl rfl rfl Tryd.underlying22 sz32 (by omega) (by omega) (nds_elem (t := u) (k := k) (sdat (hJ55 1 _ rfl) hx.1).2 (by omega)).some_ rfl (by decide) gt) hSw62 (fun a75 hR76 => ?_)
      refine dt 7 rfl hP60 hR76 (want_n rfl) (fun x hx => m_loadEN (sy hR76) hR76 rfl rfl rfl (nds_elem (t := u) (k := k) (sdat (hJ55 1 _ rfl) hx.1).2 (by omega)) Tryd.underlying32 rfl sz32 (by decide) gt) hSw62 (fun a77 hR78 => ?_)
      refine dt 8 rfl hP60 hR78 (want_n rfl) (fun x hx => r_neqN (m := (nth t k)) (n := (nth u k)) (sy hR78) hR78 rfl rfl rfl rfl (by decide) gt) hSw62 (fun a79 hR80 => ?_)
      refine wpAnyH_done (by kernel_rfl) (hN61 _ _ ?_) _
      refine x_then_n (hK53 _ _ ?_)
      rcases Decidable.em ((nth t k) = (nth u k)) with h81 | h81
      · skip
        have hR82 := hR80.setb (d := 25) (b := false) rfl (by rw [(decide_eq_true h81)]; rfl)
        refine wp_cond_false (hR82.ev rfl) ?_
        refine wp_skip ?_
        refine x_block_n ?_
        refine x_then_n (hK51 _ _ ?_)
        refine c_region ?_
        refine mv hR82 (fun a83 hR84 => ?_)
        refine r_add (z := ((k + 1 : Nat) : Int)) sv hR84 rfl rfl rfl rfl (by decide) (by omega) (by omega) (by omega) (fun a85 hR86 => ?_)
        refine asg hR86 (fun a87 hR88 => ?_)
        refine wpList_nil ?_
        have hS89 := hS58.forget 2
        exact ⟨_, by omega, k + 1, (hR88.sub (rc rfl (rc rfl (rc rfl (rc rfl rnl))))), hS89, by omega, same_step hi (by omega) (by omega) (by assumption), rfl⟩
      · skip
        have hR90 := hR80.setb (d := 25) (b := true) rfl (by rw [(decide_eq_false h81)]; rfl)
        refine wp_cond_true (hR90.ev rfl) ?_
        refine wp_seq_k (fun K91 hK92 => ?_)
        refine c_region ?_
        refine asg hR90 (fun a93 hR94 => ?_)
        refine wpList_nil (x_then_n (hK92 _ _ ?_))
        refine wp_ret ?_
        refine x_block_r ?_
        refine x_then_r ?_
        refine x_then_r ?_
        refine x_block_r ?_
        refine x_then_r ?_
        refine e_ret1 hR94 rfl rfl rfl ?_
        refine ⟨?_, hS58.fr⟩
        exact congrArg Ending.returned (ret_b (by first | exact (same_len (by omega)).symm | exact (same_no (k := k) (by omega) (by omega) (by assumption)).symm | exact (same_end hi (by omega) (by omega)).symm))
    · skip
      have hR95 := hR47.setb (d := 14) (b := false) rfl (decide_eq_false h48)
      refine wp_cond_false (hR95.ev rfl) ?_
      refine wp_exit ?_
      refine x_then_e ?_
      refine x_then_e ?_
      refine x_block_eq ?_
      refine x_then_n (hK25 _ _ ?_)
      refine wp_seq_k (fun K96 hK97 => ?_)
      refine c_region ?_
      refine asg hR95 (fun a98 hR99 => ?_)
      refine wpList_nil (x_then_n (hK97 _ _ ?_))
      refine wp_ret ?_
      refine e_ret1 hR99 rfl rfl rfl ?_
      refine ⟨?_, hS34.fr⟩
      exact congrArg Ending.returned (ret_b (by first | exact (same_len (by omega)).symm | exact (same_no (k := k) (by omega) (by omega) (by assumption)).symm | exact (same_end hi (by omega) (by omega)).symm))
  · skip
    have hR100 := hR21.setb (d := 10) (b := true) rfl (by rw [(decide_eq_false h22)]; rfl)
    refine wp_cond_true (hR100.ev rfl) ?_
    refine wp_seq_k (fun K101 hK102 => ?_)
    refine c_region ?_
    refine asg hR100 (fun a103 hR104 => ?_)
    refine wpList_nil (x_then_n (hK102 _ _ ?_))
    refine wp_ret ?_
    refine x_then_r ?_
    refine e_ret1 hR104 rfl rfl rfl ?_
    refine ⟨?_, hS3.fr⟩
    exact congrArg Ending.returned (ret_b (by first | exact (same_len (by omega)).symm | exact (same_no (k := k) (by omega) (by omega) (by assumption)).symm | exact (same_end hi (by omega) (by omega)).symm))
end Go.Proofs.YtobgdeffhdefeaaDoor
/- Contracts of functions, one theorem each: what the call returns, and that nothing old is changed. Printed by gen.py. -/
namespace Go.Proofs.YtobgdeffhdefeaaDoor
open Go Go.RowKit
set_option linter.unusedSimpArgs false
set_option linter.unusedVariables false

set_option maxRecDepth 100000 in
set_option maxHeartbeats 1000000 in
theorem rfrom_calls_rec (rn : Nat) : ∀ (w0 : World) (Z : Nat → Prop) (hZ : ∀ k, Z k → k < w0.heap.size) (tA : Option Addr) (tc : Nat) (t : List Nd) (ed : Int) (ht : (dRow 4 tA t.length tc (encNs t)).φ w0 Z) (hl : t.length ≤ 1000000) (hsm : sml t) (hb : measB t = true) (he0 : 0 ≤ ed) (he1 : ed < t.length) (hrn : ed.toNat = rn),
    Calls Tryd.prog 57 [.slice tA t.length tc, .int .i64 ed].toArray w0 (fun e w' => e = .returned (.int .i64 ((frL t ed.toNat : Nat) : Int)) ∧ Fr none_ w0 w') := by
  induction rn using Nat.strongRecOn
  rename_i rn ih
  intro w0 Z hZ tA tc t ed ht hl hsm hb he0 he1 hrn
  have hstart : ∀ k, Z k → imm Z w0 [] w0 k ∧ w0.heap[k]? = w0.heap[k]? := fun k hk => ⟨⟨hZ k hk, fun _ => hk, fun _ h => by cases h⟩, rfl⟩
  have hS3 : St w0 Z none_ w0 [] [dRow 4 tA t.length tc (encNs t)] := St.start w0 Z none_ _ (by
    intro d hd
    simp only [List.mem_cons, List.not_mem_nil, or_false] at hd
    rcases hd with rfl
    · exact Dat.mono _ _ _ _ _ (Nat.le_refl _) ht hstart
    )
  have hm8 := many_le (right_at hb (show ed.toNat < t.length by omega))
  have hbm := bindL_many (right_at hb (show ed.toNat < t.length by omega))
  refine c_enter Tryd.func57 rfl Tryd.ntmps57 rfl (fun a1 hR2 => ?_)
  refine wp_seq_k (fun K4 hK5 => ?_)
  refine c_region ?_
  refine asg hR2 (fun a6 hR7 => ?_)
  refine wpList_nil (x_then_n (hK5 _ _ ?_))
  refine wp_seq_k (fun K8 hK9 => ?_)
  refine wp_seq_k (fun K10 hK11 => ?_)
  refine c_region ?_
  refine mv hR7 (fun a12 hR13 => ?_)
  refine r_lss sv hR13 rfl rfl rfl rfl (by decide) (fun a14 hR15 => ?_)
  refine wpList_nil (x_then_n (hK11 _ _ ?_))
  have h16 : ¬ ((ed) < 0) := by omega
  have hR17 := hR15.setb (d := 10) (b := false) rfl (decide_eq_false h16)
  refine wp_cond_false (hR17.ev rfl) ?_
  refine wp_skip ?_
  refine x_then_n (hK9 _ _ ?_)
  refine wp_seq_k (fun K18 hK19 => ?_)
  refine c_region ?_
  refine mv hR17 (fun a20 hR21 => ?_)
  refine mv hR21 (fun a22 hR23 => ?_)
  refine m_index (i := ((ed)).toNat) (j := (((ed)).toNat) * 4) sv hR23 rfl rfl rfl rfl Tryd.underlying22 sz32 (by omega) (by omega) (nds_elem (t := t) (k := ((ed)).toNat) (hS3.row (i := 0) rfl).2 (by omega)).some_ rfl (by decide) (fun a24 hR25 => ?_)
  refine m_loadEN sv hR25 rfl rfl rfl (nds_elem (t := t) (k := ((ed)).toNat) (hS3.row (i := 0) rfl).2 (by omega)) Tryd.underlying32 rfl sz32 (by decide) (fun a26 hR27 => ?_)
  have hS28 : St w0 Z none_ w0 [] [dRow 4 tA t.length tc (encNs t)] := hS3
  refine k_call (xs := [.tmp 15]) se hR27 rfl rfl rfl (by decide) ok56 (rbinds_calls _ (imm Z w0 [] _) (fun _ h => h.1) (nth t (((ed)).toNat)) (hsm _ (by omega))) ?_
  rintro e38 w30 ⟨A34, c35, rfl, hf33, hd36⟩
  have hS39 := hS28.below hf33.below
  have hS40 := hS39.data (dRow 1 A34 ((bindL (nth t (((ed)).toNat))).length) c35 (encIs (bindL (nth t (((ed)).toNat))))) ⟨hd36.1, hd36.2.mono (fun _ hk => ⟨nxt_imm hS28 hk, rfl⟩)⟩
  refine ⟨_, rfl, fun a29 hR31 => ?_⟩
  refine mv hR31 (fun a41 hR42 => ?_)
  refine r_extract sv hR42 rfl rfl rfl rfl (by decide) (fun a43 hR44 => ?_)
  refine r_extract sv hR44 rfl rfl rfl rfl (by decide) (fun a45 hR46 => ?_)
  refine asg hR46 (fun a47 hR48 => ?_)
  refine asg hR48 (fun a49 hR50 => ?_)
  refine wpList_nil (x_then_n (hK19 _ _ ?_))
  refine wp_seq_k (fun K51 hK52 => ?_)
  refine wp_seq_k (fun K53 hK54 => ?_)
  refine c_region ?_
  refine mv hR50 (fun a55 hR56 => ?_)
  refine r_not sv hR56 rfl rfl rfl (by decide) (fun a57 hR58 => ?_)
  refine wpList_nil (x_then_n (hK54 _ _ ?_))
  have h59 : (right (nth t (((ed)).toNat))) = true := right_at hb (by omega)
  have hR60 := hR58.setb (d := 20) (b := false) rfl (by rw [h59]; rfl)
  refine wp_cond_false (hR60.ev rfl) ?_
  refine wp_skip ?_
  refine x_then_n (hK52 _ _ ?_)
  refine wp_seq_k (fun K61 hK62 => ?_)
  refine c_region ?_
  refine mv hR60 (fun a63 hR64 => ?_)
  refine asg hR64 (fun a65 hR66 => ?_)
  refine wpList_nil (x_then_n (hK62 _ _ ?_))
  refine wp_seq_k (fun K67 hK68 => ?_)
  refine wp_seq_k (fun K69 hK70 => ?_)
  refine c_region ?_
  refine asg hR66 (fun a71 hR72 => ?_)
  refine wpList_nil (x_then_n (hK70 _ _ ?_))
  refine wp_block ?_
  refine wp_loop_ghost (fun gn ga gw => ∃ k : Nat, (Reg ga 35 [(1000000, .bool false), (0, .slice tA t.length tc), (5, .slice A34 ((bindL (nth t (((ed)).toNat))).length) c35), (8, .int .i64 ((k : Nat) : Int)), (7, .int .i64 ((posL t ed.toNat k : Nat) : Int))]) ∧ (St w0 Z none_ gw [] [dRow 4 tA t.length tc (encNs t), dRow 1 A34 ((bindL (nth t (((ed)).toNat))).length) c35 (encIs (bindL (nth t (((ed)).toNat))))]) ∧ (k ≤ many (nth t ed.toNat)) ∧ (many (nth t ed.toNat) - k) = gn) _ ⟨0, (hR72.sub (rc rfl (rc rfl (rc rfl (rc rfl (rc (ri rfl (by rw [posL_zero hb (by omega)]; omega)) rnl)))))), hS40, by omega, rfl⟩ ?_
  rintro r73 a74 w75 ⟨k, hR76, hS77, hk, hn78⟩
  refine wp_seq_k (fun K79 hK80 => ?_)
  refine wp_seq_k (fun K81 hK82 => ?_)
  refine c_region ?_
  refine mv hR76 (fun a83 hR84 => ?_)
  refine mv hR84 (fun a85 hR86 => ?_)
  refine r_len sv hR86 rfl rfl rfl rfl Tryd.underlying66 (by decide) (fun a87 hR88 => ?_)
  refine r_lss sv hR88 rfl rfl rfl rfl (by decide) (fun a89 hR90 => ?_)
  refine wpList_nil (x_then_n (hK82 _ _ ?_))
  rcases Decidable.em (((k : Nat) : Int) < (((bindL (nth t (((ed)).toNat))).length : Nat) : Int)) with h91 | h91
  · skip
    obtain ⟨hps1, hps2, hps3, hps4⟩ := posL_step hb (show ed.toNat < t.length by omega) (show k < many (nth t ed.toNat) by omega)
    have hR92 := hR90.setb (d := 25) (b := true) rfl (decide_eq_true h91)
    refine wp_cond_true (hR92.ev rfl) ?_
    refine wp_skip ?_
    refine x_then_n (hK80 _ _ ?_)
    refine wp_seq_k (fun K93 hK94 => ?_)
    refine wp_block ?_
    refine wp_seq_k (fun K95 hK96 => ?_)
    refine c_region ?_
    refine mv hR92 (fun a97 hR98 => ?_)
    refine mv hR98 (fun a99 hR100 => ?_)
    refine r_sub (z := (((posL t ed.toNat k : Nat) : Int) - 1)) sv hR100 rfl rfl rfl rfl (by decide) (by omega) (by omega) (by omega) (fun a101 hR102 => ?_)
    have hS103 : St w0 Z none_ w75 [] [dRow 4 tA t.length tc (encNs t), dRow 1 A34 ((bindL (nth t (((ed)).toNat))).length) c35 (encIs (bindL (nth t (((ed)).toNat))))] := hS77
    refine k_call (xs := [.tmp 28, .tmp 30]) se hR102 rfl rfl rfl (by decide) ok57 (ih ((((posL t ed.toNat k : Nat) : Int) - 1).toNat) (by omega) _ (imm Z w0 [] _) (fun _ h => h.1) tA tc t (((posL t ed.toNat k : Nat) : Int) - 1) (hS103.get (i := 0) rfl) (by first | assumption | omega | (simp; done) | (simp; omega)) (by first | assumption | omega | (simp; done) | (simp; omega)) (by first | assumption | omega | (simp; done) | (simp; omega)) (by first | assumption | omega | (simp; done) | (simp; omega)) (by first | assumption | omega | (simp; done) | (simp; omega)) rfl) ?_
    rintro e110 w105 ⟨rfl, hf108⟩
    have hS111 := hS103.below hf108.below
    refine ⟨_, rfl, fun a104 hR106 => ?_⟩
    refine asg hR106 (fun a112 hR113 => ?_)
    refine wpList_nil (x_then_n (hK96 _ _ ?_))
    refine wp_seq_k (fun K114 hK115 => ?_)
    refine c_region ?_
    refine mv hR113 (fun a116 hR117 => ?_)
    refine r_lss sv hR117 rfl rfl rfl rfl (by decide) (fun a118 hR119 => ?_)
    refine wpList_nil (x_then_n (hK115 _ _ ?_))
    have h120 : ¬ (((frL t (((posL t ed.toNat k : Nat) : Int) - 1).toNat : Nat) : Int) < 0) := by omega
    have hR121 := hR119.setb (d := 33) (b := false) rfl (decide_eq_false h120)
    refine wp_cond_false (hR121.ev rfl) ?_
    refine wp_skip ?_
    refine x_block_n ?_
    refine x_then_n (hK94 _ _ ?_)
    refine c_region ?_
    refine mv hR121 (fun a122 hR123 => ?_)
    refine r_add (z := ((k + 1 : Nat) : Int)) sv hR123 rfl rfl rfl rfl (by decide) (by omega) (by omega) (by omega) (fun a124 hR125 => ?_)
    refine asg hR125 (fun a126 hR127 => ?_)
    refine wpList_nil ?_
    exact ⟨_, by omega, k + 1, (hR127.sub (rc rfl (rc rfl (rc rfl (rc rfl (rc (ri rfl (by rw [show (((posL t ed.toNat k : Nat) : Int) - 1).toNat = posL t ed.toNat k - 1 by omega, hps3])) rnl)))))), hS111, by omega, rfl⟩
  · skip
    have hR128 := hR90.setb (d := 25) (b := false) rfl (decide_eq_false h91)
    refine wp_cond_false (hR128.ev rfl) ?_
    refine wp_exit ?_
    refine x_then_e ?_
    refine x_then_e ?_
    refine x_block_eq ?_
    refine x_then_n (hK68 _ _ ?_)
    refine wp_seq_k (fun K129 hK130 => ?_)
    refine c_region ?_
    refine mv hR128 (fun a131 hR132 => ?_)
    refine asg hR132 (fun a133 hR134 => ?_)
    refine wpList_nil (x_then_n (hK130 _ _ ?_))
    refine wp_ret ?_
    refine e_ret1 hR134 rfl rfl rfl ?_
    refine ⟨?_, hS77.fr⟩
    exact congrArg Ending.returned (ret_i (by rw [← posL_end hb (by omega), show k = many (nth t ed.toNat) by omega]))
theorem rfrom_calls (w0 : World) (Z : Nat → Prop) (hZ : ∀ k, Z k → k < w0.heap.size) (tA : Option Addr) (tc : Nat) (t : List Nd) (ed : Int) (ht : (dRow 4 tA t.length tc (encNs t)).φ w0 Z) (hl : t.length ≤ 1000000) (hsm : sml t) (hb : measB t = true) (he0 : 0 ≤ ed) (he1 : ed < t.length) :
    Calls Tryd.prog 57 [.slice tA t.length tc, .int .i64 ed].toArray w0 (fun e w' => e = .returned (.int .i64 ((frL t ed.toNat : Nat) : Int)) ∧ Fr none_ w0 w') := rfrom_calls_rec _ w0 Z hZ tA tc t ed ht hl hsm hb he0 he1 rfl

set_option maxRecDepth 100000 in
set_option maxHeartbeats 1000000 in
theorem rparts_calls (w0 : World) (Z : Nat → Prop) (hZ : ∀ k, Z k → k < w0.heap.size) (tA : Option Addr) (tc : Nat) (t : List Nd) (ht : (dRow 4 tA t.length tc (encNs t)).φ w0 Z) (hl : t.length ≤ 1000000) (hsm : sml t) (hb : measB t = true) :
    Calls Tryd.prog 32 [.slice tA t.length tc].toArray w0 (fun e w' => ∃ (rA0 : Option Addr) (rc0 : Nat) (rL0 : List Sl), e = .returned (.slice rA0 rL0.length rc0) ∧ Fr none_ w0 w' ∧ (dRow 1 rA0 rL0.length rc0 (encSs rL0)).φ w' (nxt Z w0 w') ∧ (dAll rL0).φ w' (nxt Z w0 w') ∧ lsts rL0 = ptL t) := by
  have hstart : ∀ k, Z k → imm Z w0 [] w0 k ∧ w0.heap[k]? = w0.heap[k]? := fun k hk => ⟨⟨hZ k hk, fun _ => hk, fun _ h => by cases h⟩, rfl⟩
  have hS3 : St w0 Z none_ w0 [] [dRow 4 tA t.length tc (encNs t)] := St.start w0 Z none_ _ (by
    intro d hd
    simp only [List.mem_cons, List.not_mem_nil, or_false] at hd
    rcases hd with rfl
    · exact Dat.mono _ _ _ _ _ (Nat.le_refl _) ht hstart
    )
  have hp0 := meas_pos hb
  have hm8 := many_le (right_at hb (show t.length - 1 < t.length by omega))
  have hbm := bindL_many (right_at hb (show t.length - 1 < t.length by omega))
  refine c_enter Tryd.func32 rfl Tryd.ntmps32 rfl (fun a1 hR2 => ?_)
  refine wp_seq_k (fun K4 hK5 => ?_)
  refine c_region ?_
  refine asg hR2 (fun a6 hR7 => ?_)
  refine wpList_nil (x_then_n (hK5 _ _ ?_))
  refine wp_seq_k (fun K8 hK9 => ?_)
  refine c_region ?_
  refine mv hR7 (fun a10 hR11 => ?_)
  refine r_len sv hR11 rfl rfl rfl rfl Tryd.underlying22 (by decide) (fun a12 hR13 => ?_)
  refine r_sub (z := (((t.length : Nat) : Int) - 1)) sv hR13 rfl rfl rfl rfl (by decide) (by omega) (by omega) (by omega) (fun a14 hR15 => ?_)
  refine asg hR15 (fun a16 hR17 => ?_)
  refine wpList_nil (x_then_n (hK9 _ _ ?_))
  refine wp_seq_k (fun K18 hK19 => ?_)
  refine c_region ?_
  refine mv hR17 (fun a20 hR21 => ?_)
  refine mv hR21 (fun a22 hR23 => ?_)
  refine m_index (i := (t.length) - (1)) (j := ((t.length) - (1)) * 4) sv hR23 rfl rfl rfl rfl Tryd.underlying22 sz32 (by omega) (by omega) (nds_elem (t := t) (k := (t.length) - (1)) (hS3.row (i := 0) rfl).2 (by omega)).some_ rfl (by decide) (fun a24 hR25 => ?_)
  refine m_loadEN sv hR25 rfl rfl rfl (nds_elem (t := t) (k := (t.length) - (1)) (hS3.row (i := 0) rfl).2 (by omega)) Tryd.underlying32 rfl sz32 (by decide) (fun a26 hR27 => ?_)
  have hS28 : St w0 Z none_ w0 [] [dRow 4 tA t.length tc (encNs t)] := hS3
  refine k_call (xs := [.tmp 17]) se hR27 rfl rfl rfl (by decide) ok56 (rbinds_calls _ (imm Z w0 [] _) (fun _ h => h.1) (nth t ((t.length) - (1))) (hsm _ (by omega))) ?_
  rintro e38 w30 ⟨A34, c35, rfl, hf33, hd36⟩
  have hS39 := hS28.below hf33.below
  have hS40 := hS39.data (dRow 1 A34 ((bindL (nth t ((t.length) - (1)))).length) c35 (encIs (bindL (nth t ((t.length) - (1)))))) ⟨hd36.1, hd36.2.mono (fun _ hk => ⟨nxt_imm hS28 hk, rfl⟩)⟩
  refine ⟨_, rfl, fun a29 hR31 => ?_⟩
  refine mv hR31 (fun a41 hR42 => ?_)
  refine r_extract sv hR42 rfl rfl rfl rfl (by decide) (fun a43 hR44 => ?_)
  refine r_extract sv hR44 rfl rfl rfl rfl (by decide) (fun a45 hR46 => ?_)
  refine asg hR46 (fun a47 hR48 => ?_)
  refine asg hR48 (fun a49 hR50 => ?_)
  refine wpList_nil (x_then_n (hK19 _ _ ?_))
  refine wp_seq_k (fun K51 hK52 => ?_)
  refine c_region ?_
  have hS53 := hS40.data (dAll []) all_nil
  refine m_buildSlice (ps := []) (cs := []) sv hR50 hS53 rfl rfl rfl Tryd.underlying39 zi22 rfl rfl (by kernel_rfl) rfl (by decide) (fun a54 w55 g56 hR57 hS58 => ?_)
  refine asg hR57 (fun a59 hR60 => ?_)
  refine wpList_nil (x_then_n (hK52 _ _ ?_))
  refine wp_seq_k (fun K61 hK62 => ?_)
  refine wp_seq_k (fun K63 hK64 => ?_)
  refine c_region ?_
  refine asg hR60 (fun a65 hR66 => ?_)
  refine wpList_nil (x_then_n (hK64 _ _ ?_))
  refine wp_block ?_
  refine wp_loop_ghost (fun gn ga gw => ∃ k : Nat, ∃ Ls : List Sl, ∃ Ao : Option Addr, ∃ co : Nat, (Reg ga 42 [(1000000, .bool false), (0, .slice tA t.length tc), (2, .slice none 0 0), (4, .slice A34 ((bindL (nth t ((t.length) - (1)))).length) c35), (7, .int .i64 ((k : Nat) : Int)), (3, .int .i64 ((posL t (t.length - 1) k : Nat) : Int)), (6, .slice Ao ((Ls).length) co)]) ∧ (St w0 Z none_ gw [.row Ao ((Ls).length) co 22 1 (encSs Ls)] [dRow 4 tA t.length tc (encNs t), dRow 1 A34 ((bindL (nth t ((t.length) - (1)))).length) c35 (encIs (bindL (nth t ((t.length) - (1))))), dAll Ls]) ∧ (k ≤ many (nth t (t.length - 1))) ∧ (lsts Ls = ptD t k) ∧ (many (nth t (t.length - 1)) - k) = gn) _ ⟨0, [], (some ⟨g56, 0, none⟩), 0, (hR66.sub (rc rfl (rc rfl (rc rfl (rc rfl (rc rfl (rc (ri rfl (by rw [posL_zero hb (by omega)]; omega)) (rc rfl rnl)))))))), hS58, by omega, (ptD_zero t).symm, rfl⟩ ?_
  rintro r67 a68 w69 ⟨k, Ls, Ao, co, hR70, hS71, hk, hL, hn72⟩
  have hLn : Ls.length = k := by rw [← lsts_len, hL, ptD_length hb hk]
  refine wp_seq_k (fun K73 hK74 => ?_)
  refine wp_seq_k (fun K75 hK76 => ?_)
  refine c_region ?_
  refine mv hR70 (fun a77 hR78 => ?_)
  refine mv hR78 (fun a79 hR80 => ?_)
  refine r_len sv hR80 rfl rfl rfl rfl Tryd.underlying66 (by decide) (fun a81 hR82 => ?_)
  refine r_lss sv hR82 rfl rfl rfl rfl (by decide) (fun a83 hR84 => ?_)
  refine wpList_nil (x_then_n (hK76 _ _ ?_))
  rcases Decidable.em (((k : Nat) : Int) < (((bindL (nth t ((t.length) - (1)))).length : Nat) : Int)) with h85 | h85
  · skip
    obtain ⟨hps1, hps2, hps3, hps4⟩ := posL_step hb (show t.length - 1 < t.length by omega) (show k < many (nth t (t.length - 1)) by omega)
    have hps5 := hps3
    rw [show posL t (t.length - 1) k - 1 = (((posL t (t.length - 1) k : Nat) : Int) - 1).toNat by omega] at hps5
    have hR86 := hR84.setb (d := 25) (b := true) rfl (decide_eq_true h85)
    refine wp_cond_true (hR86.ev rfl) ?_
    refine wp_skip ?_
    refine x_then_n (hK74 _ _ ?_)
    refine wp_seq_k (fun K87 hK88 => ?_)
    refine wp_block ?_
    refine wp_seq_k (fun K89 hK90 => ?_)
    refine c_region ?_
    refine mv hR86 (fun a91 hR92 => ?_)
    refine mv hR92 (fun a93 hR94 => ?_)
    refine r_sub (z := (((posL t (t.length - 1) k : Nat) : Int) - 1)) sv hR94 rfl rfl rfl rfl (by decide) (by omega) (by omega) (by omega) (fun a95 hR96 => ?_)
    have hS97 : St w0 Z none_ w69 [.row Ao ((Ls).length) co 22 1 (encSs Ls)] [dRow 4 tA t.length tc (encNs t), dRow 1 A34 ((bindL (nth t ((t.length) - (1)))).length) c35 (encIs (bindL (nth t ((t.length) - (1))))), dAll Ls] := hS71
    refine k_call (xs := [.tmp 28, .tmp 30]) se hR96 rfl rfl rfl (by decide) ok57 (rfrom_calls _ (imm Z w0 [.row Ao ((Ls).length) co 22 1 (encSs Ls)] _) (fun _ h => h.1) tA tc t (((posL t (t.length - 1) k : Nat) : Int) - 1) (hS97.get (i := 0) rfl) (by first | assumption | omega | (simp; done) | (simp; omega)) (by first | assumption | omega | (simp; done) | (simp; omega)) (by first | assumption | omega | (simp; done) | (simp; omega)) (by first | assumption | omega | (simp; done) | (simp; omega)) (by first | assumption | omega | (simp; done) | (simp; omega))) ?_
    rintro e104 w99 ⟨rfl, hf102⟩
    have hS105 := hS97.below hf102.below
    refine ⟨_, rfl, fun a98 hR100 => ?_⟩
    refine asg hR100 (fun a106 hR107 => ?_)
    refine wpList_nil (x_then_n (hK90 _ _ ?_))
    refine wp_seq_k (fun K108 hK109 => ?_)
    refine c_region ?_
    refine mv hR107 (fun a110 hR111 => ?_)
    refine mv hR111 (fun a112 hR113 => ?_)
    refine mv hR113 (fun a114 hR115 => ?_)
    refine m_sliceD (f := encN) (lo := some (.tmp 33)) (hi := some (.tmp 34)) (vlo := (some (.int .i64 ((frL t (((posL t (t.length - 1) k : Nat) : Int) - 1).toNat : Nat) : Int)))) (vhi := (some (.int .i64 ((posL t (t.length - 1) k : Nat) : Int)))) (kd := .i64) (kd' := .i64) sv hR115 rfl rfl rfl rfl rfl (frL t (((posL t (t.length - 1) k : Nat) : Int) - 1).toNat) ((posL t (t.length - 1) k) - (frL t (((posL t (t.length - 1) k : Nat) : Int) - 1).toNat)) (.inl (by first | rfl | (congr 2; omega))) (.inl (by congr 2; omega)) (((t).drop (frL t (((posL t (t.length - 1) k : Nat) : Int) - 1).toNat)).take ((posL t (t.length - 1) k) - (frL t (((posL t (t.length - 1) k : Nat) : Int) - 1).toNat))) rfl encN_len (hS105.row (i := 0) rfl) Tryd.underlying22 sz32 (by omega) (by decide) (fun a116 A118 c119 hv121 hR117 => ?_)
    have hl122 : (((t).drop (frL t (((posL t (t.length - 1) k : Nat) : Int) - 1).toNat)).take ((posL t (t.length - 1) k) - (frL t (((posL t (t.length - 1) k : Nat) : Int) - 1).toNat))).length = (posL t (t.length - 1) k) - (frL t (((posL t (t.length - 1) k : Nat) : Int) - 1).toNat) := by first | (simp only [List.length_drop, List.length_take]; done) | (simp only [List.length_drop, List.length_take]; omega)
    have hS123 := hS105.data (dRow 4 A118 ((((t).drop (frL t (((posL t (t.length - 1) k : Nat) : Int) - 1).toNat)).take ((posL t (t.length - 1) k) - (frL t (((posL t (t.length - 1) k : Nat) : Int) - 1).toNat))).length) c119 (encNs (((t).drop (frL t (((posL t (t.length - 1) k : Nat) : Int) - 1).toNat)).take ((posL t (t.length - 1) k) - (frL t (((posL t (t.length - 1) k : Nat) : Int) - 1).toNat))))) hv121
    have hS124 := hS123.data (dAll [((A118, c119, ((t).drop (frL t (((posL t (t.length - 1) k : Nat) : Int) - 1).toNat)).take ((posL t (t.length - 1) k) - (frL t (((posL t (t.length - 1) k : Nat) : Int) - 1).toNat))) : Sl)]) (all_cons (hS123.get (i := 3) rfl) all_nil)
    refine m_buildSlice (ps := [(0, .tmp 35)]) (cs := [.slice A118 ((((t).drop (frL t (((posL t (t.length - 1) k : Nat) : Int) - 1).toNat)).take ((posL t (t.length - 1) k) - (frL t (((posL t (t.length - 1) k : Nat) : Int) - 1).toNat))).length) c119]) sv hR117 hS124 rfl rfl rfl Tryd.underlying39 zi22 rfl rfl (by kernel_rfl) rfl (by decide) (fun a125 w126 g127 hR128 hS129 => ?_)
    refine asg hR128 (fun a130 hR131 => ?_)
    refine wpList_nil (x_then_n (hK109 _ _ ?_))
    refine wp_seq_k (fun K132 hK133 => ?_)
    refine c_region ?_
    refine mv hR131 (fun a134 hR135 => ?_)
    refine mv hR135 (fun a136 hR137 => ?_)
    refine m_appendF (f := encS) (i := 1) ([((A118, c119, ((t).drop (frL t (((posL t (t.length - 1) k : Nat) : Int) - 1).toNat)).take ((posL t (t.length - 1) k) - (frL t (((posL t (t.length - 1) k : Nat) : Int) - 1).toNat))) : Sl)]) (Ls) sv hR137 hS129 rfl rfl rfl rfl rfl encS_len (encS_one _) Tryd.underlying39 zi22 rfl rfl (own_lnews (f := encS) (hS129.res (i := 0) rfl)) rfl (by first | omega | (simp only [List.length_cons, List.length_nil]; omega)) (by decide) (fun a138 w139 A140 c141 hc142 hR143 hS144 => ?_)
    have hl146 : (([((A118, c119, ((t).drop (frL t (((posL t (t.length - 1) k : Nat) : Int) - 1).toNat)).take ((posL t (t.length - 1) k) - (frL t (((posL t (t.length - 1) k : Nat) : Int) - 1).toNat))) : Sl)]) ++ Ls : List Sl).length = (Ls).length + 1 := by first | (simp only [List.length_append, List.length_take, List.length_cons, List.length_nil]; done) | (simp only [List.length_append, List.length_take, List.length_cons, List.length_nil]; omega)
    have hS147 := hS144.erase 0
    have hS148 := hS147.data (dAll (([((A118, c119, ((t).drop (frL t (((posL t (t.length - 1) k : Nat) : Int) - 1).toNat)).take ((posL t (t.length - 1) k) - (frL t (((posL t (t.length - 1) k : Nat) : Int) - 1).toNat))) : Sl)]) ++ Ls)) (all_append (hS147.get (i := 4) rfl) (hS147.get (i := 2) rfl))
    refine asg hR143 (fun a149 hR150 => ?_)
    refine wpList_nil (x_then_n (hK133 _ _ (c_region ?_)))
    refine mv hR150 (fun a151 hR152 => ?_)
    refine asg hR152 (fun a153 hR154 => ?_)
    refine wpList_nil ?_
    refine x_block_n ?_
    refine x_then_n (hK88 _ _ ?_)
    refine c_region ?_
    refine mv hR154 (fun a155 hR156 => ?_)
    refine r_add (z := ((k + 1 : Nat) : Int)) sv hR156 rfl rfl rfl rfl (by decide) (by omega) (by omega) (by omega) (fun a157 hR158 => ?_)
    refine asg hR158 (fun a159 hR160 => ?_)
    refine wpList_nil ?_
    have hS161 := hS148.forget 4
    have hS162 := hS161.forget 3
    have hS163 := hS162.forget 2
    exact ⟨_, by omega, k + 1, ([((A118, c119, ((t).drop (frL t (((posL t (t.length - 1) k : Nat) : Int) - 1).toNat)).take ((posL t (t.length - 1) k) - (frL t (((posL t (t.length - 1) k : Nat) : Int) - 1).toNat))) : Sl)]) ++ Ls, A140, c141, (hR160.sub (rc rfl (rc rfl (rc rfl (rc rfl (rc rfl (rc (ri rfl (by rw [show (((posL t (t.length - 1) k : Nat) : Int) - 1).toNat = posL t (t.length - 1) k - 1 by omega, hps3])) (rc rfl rnl)))))))), hS163, by omega, parts_step hb hL (by omega) (by rw [show (((posL t (t.length - 1) k : Nat) : Int) - 1).toNat = posL t (t.length - 1) k - 1 by omega, hps3]) rfl, rfl⟩
  · skip
    have hR164 := hR84.setb (d := 25) (b := false) rfl (decide_eq_false h85)
    refine wp_cond_false (hR164.ev rfl) ?_
    refine wp_exit ?_
    refine x_then_e ?_
    refine x_then_e ?_
    refine x_block_eq ?_
    refine x_then_n (hK62 _ _ ?_)
    refine wp_seq_k (fun K165 hK166 => ?_)
    refine c_region ?_
    refine mv hR164 (fun a167 hR168 => ?_)
    refine asg hR168 (fun a169 hR170 => ?_)
    refine wpList_nil (x_then_n (hK166 _ _ ?_))
    refine wp_ret ?_
    refine e_ret1 hR170 rfl rfl rfl ?_
    have hc174 := own_cap (hS71.res (i := 0) rfl)
    obtain ⟨hS171, hrow172⟩ := hS71.row_data (i := 0) rfl (fun _ h => h)
    have hS173 := hS171.data (dRow 1 Ao ((Ls).length) co (encSs Ls)) ⟨hc174, hrow172⟩
    refine ⟨Ao, co, Ls, ?_, hS173.fr, ⟨by have := (hS173.row (i := 3) rfl).1; exact this, ((hS173.row (i := 3) rfl).2.mono (fun _ hk => ⟨imm_nxt hk, rfl⟩))⟩, ((dAll _).mono _ _ _ _ (Nat.le_refl _) (hS173.get (i := 2) rfl) (fun k hk => ⟨imm_nxt hk, rfl⟩)), (by rw [hL, ← ptD_all hb, show k = many (nth t (t.length - 1)) by omega])⟩
    exact congrArg Ending.returned (ret_s (by first | rfl | (simp; done)))
end Go.Proofs.YtobgdeffhdefeaaDoor
/- Contracts of functions, one theorem each: what the call returns, and that nothing old is changed. Printed by gen.py. -/
namespace Go.Proofs.YtobgdeffhdefeaaDoor
open Go Go.RowKit
set_option linter.unusedSimpArgs false
set_option linter.unusedVariables false

set_option maxRecDepth 100000 in
set_option maxHeartbeats 1000000 in
theorem rof_calls (w0 : World) (Z : Nat → Prop) (hZ : ∀ k, Z k → k < w0.heap.size) (n : Nd) (pA : Option Addr) (pc : Nat) (p : List Sl) (hp : (dRow 1 pA p.length pc (encSs p)).φ w0 Z) (hps : (dAll p).φ w0 Z) (hl : p.length ≤ 10) (hb : (lsts p).flatten.length ≤ 50000000) :
    Calls Tryd.prog 25 [.agg #[.int .i64 (n.K), .int .i64 (n.N), .int .i64 (n.M), .string n.S], .slice pA p.length pc].toArray w0 (fun e w' => ∃ (rA0 : Option Addr) (rc0 : Nat), e = .returned (.slice rA0 ((lsts p).flatten ++ [n]).length rc0) ∧ Fr none_ w0 w' ∧ (dRow 4 rA0 (((lsts p).flatten ++ [n]).length) rc0 (encNs ((lsts p).flatten ++ [n]))).φ w' (nxt Z w0 w')) := by
  have hstart : ∀ k, Z k → imm Z w0 [] w0 k ∧ w0.heap[k]? = w0.heap[k]? := fun k hk => ⟨⟨hZ k hk, fun _ => hk, fun _ h => by cases h⟩, rfl⟩
  have hS3 : St w0 Z none_ w0 [] [dRow 1 pA p.length pc (encSs p), dAll p] := St.start w0 Z none_ _ (by
    intro d hd
    simp only [List.mem_cons, List.not_mem_nil, or_false] at hd
    rcases hd with rfl | rfl
    · exact Dat.mono _ _ _ _ _ (Nat.le_refl _) hp hstart
    · exact Dat.mono _ _ _ _ _ (Nat.le_refl _) hps hstart
    )
  refine c_enter Tryd.func25 rfl Tryd.ntmps25 rfl (fun a1 hR2 => ?_)
  refine wp_seq_k (fun K4 hK5 => ?_)
  refine c_region ?_
  refine m_box (cs := [.int .i64 (n.K), .int .i64 (n.N), .int .i64 (n.M), .string n.S]) sv hR2 hS3 rfl rfl rfl rfl (by decide) (fun a6 w7 g8 hR9 hS10 => ?_)
  refine asg hR9 (fun a11 hR12 => ?_)
  refine wpList_nil (x_then_n (hK5 _ _ ?_))
  refine wp_seq_k (fun K13 hK14 => ?_)
  refine c_region ?_
  refine m_buildSlice (ps := []) (cs := []) sv hR12 hS10 rfl rfl rfl Tryd.underlying22 zi32 rfl rfl (by kernel_rfl) rfl (by decide) (fun a15 w16 g17 hR18 hS19 => ?_)
  refine asg hR18 (fun a20 hR21 => ?_)
  refine wpList_nil (x_then_n (hK14 _ _ ?_))
  refine wp_seq_k (fun K22 hK23 => ?_)
  refine wp_seq_k (fun K24 hK25 => ?_)
  refine c_region ?_
  refine asg hR21 (fun a26 hR27 => ?_)
  refine wpList_nil (x_then_n (hK25 _ _ ?_))
  refine wp_block ?_
  refine wp_loop_ghost (fun gn ga gw => ∃ k : Nat, ∃ Ao : Option Addr, ∃ co : Nat, (Reg ga 24 [(1000000, .bool false), (1, .slice pA p.length pc), (2, .pointer (some ⟨g8, 0, none⟩)), (4, .slice none 0 0), (6, .int .i64 ((k : Nat) : Int)), (5, .slice Ao (((lsts (p.take k)).flatten).length) co)]) ∧ (St w0 Z none_ gw [.box g8 32 [.int .i64 (n.K), .int .i64 (n.N), .int .i64 (n.M), .string n.S], .row Ao (((lsts (p.take k)).flatten).length) co 32 4 (encNs ((lsts (p.take k)).flatten))] [dRow 1 pA p.length pc (encSs p), dAll p]) ∧ (k ≤ p.length) ∧ (p.length - k) = gn) _ ⟨0, (some ⟨g17, 0, none⟩), 0, (hR27.sub (rc rfl (rc rfl (rc rfl (rc rfl (rc rfl (rc rfl rnl))))))), hS19, by omega, rfl⟩ ?_
  rintro r28 a29 w30 ⟨k, Ao, co, hR31, hS32, hk, hn33⟩
  have hfl := flat_total p k
  refine wp_seq_k (fun K34 hK35 => ?_)
  refine wp_seq_k (fun K36 hK37 => ?_)
  refine c_region ?_
  refine mv hR31 (fun a38 hR39 => ?_)
  refine mv hR39 (fun a40 hR41 => ?_)
  refine r_len sv hR41 rfl rfl rfl rfl Tryd.underlying39 (by decide) (fun a42 hR43 => ?_)
  refine r_lss sv hR43 rfl rfl rfl rfl (by decide) (fun a44 hR45 => ?_)
  refine wpList_nil (x_then_n (hK37 _ _ ?_))
  rcases Decidable.em (((k : Nat) : Int) < ((p.length : Nat) : Int)) with h46 | h46
  · skip
    have hfl2 := flat_total p (k + 1)
    rw [flat_step (by omega), List.length_append] at hfl2
    have hR47 := hR45.setb (d := 11) (b := true) rfl (decide_eq_true h46)
    refine wp_cond_true (hR47.ev rfl) ?_
    refine wp_skip ?_
    refine x_then_n (hK35 _ _ ?_)
    refine wp_seq_k (fun K48 hK49 => ?_)
    refine wp_block ?_
    refine c_region ?_
    refine mv hR47 (fun a50 hR51 => ?_)
    refine mv hR51 (fun a52 hR53 => ?_)
    refine mv hR53 (fun a54 hR55 => ?_)
    refine m_index (i := k) (j := k * 1) sv hR55 rfl rfl rfl rfl Tryd.underlying39 sz22 (by omega) (by omega) (ss_elem (t := p) (k := k) (hS32.row (i := 0) rfl).2 (by omega)).some_ rfl (by decide) (fun a56 hR57 => ?_)
    refine m_loadE sv hR57 rfl rfl rfl 0 (k * 1) (ss_elem (t := p) (k := k) (hS32.row (i := 0) rfl).2 (by omega)) rfl rfl Tryd.underlying22 rfl (by decide) (fun a58 hR59 => ?_)
    have hS60 := hS32.data (dRow 4 ((nthS p k).1) ((nthS p k).2.2.length) ((nthS p k).2.1) (encNs ((nthS p k).2.2))) (all_at (t := p) (k := k) (hS32.get (i := 1) rfl) (by omega))
    refine m_appendF (f := encN) (i := 1) ((lsts (p.take k)).flatten) ((nthS p k).2.2) sv hR59 hS60 rfl rfl rfl rfl rfl encN_len (encN_one _) Tryd.underlying22 zi32 rfl rfl (hS60.row (i := 2) rfl).2.news rfl (by first | omega | (simp only [List.length_cons, List.length_nil]; omega)) (by decide) (fun a61 w62 A63 c64 hc65 hR66 hS67 => ?_)
    have hl69 : (((lsts (p.take k)).flatten) ++ ((nthS p k).2.2)).length = ((lsts (p.take k)).flatten).length + (nthS p k).2.2.length := by first | (simp only [List.length_append, List.length_take, List.length_cons, List.length_nil]; done) | (simp only [List.length_append, List.length_take, List.length_cons, List.length_nil]; omega)
    refine asg hR66 (fun a70 hR71 => ?_)
    refine wpList_nil ?_
    refine x_block_n ?_
    refine x_then_n (hK49 _ _ ?_)
    refine c_region ?_
    refine mv hR71 (fun a72 hR73 => ?_)
    refine r_add (z := ((k + 1 : Nat) : Int)) sv hR73 rfl rfl rfl rfl (by decide) (by omega) (by omega) (by omega) (fun a74 hR75 => ?_)
    refine asg hR75 (fun a76 hR77 => ?_)
    refine wpList_nil ?_
    have he78 : ((lsts (p.take k)).flatten) ++ ((nthS p k).2.2) = (lsts (p.take (k + 1))).flatten := (flat_step (by omega)).symm
    have hR79 := hR77
    have hS80 := hS67
    rw [he78] at hR79 hS80
    have hS81 := hS80.forget 2
    exact ⟨_, by omega, k + 1, A63, c64, (hR79.sub (rc rfl (rc rfl (rc rfl (rc rfl (rc rfl (rc rfl rnl))))))), hS81, by omega, rfl⟩
  · skip
    have hR82 := hR45.setb (d := 11) (b := false) rfl (decide_eq_false h46)
    refine wp_cond_false (hR82.ev rfl) ?_
    refine wp_exit ?_
    refine x_then_e ?_
    refine x_then_e ?_
    refine x_block_eq ?_
    refine x_then_n (hK23 _ _ ?_)
    refine wp_seq_k (fun K83 hK84 => ?_)
    refine c_region ?_
    refine mv hR82 (fun a85 hR86 => ?_)
    refine m_loadN (i := 0) (vs := [.int .i64 (n.K), .int .i64 (n.N), .int .i64 (n.M), .string n.S]) sv hR86 hS32 rfl rfl rfl rfl rfl Tryd.underlying32 rfl sz32 (by decide) (fun a87 hR88 => ?_)
    refine m_buildSlice (ps := [(0, .tmp 21)]) (cs := [.int .i64 (n.K), .int .i64 (n.N), .int .i64 (n.M), .string n.S]) sv hR88 hS32 rfl rfl rfl Tryd.underlying22 zi32 rfl rfl (by kernel_rfl) rfl (by decide) (fun a89 w90 g91 hR92 hS93 => ?_)
    refine m_appendF (f := encN) (i := 1) ((lsts (p.take k)).flatten) ([n]) sv hR92 hS93 rfl rfl rfl rfl rfl encN_len (encN_one _) Tryd.underlying22 zi32 rfl rfl (own_lnews (f := encN) (hS93.res (i := 2) rfl)) rfl (by first | omega | (simp only [List.length_cons, List.length_nil]; omega)) (by decide) (fun a94 w95 A96 c97 hc98 hR99 hS100 => ?_)
    have hl102 : (((lsts (p.take k)).flatten) ++ ([n]) : List Nd).length = ((lsts (p.take k)).flatten).length + 1 := by first | (simp only [List.length_append, List.length_take, List.length_cons, List.length_nil]; done) | (simp only [List.length_append, List.length_take, List.length_cons, List.length_nil]; omega)
    have hS103 := hS100.erase 2
    refine asg hR99 (fun a104 hR105 => ?_)
    refine wpList_nil (x_then_n (hK84 _ _ ?_))
    refine wp_ret ?_
    refine e_ret1 hR105 rfl rfl rfl ?_
    have he106 : (lsts p).flatten ++ [n] = ((lsts (p.take k)).flatten) ++ ([n]) := by rw [List.take_of_length_le (by omega)]
    rw [he106]
    have hc110 := own_cap (hS103.res (i := 1) rfl)
    obtain ⟨hS107, hrow108⟩ := hS103.row_data (i := 1) rfl (fun _ h => h)
    have hS109 := hS107.data (dRow 4 A96 ((((lsts (p.take k)).flatten) ++ ([n]) : List Nd).length) c97 (encNs (((lsts (p.take k)).flatten) ++ ([n])))) ⟨hc110, hrow108⟩
    refine ⟨A96, c97, ?_, hS109.fr, ⟨by have := (hS109.row (i := 2) rfl).1; exact this, ((hS109.row (i := 2) rfl).2.mono (fun _ hk => ⟨imm_nxt hk, rfl⟩))⟩⟩
    exact congrArg Ending.returned rfl
end Go.Proofs.YtobgdeffhdefeaaDoor
/- Contracts of functions, one theorem each: what the call returns, and that nothing old is changed. Printed by gen.py. -/
namespace Go.Proofs.YtobgdeffhdefeaaDoor
open Go Go.RowKit
set_option linter.unusedSimpArgs false
set_option linter.unusedVariables false

set_option maxRecDepth 100000 in
set_option maxHeartbeats 1000000 in
theorem rerase_calls_rec (rn : Nat) : ∀ (w0 : World) (Z : Nat → Prop) (hZ : ∀ k, Z k → k < w0.heap.size) (tA : Option Addr) (tc : Nat) (t : List Nd) (ht : (dRow 4 tA t.length tc (encNs t)).φ w0 Z) (hl : t.length ≤ 1000000) (hsm : sml t) (hb : measB t = true) (hrn : t.length = rn),
    Calls Tryd.prog 63 [.slice tA t.length tc].toArray w0 (fun e w' => ∃ (rA0 : Option Addr) (rc0 : Nat), e = .returned (.slice rA0 (erL t).length rc0) ∧ Fr none_ w0 w' ∧ (dRow 4 rA0 ((erL t).length) rc0 (encNs (erL t))).φ w' (nxt Z w0 w')) := by
  induction rn using Nat.strongRecOn
  rename_i rn ih
  intro w0 Z hZ tA tc t ht hl hsm hb hrn
  have hstart : ∀ k, Z k → imm Z w0 [] w0 k ∧ w0.heap[k]? = w0.heap[k]? := fun k hk => ⟨⟨hZ k hk, fun _ => hk, fun _ h => by cases h⟩, rfl⟩
  have hS3 : St w0 Z none_ w0 [] [dRow 4 tA t.length tc (encNs t)] := St.start w0 Z none_ _ (by
    intro d hd
    simp only [List.mem_cons, List.not_mem_nil, or_false] at hd
    rcases hd with rfl
    · exact Dat.mono _ _ _ _ _ (Nat.le_refl _) ht hstart
    )
  have hp0 := meas_pos hb
  refine c_enter Tryd.func63 rfl Tryd.ntmps63 rfl (fun a1 hR2 => ?_)
  refine wp_seq_k (fun K4 hK5 => ?_)
  refine c_region ?_
  refine asg hR2 (fun a6 hR7 => ?_)
  refine wpList_nil (x_then_n (hK5 _ _ ?_))
  refine wp_seq_k (fun K8 hK9 => ?_)
  refine c_region ?_
  refine mv hR7 (fun a10 hR11 => ?_)
  have hS12 : St w0 Z none_ w0 [] [dRow 4 tA t.length tc (encNs t)] := hS3
  refine k_call (xs := [.tmp 7]) se hR11 rfl rfl rfl (by decide) ok23 (rroot_calls _ (imm Z w0 [] _) (fun _ h => h.1) tA tc t (hS12.get (i := 0) rfl) (by first | assumption | omega | (simp; done) | (simp; omega)) (by first | assumption | omega | (simp; done) | (simp; omega))) ?_
  rintro e19 w14 ⟨rfl, hf17⟩
  have hS20 := hS12.below hf17.below
  refine ⟨_, rfl, fun a13 hR15 => ?_⟩
  refine m_alloc (cs := [.int .i64 0, .int .i64 0, .int .i64 0, .string (⟨#[]⟩ : ByteArray)]) sv hR15 hS20 rfl rfl ze32 rfl (by decide) (fun a21 w22 g23 hR24 hS25 => ?_)
  refine m_store (i := 0) (cs' := [.int .i64 (((nth t (t.length - 1)).K)), .int .i64 (((nth t (t.length - 1)).N)), .int .i64 (((nth t (t.length - 1)).M)), .string ((nth t (t.length - 1)).S)]) se hR24 hS25 rfl rfl rfl rfl rfl sz32 rfl rfl rfl (fun a26 w27 hR28 hS29 => ?_)
  refine wpList_nil (x_then_n (hK9 _ _ ?_))
  refine wp_seq_k (fun K30 hK31 => ?_)
  refine wp_seq_k (fun K32 hK33 => ?_)
  refine c_region ?_
  refine m_field (j' := 0) sv hR28 rfl rfl rfl Tryd.underlying32 rfl sz3 rfl rfl (by decide) (fun a34 hR35 => ?_)
  refine m_load (i := 0) sv hR35 hS29 rfl rfl rfl rfl rfl Tryd.underlying3 rfl (by decide) (fun a36 hR37 => ?_)
  refine r_eql sv hR37 rfl rfl rfl rfl (by decide) (fun a38 hR39 => ?_)
  refine wpList_nil (x_then_n (hK33 _ _ ?_))
  rcases Decidable.em ((((nth t (t.length - 1)).K)) = 28) with h40 | h40
  · skip
    have hR41 := hR39.setb (d := 11) (b := true) rfl (decide_eq_true h40)
    refine wp_cond_true (hR41.ev rfl) ?_
    refine wp_seq_k (fun K42 hK43 => ?_)
    refine c_region ?_
    refine m_build (ps := [(0, .const (.int .i64 29))]) (v := .agg #[.int .i64 29, .int .i64 0, .int .i64 0, .string (⟨#[]⟩ : ByteArray)]) sv hR41 rfl rfl rfl (fun _ => by kernel_rfl) (by decide) (fun a44 hR45 => ?_)
    refine m_buildSlice (ps := [(0, .tmp 12)]) (cs := [.int .i64 29, .int .i64 0, .int .i64 0, .string (⟨#[]⟩ : ByteArray)]) sv hR45 hS29 rfl rfl rfl Tryd.underlying22 zi32 rfl rfl (by kernel_rfl) rfl (by decide) (fun a46 w47 g48 hR49 hS50 => ?_)
    refine asg hR49 (fun a51 hR52 => ?_)
    refine wpList_nil (x_then_n (hK43 _ _ ?_))
    refine wp_ret ?_
    refine x_then_r ?_
    refine e_ret1 hR52 rfl rfl rfl ?_
    have he53 : erL t = [(⟨29, 0, 0, (⟨#[]⟩ : ByteArray)⟩ : Nd)] := erL_prf hb (by omega)
    rw [he53]
    have hc57 := own_cap (hS50.res (i := 1) rfl)
    obtain ⟨hS54, hrow55⟩ := hS50.row_data (i := 1) rfl (fun _ h => h)
    have hS56 := hS54.data (dRow 4 (some ⟨g48, 0, none⟩) 1 1 (encNs ([(⟨29, 0, 0, (⟨#[]⟩ : ByteArray)⟩ : Nd)]))) ⟨hc57, hrow55⟩
    refine ⟨(some ⟨g48, 0, none⟩), 1, ?_, hS56.fr, ⟨by have := (hS56.row (i := 1) rfl).1; exact this, ((hS56.row (i := 1) rfl).2.mono (fun _ hk => ⟨imm_nxt hk, rfl⟩))⟩⟩
    exact congrArg Ending.returned rfl
  · skip
    have hR58 := hR39.setb (d := 11) (b := false) rfl (decide_eq_false h40)
    refine wp_cond_false (hR58.ev rfl) ?_
    refine wp_skip ?_
    refine x_then_n (hK31 _ _ ?_)
    refine wp_seq_k (fun K59 hK60 => ?_)
    refine c_region ?_
    refine mv hR58 (fun a61 hR62 => ?_)
    have hS63 : St w0 Z none_ w27 [.box g23 32 [.int .i64 (((nth t (t.length - 1)).K)), .int .i64 (((nth t (t.length - 1)).N)), .int .i64 (((nth t (t.length - 1)).M)), .string ((nth t (t.length - 1)).S)]] [dRow 4 tA t.length tc (encNs t)] := hS29
    refine k_call (xs := [.tmp 14]) se hR62 rfl rfl rfl (by decide) ok32 (rparts_calls _ (imm Z w0 [.box g23 32 [.int .i64 (((nth t (t.length - 1)).K)), .int .i64 (((nth t (t.length - 1)).N)), .int .i64 (((nth t (t.length - 1)).M)), .string ((nth t (t.length - 1)).S)]] _) (fun _ h => h.1) tA tc t (hS63.get (i := 0) rfl) (by first | assumption | omega | (simp; done) | (simp; omega)) (by first | assumption | omega | (simp; done) | (simp; omega)) (by first | assumption | omega | (simp; done) | (simp; omega))) ?_
    rintro e76 w65 ⟨A69, c70, rL71, rfl, hf68, hd72, hd73, hL74⟩
    have hS77 := hS63.below hf68.below
    have hS78 := hS77.data (dRow 1 A69 rL71.length c70 (encSs rL71)) ⟨hd72.1, hd72.2.mono (fun _ hk => ⟨nxt_imm hS63 hk, rfl⟩)⟩
    have hS79 := hS78.data (dAll rL71) ((dAll _).mono _ _ _ _ (Nat.le_refl _) hd73 (fun _ hk => ⟨nxt_imm hS63 hk, rfl⟩))
    refine ⟨_, rfl, fun a64 hR66 => ?_⟩
    refine asg hR66 (fun a80 hR81 => ?_)
    refine wpList_nil (x_then_n (hK60 _ _ ?_))
    refine wp_seq_k (fun K82 hK83 => ?_)
    refine c_region ?_
    have hS84 := hS79.data (dAll []) all_nil
    refine m_buildSlice (ps := []) (cs := []) sv hR81 hS84 rfl rfl rfl Tryd.underlying39 zi22 rfl rfl (by kernel_rfl) rfl (by decide) (fun a85 w86 g87 hR88 hS89 => ?_)
    refine asg hR88 (fun a90 hR91 => ?_)
    refine wpList_nil (x_then_n (hK83 _ _ ?_))
    refine wp_seq_k (fun K92 hK93 => ?_)
    refine wp_seq_k (fun K94 hK95 => ?_)
    refine c_region ?_
    refine asg hR91 (fun a96 hR97 => ?_)
    refine wpList_nil (x_then_n (hK95 _ _ ?_))
    refine wp_block ?_
    refine wp_loop_ghost (fun gn ga gw => ∃ k : Nat, ∃ Ls : List Sl, ∃ Ao : Option Addr, ∃ co : Nat, (Reg ga 34 [(1000000, .bool false), (2, .slice none 0 0), (3, .pointer (some ⟨g23, 0, none⟩)), (4, .slice A69 rL71.length c70), (6, .int .i64 ((k : Nat) : Int)), (5, .slice Ao ((Ls).length) co)]) ∧ (St w0 Z none_ gw [.box g23 32 [.int .i64 (((nth t (t.length - 1)).K)), .int .i64 (((nth t (t.length - 1)).N)), .int .i64 (((nth t (t.length - 1)).M)), .string ((nth t (t.length - 1)).S)], .row Ao ((Ls).length) co 22 1 (encSs Ls)] [dRow 4 tA t.length tc (encNs t), dRow 1 A69 rL71.length c70 (encSs rL71), dAll rL71, dAll Ls]) ∧ (k ≤ rL71.length) ∧ (lsts Ls = ((ptL t).take k).map erL) ∧ (rL71.length - k) = gn) _ ⟨0, [], (some ⟨g87, 0, none⟩), 0, (hR97.sub (rc rfl (rc rfl (rc rfl (rc rfl (rc rfl (rc rfl rnl))))))), hS89, by omega, by simp [lsts], rfl⟩ ?_
    rintro r98 a99 w100 ⟨k, Ls, Ao, co, hR101, hS102, hk, hL, hn103⟩
    have hrl : rL71.length = (ptL t).length := by rw [← lsts_len, hL74]
    have hp8 := ptL_le hb
    have hLn : Ls.length = k := by rw [← lsts_len, hL, List.length_map, List.length_take]; omega
    refine wp_seq_k (fun K104 hK105 => ?_)
    refine wp_seq_k (fun K106 hK107 => ?_)
    refine c_region ?_
    refine mv hR101 (fun a108 hR109 => ?_)
    refine mv hR109 (fun a110 hR111 => ?_)
    refine r_len sv hR111 rfl rfl rfl rfl Tryd.underlying39 (by decide) (fun a112 hR113 => ?_)
    refine r_lss sv hR113 rfl rfl rfl rfl (by decide) (fun a114 hR115 => ?_)
    refine wpList_nil (x_then_n (hK107 _ _ ?_))
    rcases Decidable.em (((k : Nat) : Int) < ((rL71.length : Nat) : Int)) with h116 | h116
    · skip
      obtain ⟨hpe, hpk, hpb, hpl, hps, hp0'⟩ := part_at hb hsm hL74 (show k < rL71.length by omega)
      have hR117 := hR115.setb (d := 20) (b := true) rfl (decide_eq_true h116)
      refine wp_cond_true (hR117.ev rfl) ?_
      refine wp_skip ?_
      refine x_then_n (hK105 _ _ ?_)
      refine wp_seq_k (fun K118 hK119 => ?_)
      refine wp_block ?_
      refine c_region ?_
      refine mv hR117 (fun a120 hR121 => ?_)
      refine mv hR121 (fun a122 hR123 => ?_)
      refine mv hR123 (fun a124 hR125 => ?_)
      refine m_index (i := k) (j := k * 1) sv hR125 rfl rfl rfl rfl Tryd.underlying39 sz22 (by omega) (by omega) (ss_elem (t := rL71) (k := k) (hS102.row (i := 1) rfl).2 (by omega)).some_ rfl (by decide) (fun a126 hR127 => ?_)
      refine m_loadE sv hR127 rfl rfl rfl 0 (k * 1) (ss_elem (t := rL71) (k := k) (hS102.row (i := 1) rfl).2 (by omega)) rfl rfl Tryd.underlying22 rfl (by decide) (fun a128 hR129 => ?_)
      have hS130 := hS102.data (dRow 4 ((nthS rL71 k).1) ((nthS rL71 k).2.2.length) ((nthS rL71 k).2.1) (encNs ((nthS rL71 k).2.2))) (all_at (t := rL71) (k := k) (hS102.get (i := 2) rfl) (by omega))
      have hS131 : St w0 Z none_ w100 [.box g23 32 [.int .i64 (((nth t (t.length - 1)).K)), .int .i64 (((nth t (t.length - 1)).N)), .int .i64 (((nth t (t.length - 1)).M)), .string ((nth t (t.length - 1)).S)], .row Ao ((Ls).length) co 22 1 (encSs Ls)] [dRow 4 tA t.length tc (encNs t), dRow 1 A69 rL71.length c70 (encSs rL71), dAll rL71, dAll Ls, dRow 4 ((nthS rL71 k).1) ((nthS rL71 k).2.2.length) ((nthS rL71 k).2.1) (encNs ((nthS rL71 k).2.2))] := hS130
      refine k_call (xs := [.tmp 27]) se hR129 rfl rfl rfl (by decide) ok63 (ih (((nthS rL71 k).2.2).length) (by omega) _ (imm Z w0 [.box g23 32 [.int .i64 (((nth t (t.length - 1)).K)), .int .i64 (((nth t (t.length - 1)).N)), .int .i64 (((nth t (t.length - 1)).M)), .string ((nth t (t.length - 1)).S)], .row Ao ((Ls).length) co 22 1 (encSs Ls)] _) (fun _ h => h.1) ((nthS rL71 k).1) ((nthS rL71 k).2.1) ((nthS rL71 k).2.2) (hS131.get (i := 4) rfl) (by first | assumption | omega | (simp; done) | (simp; omega)) (by first | assumption | omega | (simp; done) | (simp; omega)) (by first | assumption | omega | (simp; done) | (simp; omega)) rfl) ?_
      rintro e141 w133 ⟨A137, c138, rfl, hf136, hd139⟩
      have hS142 := hS131.below hf136.below
      have hS143 := hS142.data (dRow 4 A137 ((erL ((nthS rL71 k).2.2)).length) c138 (encNs (erL ((nthS rL71 k).2.2)))) ⟨hd139.1, hd139.2.mono (fun _ hk => ⟨nxt_imm hS131 hk, rfl⟩)⟩
      refine ⟨_, rfl, fun a132 hR134 => ?_⟩
      have hS144 := hS143.data (dAll [((A137, c138, erL ((nthS rL71 k).2.2)) : Sl)]) (all_cons (hS143.get (i := 5) rfl) all_nil)
      refine m_buildSlice (ps := [(0, .tmp 28)]) (cs := [.slice A137 ((erL ((nthS rL71 k).2.2)).length) c138]) sv hR134 hS144 rfl rfl rfl Tryd.underlying39 zi22 rfl rfl (by kernel_rfl) rfl (by decide) (fun a145 w146 g147 hR148 hS149 => ?_)
      refine m_appendF (f := encS) (i := 1) (Ls) ([((A137, c138, erL ((nthS rL71 k).2.2)) : Sl)]) sv hR148 hS149 rfl rfl rfl rfl rfl encS_len (encS_one _) Tryd.underlying39 zi22 rfl rfl (own_lnews (f := encS) (hS149.res (i := 2) rfl)) rfl (by first | omega | (simp only [List.length_cons, List.length_nil]; omega)) (by decide) (fun a150 w151 A152 c153 hc154 hR155 hS156 => ?_)
      have hl158 : (Ls ++ ([((A137, c138, erL ((nthS rL71 k).2.2)) : Sl)]) : List Sl).length = (Ls).length + 1 := by first | (simp only [List.length_append, List.length_take, List.length_cons, List.length_nil]; done) | (simp only [List.length_append, List.length_take, List.length_cons, List.length_nil]; omega)
      have hS159 := hS156.erase 2
      have hS160 := hS159.data (dAll (Ls ++ ([((A137, c138, erL ((nthS rL71 k).2.2)) : Sl)]))) (all_append (hS159.get (i := 3) rfl) (hS159.get (i := 6) rfl))
      refine asg hR155 (fun a161 hR162 => ?_)
      refine wpList_nil ?_
      refine x_block_n ?_
      refine x_then_n (hK119 _ _ ?_)
      refine c_region ?_
      refine mv hR162 (fun a163 hR164 => ?_)
      refine r_add (z := ((k + 1 : Nat) : Int)) sv hR164 rfl rfl rfl rfl (by decide) (by omega) (by omega) (by omega) (fun a165 hR166 => ?_)
      refine asg hR166 (fun a167 hR168 => ?_)
      refine wpList_nil ?_
      have hS169 := hS160.forget 6
      have hS170 := hS169.forget 5
      have hS171 := hS170.forget 4
      have hS172 := hS171.forget 3
      exact ⟨_, by omega, k + 1, Ls ++ ([((A137, c138, erL ((nthS rL71 k).2.2)) : Sl)]), A152, c153, (hR168.sub (rc rfl (rc rfl (rc rfl (rc rfl (rc rfl (rc rfl rnl))))))), hS172, by omega, map_take_step hL hpk (by rw [hpe]), rfl⟩
    · skip
      have hLx : lsts Ls = (ptL t).map erL := by rw [hL, List.take_of_length_le (by omega)]
      have hLl := lsts_len Ls
      rw [hLx, List.length_map] at hLl
      have hR173 := hR115.setb (d := 20) (b := false) rfl (decide_eq_false h116)
      refine wp_cond_false (hR173.ev rfl) ?_
      refine wp_exit ?_
      refine x_then_e ?_
      refine x_then_e ?_
      refine x_block_eq ?_
      refine x_then_n (hK93 _ _ ?_)
      refine wp_seq_k (fun K174 hK175 => ?_)
      refine c_region ?_
      refine m_loadN (i := 0) (vs := [.int .i64 (((nth t (t.length - 1)).K)), .int .i64 (((nth t (t.length - 1)).N)), .int .i64 (((nth t (t.length - 1)).M)), .string ((nth t (t.length - 1)).S)]) sv hR173 hS102 rfl rfl rfl rfl rfl Tryd.underlying32 rfl sz32 (by decide) (fun a176 hR177 => ?_)
      refine mv hR177 (fun a178 hR179 => ?_)
      have hS180 : St w0 Z none_ w100 [.box g23 32 [.int .i64 (((nth t (t.length - 1)).K)), .int .i64 (((nth t (t.length - 1)).N)), .int .i64 (((nth t (t.length - 1)).M)), .string ((nth t (t.length - 1)).S)], .row Ao ((Ls).length) co 22 1 (encSs Ls)] [dRow 4 tA t.length tc (encNs t), dRow 1 A69 rL71.length c70 (encSs rL71), dAll rL71, dAll Ls] := hS102
      have hc184 := own_cap (hS180.res (i := 1) rfl)
      obtain ⟨hS181, hrow182⟩ := hS180.row_data (i := 1) rfl (fun _ h => h)
      have hS183 := hS181.data (dRow 1 Ao ((Ls).length) co (encSs Ls)) ⟨hc184, hrow182⟩
      refine k_call (xs := [.tmp 31, .tmp 32]) se hR179 rfl rfl rfl (by decide) ok25 (rof_calls _ (imm Z w0 [.box g23 32 [.int .i64 (((nth t (t.length - 1)).K)), .int .i64 (((nth t (t.length - 1)).N)), .int .i64 (((nth t (t.length - 1)).M)), .string ((nth t (t.length - 1)).S)]] _) (fun _ h => h.1) (nth t (t.length - 1)) Ao co Ls (hS183.get (i := 4) rfl) (hS183.get (i := 3) rfl) (by omega) (by rw [hLx]; have hft := flat_take_le (f := erL) hb (fun p hp => erL_len (ptL_mem hb hp).1) (ptL t).length; rw [List.take_length] at hft; omega)) ?_
      rintro e194 w186 ⟨A190, c191, rfl, hf189, hd192⟩
      have hS195 := hS183.below hf189.below
      have hS196 := hS195.data (dRow 4 A190 (((lsts Ls).flatten ++ [(nth t (t.length - 1))]).length) c191 (encNs ((lsts Ls).flatten ++ [(nth t (t.length - 1))]))) ⟨hd192.1, hd192.2.mono (fun _ hk => ⟨nxt_imm hS183 hk, rfl⟩)⟩
      refine ⟨_, rfl, fun a185 hR187 => ?_⟩
      refine asg hR187 (fun a197 hR198 => ?_)
      refine wpList_nil (x_then_n (hK175 _ _ ?_))
      refine wp_ret ?_
      refine e_ret1 hR198 rfl rfl rfl ?_
      have he199 : erL t = (lsts Ls).flatten ++ [(nth t (t.length - 1))] := by rw [erL_parts hb (by omega), hLx]
      rw [he199]
      refine ⟨A190, c191, ?_, hS196.fr, ⟨by have := (hS196.row (i := 5) rfl).1; exact this, ((hS196.row (i := 5) rfl).2.mono (fun _ hk => ⟨imm_nxt hk, rfl⟩))⟩⟩
      exact congrArg Ending.returned rfl
theorem rerase_calls (w0 : World) (Z : Nat → Prop) (hZ : ∀ k, Z k → k < w0.heap.size) (tA : Option Addr) (tc : Nat) (t : List Nd) (ht : (dRow 4 tA t.length tc (encNs t)).φ w0 Z) (hl : t.length ≤ 1000000) (hsm : sml t) (hb : measB t = true) :
    Calls Tryd.prog 63 [.slice tA t.length tc].toArray w0 (fun e w' => ∃ (rA0 : Option Addr) (rc0 : Nat), e = .returned (.slice rA0 (erL t).length rc0) ∧ Fr none_ w0 w' ∧ (dRow 4 rA0 ((erL t).length) rc0 (encNs (erL t))).φ w' (nxt Z w0 w')) := rerase_calls_rec _ w0 Z hZ tA tc t ht hl hsm hb rfl

set_option maxRecDepth 100000 in
set_option maxHeartbeats 1000000 in
theorem rErase_calls (w0 : World) (Z : Nat → Prop) (hZ : ∀ k, Z k → k < w0.heap.size) (tA : Option Addr) (tc : Nat) (t : List Nd) (ht : (dRow 4 tA t.length tc (encNs t)).φ w0 Z) (hsm : sml t) (hl : t.length ≤ 1000000) :
    Calls Tryd.prog 40 [.slice tA t.length tc].toArray w0 (fun e w' => ∃ (rA0 : Option Addr) (rc0 : Nat), e = .returned (.tuple #[.slice rA0 (erA t).length rc0, .int .i64 (chk t)]) ∧ Fr none_ w0 w' ∧ (dRow 4 rA0 ((erA t).length) rc0 (encNs (erA t))).φ w' (nxt Z w0 w')) := by
  have hstart : ∀ k, Z k → imm Z w0 [] w0 k ∧ w0.heap[k]? = w0.heap[k]? := fun k hk => ⟨⟨hZ k hk, fun _ => hk, fun _ h => by cases h⟩, rfl⟩
  have hS3 : St w0 Z none_ w0 [] [dRow 4 tA t.length tc (encNs t)] := St.start w0 Z none_ _ (by
    intro d hd
    simp only [List.mem_cons, List.not_mem_nil, or_false] at hd
    rcases hd with rfl
    · exact Dat.mono _ _ _ _ _ (Nat.le_refl _) ht hstart
    )
  refine c_enter Tryd.func40 rfl Tryd.ntmps40 rfl (fun a1 hR2 => ?_)
  refine wp_seq_k (fun K4 hK5 => ?_)
  refine c_region ?_
  refine asg hR2 (fun a6 hR7 => ?_)
  refine asg hR7 (fun a8 hR9 => ?_)
  refine wpList_nil (x_then_n (hK5 _ _ ?_))
  refine wp_seq_k (fun K10 hK11 => ?_)
  refine c_region ?_
  refine mv hR9 (fun a12 hR13 => ?_)
  have hS14 : St w0 Z none_ w0 [] [dRow 4 tA t.length tc (encNs t)] := hS3
  refine k_call (xs := [.tmp 5]) se hR13 rfl rfl rfl (by decide) ok19 (rcheck_calls _ (imm Z w0 [] _) (fun _ h => h.1) tA tc t (hS14.get (i := 0) rfl) (by first | assumption | omega | (simp; done) | (simp; omega)) (by first | assumption | omega | (simp; done) | (simp; omega))) ?_
  rintro e21 w16 ⟨rfl, hf19⟩
  have hS22 := hS14.below hf19.below
  refine ⟨_, rfl, fun a15 hR17 => ?_⟩
  refine asg hR17 (fun a23 hR24 => ?_)
  refine wpList_nil (x_then_n (hK11 _ _ ?_))
  refine wp_seq_k (fun K25 hK26 => ?_)
  refine wp_seq_k (fun K27 hK28 => ?_)
  refine c_region ?_
  refine mv hR24 (fun a29 hR30 => ?_)
  refine r_neq sv hR30 rfl rfl rfl rfl (by decide) (fun a31 hR32 => ?_)
  refine wpList_nil (x_then_n (hK28 _ _ ?_))
  rcases Decidable.em (((chk t)) = 0) with h33 | h33
  · skip
    have hR34 := hR32.setb (d := 8) (b := false) rfl (by rw [(decide_eq_true h33)]; rfl)
    refine wp_cond_false (hR34.ev rfl) ?_
    refine wp_skip ?_
    refine x_then_n (hK26 _ _ ?_)
    refine wp_seq_k (fun K35 hK36 => ?_)
    refine c_region ?_
    refine mv hR34 (fun a37 hR38 => ?_)
    have hS39 : St w0 Z none_ w16 [] [dRow 4 tA t.length tc (encNs t)] := hS22
    refine k_call (xs := [.tmp 10]) se hR38 rfl rfl rfl (by decide) ok63 (rerase_calls _ (imm Z w0 [] _) (fun _ h => h.1) tA tc t (hS39.get (i := 0) rfl) hl hsm (meas_chk (by assumption))) ?_
    rintro e49 w41 ⟨A45, c46, rfl, hf44, hd47⟩
    have hS50 := hS39.below hf44.below
    have hS51 := hS50.data (dRow 4 A45 ((erL t).length) c46 (encNs (erL t))) ⟨hd47.1, hd47.2.mono (fun _ hk => ⟨nxt_imm hS39 hk, rfl⟩)⟩
    refine ⟨_, rfl, fun a40 hR42 => ?_⟩
    refine asg hR42 (fun a52 hR53 => ?_)
    refine asg hR53 (fun a54 hR55 => ?_)
    refine wpList_nil (x_then_n (hK36 _ _ ?_))
    refine wp_ret ?_
    refine e_ret2 hR55 rfl rfl rfl rfl ?_
    have he56 : erA t = erL t := erA_ok (by assumption)
    rw [he56]
    refine ⟨A45, c46, ?_, hS51.fr, ⟨by have := (hS51.row (i := 1) rfl).1; exact this, ((hS51.row (i := 1) rfl).2.mono (fun _ hk => ⟨imm_nxt hk, rfl⟩))⟩⟩
    exact ret_t2 rfl (ret_i (by first | rfl | omega | assumption | exact decide_eq_true (by assumption) | (have q0 := h33; (try simp at q0);  omega) | (simp [h33]; done) | (simp [] at *; done) | (simp [h33] <;> omega) | (rw [Bool.eq_iff_iff]; simp [h33] <;> omega) | (rw [Bool.eq_iff_iff]; simp [h33] at * <;> omega)))
  · skip
    have hR57 := hR32.setb (d := 8) (b := true) rfl (by rw [(decide_eq_false h33)]; rfl)
    refine wp_cond_true (hR57.ev rfl) ?_
    refine wp_seq_k (fun K58 hK59 => ?_)
    refine c_region ?_
    refine mv hR57 (fun a60 hR61 => ?_)
    refine asg hR61 (fun a62 hR63 => ?_)
    refine asg hR63 (fun a64 hR65 => ?_)
    refine wpList_nil (x_then_n (hK59 _ _ ?_))
    refine wp_ret ?_
    refine x_then_r ?_
    refine e_ret2 hR65 rfl rfl rfl rfl ?_
    have he66 : erA t = [] := erA_no (by assumption)
    rw [he66]
    refine ⟨none, 0, ?_, hS22.fr, ⟨Nat.le_refl _, RowI.nil _ _ _ _⟩⟩
    exact ret_t2 rfl (ret_i (by first | rfl | omega | assumption | exact decide_eq_true (by assumption) | (have q0 := h33; (try simp at q0);  omega) | (simp [h33]; done) | (simp [] at *; done) | (simp [h33] <;> omega) | (rw [Bool.eq_iff_iff]; simp [h33] <;> omega) | (rw [Bool.eq_iff_iff]; simp [h33] at * <;> omega)))

set_option maxRecDepth 100000 in
set_option maxHeartbeats 1000000 in
theorem rStrip_calls (w0 : World) (Z : Nat → Prop) (hZ : ∀ k, Z k → k < w0.heap.size) (tA : Option Addr) (tc : Nat) (t : List Nd) (ht : (dRow 4 tA t.length tc (encNs t)).φ w0 Z) (hsm : sml t) (hl : t.length ≤ 1000000) :
    Calls Tryd.prog 42 [.slice tA t.length tc].toArray w0 (fun e w' => ∃ (rA0 : Option Addr) (rc0 : Nat), e = .returned (.tuple #[.slice rA0 (stA t).length rc0, .int .i64 (chk t)]) ∧ Fr none_ w0 w' ∧ (dRow 4 rA0 ((stA t).length) rc0 (encNs (stA t))).φ w' (nxt Z w0 w')) := by
  have hstart : ∀ k, Z k → imm Z w0 [] w0 k ∧ w0.heap[k]? = w0.heap[k]? := fun k hk => ⟨⟨hZ k hk, fun _ => hk, fun _ h => by cases h⟩, rfl⟩
  have hS3 : St w0 Z none_ w0 [] [dRow 4 tA t.length tc (encNs t)] := St.start w0 Z none_ _ (by
    intro d hd
    simp only [List.mem_cons, List.not_mem_nil, or_false] at hd
    rcases hd with rfl
    · exact Dat.mono _ _ _ _ _ (Nat.le_refl _) ht hstart
    )
  refine c_enter Tryd.func42 rfl Tryd.ntmps42 rfl (fun a1 hR2 => ?_)
  refine wp_seq_k (fun K4 hK5 => ?_)
  refine c_region ?_
  refine asg hR2 (fun a6 hR7 => ?_)
  refine asg hR7 (fun a8 hR9 => ?_)
  refine wpList_nil (x_then_n (hK5 _ _ ?_))
  refine wp_seq_k (fun K10 hK11 => ?_)
  refine c_region ?_
  refine mv hR9 (fun a12 hR13 => ?_)
  have hS14 : St w0 Z none_ w0 [] [dRow 4 tA t.length tc (encNs t)] := hS3
  refine k_call (xs := [.tmp 7]) se hR13 rfl rfl rfl (by decide) ok19 (rcheck_calls _ (imm Z w0 [] _) (fun _ h => h.1) tA tc t (hS14.get (i := 0) rfl) (by first | assumption | omega | (simp; done) | (simp; omega)) (by first | assumption | omega | (simp; done) | (simp; omega))) ?_
  rintro e21 w16 ⟨rfl, hf19⟩
  have hS22 := hS14.below hf19.below
  refine ⟨_, rfl, fun a15 hR17 => ?_⟩
  refine asg hR17 (fun a23 hR24 => ?_)
  refine wpList_nil (x_then_n (hK11 _ _ ?_))
  refine wp_seq_k (fun K25 hK26 => ?_)
  refine wp_seq_k (fun K27 hK28 => ?_)
  refine c_region ?_
  refine mv hR24 (fun a29 hR30 => ?_)
  refine r_neq sv hR30 rfl rfl rfl rfl (by decide) (fun a31 hR32 => ?_)
  refine wpList_nil (x_then_n (hK28 _ _ ?_))
  rcases Decidable.em (((chk t)) = 0) with h33 | h33
  · skip
    have hR34 := hR32.setb (d := 10) (b := false) rfl (by rw [(decide_eq_true h33)]; rfl)
    refine wp_cond_false (hR34.ev rfl) ?_
    refine wp_skip ?_
    refine x_then_n (hK26 _ _ ?_)
    refine wp_seq_k (fun K35 hK36 => ?_)
    refine c_region ?_
    refine m_buildSlice (ps := []) (cs := []) sv hR34 hS22 rfl rfl rfl Tryd.underlying22 zi32 rfl rfl (by kernel_rfl) rfl (by decide) (fun a37 w38 g39 hR40 hS41 => ?_)
    refine asg hR40 (fun a42 hR43 => ?_)
    refine wpList_nil (x_then_n (hK36 _ _ ?_))
    refine wp_seq_k (fun K44 hK45 => ?_)
    refine wp_seq_k (fun K46 hK47 => ?_)
    refine c_region ?_
    refine asg hR43 (fun a48 hR49 => ?_)
    refine wpList_nil (x_then_n (hK47 _ _ ?_))
    refine wp_block ?_
    refine wp_loop_ghost (fun gn ga gw => ∃ k : Nat, ∃ Ao : Option Addr, ∃ co : Nat, (Reg ga 33 [(1000000, .bool false), (0, .slice tA t.length tc), (2, .slice none 0 0), (3, .int .i64 0), (6, .int .i64 ((k : Nat) : Int)), (5, .slice Ao (((t.take k).filter nPrf).length) co)]) ∧ (St w0 Z none_ gw [.row Ao (((t.take k).filter nPrf).length) co 32 4 (encNs ((t.take k).filter nPrf))] [dRow 4 tA t.length tc (encNs t)]) ∧ (k ≤ t.length) ∧ (t.length - k) = gn) _ ⟨0, (some ⟨g39, 0, none⟩), 0, (hR49.sub (rc rfl (rc rfl (rc rfl (rc rfl (rc rfl (rc rfl rnl))))))), hS41, by omega, rfl⟩ ?_
    rintro r50 a51 w52 ⟨k, Ao, co, hR53, hS54, hk, hn55⟩
    have hfl : ((t.take k).filter nPrf).length ≤ t.length := Nat.le_trans (List.length_filter_le _ _) (by rw [List.length_take]; omega)
    refine wp_seq_k (fun K56 hK57 => ?_)
    refine wp_seq_k (fun K58 hK59 => ?_)
    refine c_region ?_
    refine mv hR53 (fun a60 hR61 => ?_)
    refine mv hR61 (fun a62 hR63 => ?_)
    refine r_len sv hR63 rfl rfl rfl rfl Tryd.underlying22 (by decide) (fun a64 hR65 => ?_)
    refine r_lss sv hR65 rfl rfl rfl rfl (by decide) (fun a66 hR67 => ?_)
    refine wpList_nil (x_then_n (hK59 _ _ ?_))
    rcases Decidable.em (((k : Nat) : Int) < ((t.length : Nat) : Int)) with h68 | h68
    · skip
      have hR69 := hR67.setb (d := 16) (b := true) rfl (decide_eq_true h68)
      refine wp_cond_true (hR69.ev rfl) ?_
      refine wp_skip ?_
      refine x_then_n (hK57 _ _ ?_)
      refine wp_seq_k (fun K70 hK71 => ?_)
      refine wp_block ?_
      refine wp_seq_k (fun K72 hK73 => ?_)
      refine c_region ?_
      refine mv hR69 (fun a74 hR75 => ?_)
      refine mv hR75 (fun a76 hR77 => ?_)
      refine m_index (i := k) (j := k * 4) sv hR77 rfl rfl rfl rfl Tryd.underlying22 sz32 (by omega) (by omega) (nds_elem (t := t) (k := k) (hS54.row (i := 0) rfl).2 (by omega)).some_ rfl (by decide) (fun a78 hR79 => ?_)
      refine m_fieldE (j' := k * 4) sv hR79 rfl rfl rfl (nds_elem (t := t) (k := k) (hS54.row (i := 0) rfl).2 (by omega)).some_ Tryd.underlying32 rfl sz3 rfl rfl (by decide) (fun a80 hR81 => ?_)
      refine m_loadE sv hR81 rfl rfl rfl 0 (k * 4) (nds_elem (t := t) (k := k) (hS54.row (i := 0) rfl).2 (by omega)) rfl rfl Tryd.underlying3 rfl (by decide) (fun a82 hR83 => ?_)
      refine r_neq sv hR83 rfl rfl rfl rfl (by decide) (fun a84 hR85 => ?_)
      refine wpList_nil (x_then_n (hK73 _ _ ?_))
      rcases Decidable.em ((((nth t k).K)) = 28) with h86 | h86
      · skip
        have hR87 := hR85.setb (d := 24) (b := false) rfl (by rw [(decide_eq_true h86)]; rfl)
        refine wp_cond_false (hR87.ev rfl) ?_
        refine wp_skip ?_
        refine x_block_n ?_
        refine x_then_n (hK71 _ _ ?_)
        refine c_region ?_
        refine mv hR87 (fun a88 hR89 => ?_)
        refine r_add (z := ((k + 1 : Nat) : Int)) sv hR89 rfl rfl rfl rfl (by decide) (by omega) (by omega) (by omega) (fun a90 hR91 => ?_)
        refine asg hR91 (fun a92 hR93 => ?_)
        refine wpList_nil ?_
        have he94 : (t.take k).filter nPrf = (t.take (k + 1)).filter nPrf := by rw [filter_step (by omega)]; split <;> first | (exfalso; omega) | simp
        have hR95 := hR93
        have hS96 := hS54
        rw [he94] at hR95 hS96
        exact ⟨_, by omega, k + 1, Ao, co, (hR95.sub (rc rfl (rc rfl (rc rfl (rc rfl (rc rfl (rc rfl rnl))))))), hS96, by omega, rfl⟩
      · skip
        have hR97 := hR85.setb (d := 24) (b := true) rfl (by rw [(decide_eq_false h86)]; rfl)
        refine wp_cond_true (hR97.ev rfl) ?_
        refine c_region ?_
        refine mv hR97 (fun a98 hR99 => ?_)
        refine mv hR99 (fun a100 hR101 => ?_)
        refine mv hR101 (fun a102 hR103 => ?_)
        refine m_index (i := k) (j := k * 4) sv hR103 rfl rfl rfl rfl Tryd.underlying22 sz32 (by omega) (by omega) (nds_elem (t := t) (k := k) (hS54.row (i := 0) rfl).2 (by omega)).some_ rfl (by decide) (fun a104 hR105 => ?_)
        refine m_loadEN sv hR105 rfl rfl rfl (nds_elem (t := t) (k := k) (hS54.row (i := 0) rfl).2 (by omega)) Tryd.underlying32 rfl sz32 (by decide) (fun a106 hR107 => ?_)
        refine m_buildSlice (ps := [(0, .tmp 29)]) (cs := [.int .i64 (((nth t k).K)), .int .i64 (((nth t k).N)), .int .i64 (((nth t k).M)), .string ((nth t k).S)]) sv hR107 hS54 rfl rfl rfl Tryd.underlying22 zi32 rfl rfl (by kernel_rfl) rfl (by decide) (fun a108 w109 g110 hR111 hS112 => ?_)
        refine m_appendF (f := encN) (i := 0) ((t.take k).filter nPrf) ([(nth t k)]) sv hR111 hS112 rfl rfl rfl rfl rfl encN_len (encN_one _) Tryd.underlying22 zi32 rfl rfl (own_lnews (f := encN) (hS112.res (i := 1) rfl)) rfl (by first | omega | (simp only [List.length_cons, List.length_nil]; omega)) (by decide) (fun a113 w114 A115 c116 hc117 hR118 hS119 => ?_)
        have hl121 : (((t.take k).filter nPrf) ++ ([(nth t k)]) : List Nd).length = ((t.take k).filter nPrf).length + 1 := by first | (simp only [List.length_append, List.length_take, List.length_cons, List.length_nil]; done) | (simp only [List.length_append, List.length_take, List.length_cons, List.length_nil]; omega)
        have hS122 := hS119.erase 1
        refine asg hR118 (fun a123 hR124 => ?_)
        refine wpList_nil ?_
        refine x_block_n ?_
        refine x_then_n (hK71 _ _ ?_)
        refine c_region ?_
        refine mv hR124 (fun a125 hR126 => ?_)
        refine r_add (z := ((k + 1 : Nat) : Int)) sv hR126 rfl rfl rfl rfl (by decide) (by omega) (by omega) (by omega) (fun a127 hR128 => ?_)
        refine asg hR128 (fun a129 hR130 => ?_)
        refine wpList_nil ?_
        have he131 : ((t.take k).filter nPrf) ++ ([(nth t k)]) = (t.take (k + 1)).filter nPrf := by rw [filter_step (by omega)]; split <;> first | (exfalso; omega) | simp
        have hR132 := hR130
        have hS133 := hS122
        rw [he131] at hR132 hS133
        exact ⟨_, by omega, k + 1, A115, c116, (hR132.sub (rc rfl (rc rfl (rc rfl (rc rfl (rc rfl (rc rfl rnl))))))), hS133, by omega, rfl⟩
    · skip
      have hR134 := hR67.setb (d := 16) (b := false) rfl (decide_eq_false h68)
      refine wp_cond_false (hR134.ev rfl) ?_
      refine wp_exit ?_
      refine x_then_e ?_
      refine x_then_e ?_
      refine x_block_eq ?_
      refine x_then_n (hK45 _ _ ?_)
      refine wp_seq_k (fun K135 hK136 => ?_)
      refine c_region ?_
      refine mv hR134 (fun a137 hR138 => ?_)
      refine asg hR138 (fun a139 hR140 => ?_)
      refine asg hR140 (fun a141 hR142 => ?_)
      refine wpList_nil (x_then_n (hK136 _ _ ?_))
      refine wp_ret ?_
      refine e_ret2 hR142 rfl rfl rfl rfl ?_
      have he143 : stA t = (t.take k).filter nPrf := by rw [stA_ok (by assumption), List.take_of_length_le (by omega)]
      rw [he143]
      have hc147 := own_cap (hS54.res (i := 0) rfl)
      obtain ⟨hS144, hrow145⟩ := hS54.row_data (i := 0) rfl (fun _ h => h)
      have hS146 := hS144.data (dRow 4 Ao (((t.take k).filter nPrf).length) co (encNs ((t.take k).filter nPrf))) ⟨hc147, hrow145⟩
      refine ⟨Ao, co, ?_, hS146.fr, ⟨by have := (hS146.row (i := 1) rfl).1; exact this, ((hS146.row (i := 1) rfl).2.mono (fun _ hk => ⟨imm_nxt hk, rfl⟩))⟩⟩
      exact ret_t2 rfl (ret_i (by first | rfl | omega | assumption | exact decide_eq_true (by assumption) | (have q0 := h33; (try simp at q0); have q1 := h68; (try simp at q1);  omega) | (simp [h33, h68]; done) | (simp [] at *; done) | (simp [h33, h68] <;> omega) | (rw [Bool.eq_iff_iff]; simp [h33, h68] <;> omega) | (rw [Bool.eq_iff_iff]; simp [h33, h68] at * <;> omega)))
  · skip
    have hR148 := hR32.setb (d := 10) (b := true) rfl (by rw [(decide_eq_false h33)]; rfl)
    refine wp_cond_true (hR148.ev rfl) ?_
    refine wp_seq_k (fun K149 hK150 => ?_)
    refine c_region ?_
    refine mv hR148 (fun a151 hR152 => ?_)
    refine asg hR152 (fun a153 hR154 => ?_)
    refine asg hR154 (fun a155 hR156 => ?_)
    refine wpList_nil (x_then_n (hK150 _ _ ?_))
    refine wp_ret ?_
    refine x_then_r ?_
    refine e_ret2 hR156 rfl rfl rfl rfl ?_
    have he157 : stA t = [] := stA_no (by assumption)
    rw [he157]
    refine ⟨none, 0, ?_, hS22.fr, ⟨Nat.le_refl _, RowI.nil _ _ _ _⟩⟩
    exact ret_t2 rfl (ret_i (by first | rfl | omega | assumption | exact decide_eq_true (by assumption) | (have q0 := h33; (try simp at q0);  omega) | (simp [h33]; done) | (simp [] at *; done) | (simp [h33] <;> omega) | (rw [Bool.eq_iff_iff]; simp [h33] <;> omega) | (rw [Bool.eq_iff_iff]; simp [h33] at * <;> omega)))

set_option maxRecDepth 100000 in
set_option maxHeartbeats 1000000 in
theorem rproofs_calls_rec (rn : Nat) : ∀ (w0 : World) (Z : Nat → Prop) (hZ : ∀ k, Z k → k < w0.heap.size) (tA : Option Addr) (tc : Nat) (t : List Nd) (ht : (dRow 4 tA t.length tc (encNs t)).φ w0 Z) (hl : t.length ≤ 1000000) (hsm : sml t) (hb : measB t = true) (hrn : t.length = rn),
    Calls Tryd.prog 66 [.slice tA t.length tc].toArray w0 (fun e w' => ∃ (rA0 : Option Addr) (rc0 : Nat) (rL0 : List Sl), e = .returned (.slice rA0 rL0.length rc0) ∧ Fr none_ w0 w' ∧ (dRow 1 rA0 rL0.length rc0 (encSs rL0)).φ w' (nxt Z w0 w') ∧ (dAll rL0).φ w' (nxt Z w0 w') ∧ lsts rL0 = prL t) := by
  induction rn using Nat.strongRecOn
  rename_i rn ih
  intro w0 Z hZ tA tc t ht hl hsm hb hrn
  have hstart : ∀ k, Z k → imm Z w0 [] w0 k ∧ w0.heap[k]? = w0.heap[k]? := fun k hk => ⟨⟨hZ k hk, fun _ => hk, fun _ h => by cases h⟩, rfl⟩
  have hS3 : St w0 Z none_ w0 [] [dRow 4 tA t.length tc (encNs t)] := St.start w0 Z none_ _ (by
    intro d hd
    simp only [List.mem_cons, List.not_mem_nil, or_false] at hd
    rcases hd with rfl
    · exact Dat.mono _ _ _ _ _ (Nat.le_refl _) ht hstart
    )
  have hp0 := meas_pos hb
  refine c_enter Tryd.func66 rfl Tryd.ntmps66 rfl (fun a1 hR2 => ?_)
  refine wp_seq_k (fun K4 hK5 => ?_)
  refine c_region ?_
  refine asg hR2 (fun a6 hR7 => ?_)
  refine wpList_nil (x_then_n (hK5 _ _ ?_))
  refine wp_seq_k (fun K8 hK9 => ?_)
  refine wp_seq_k (fun K10 hK11 => ?_)
  refine c_region ?_
  refine mv hR7 (fun a12 hR13 => ?_)
  have hS14 : St w0 Z none_ w0 [] [dRow 4 tA t.length tc (encNs t)] := hS3
  refine k_call (xs := [.tmp 6]) se hR13 rfl rfl rfl (by decide) ok23 (rroot_calls _ (imm Z w0 [] _) (fun _ h => h.1) tA tc t (hS14.get (i := 0) rfl) (by first | assumption | omega | (simp; done) | (simp; omega)) (by first | assumption | omega | (simp; done) | (simp; omega))) ?_
  rintro e21 w16 ⟨rfl, hf19⟩
  have hS22 := hS14.below hf19.below
  refine ⟨_, rfl, fun a15 hR17 => ?_⟩
  refine m_fieldV (v := .int .i64 (((nth t (t.length - 1)).K))) sv hR17 rfl rfl rfl (fun _ => by kernel_rfl) (by decide) (fun a23 hR24 => ?_)
  refine r_eql sv hR24 rfl rfl rfl rfl (by decide) (fun a25 hR26 => ?_)
  refine wpList_nil (x_then_n (hK11 _ _ ?_))
  rcases Decidable.em ((((nth t (t.length - 1)).K)) = 28) with h27 | h27
  · skip
    have hR28 := hR26.setb (d := 9) (b := true) rfl (decide_eq_true h27)
    refine wp_cond_true (hR28.ev rfl) ?_
    refine wp_seq_k (fun K29 hK30 => ?_)
    refine c_region ?_
    refine mv hR28 (fun a31 hR32 => ?_)
    have hS33 := hS22.data (dAll [((tA, tc, t) : Sl)]) (all_cons (hS22.get (i := 0) rfl) all_nil)
    refine m_buildSlice (ps := [(0, .tmp 10)]) (cs := [.slice tA t.length tc]) sv hR32 hS33 rfl rfl rfl Tryd.underlying39 zi22 rfl rfl (by kernel_rfl) rfl (by decide) (fun a34 w35 g36 hR37 hS38 => ?_)
    refine asg hR37 (fun a39 hR40 => ?_)
    refine wpList_nil (x_then_n (hK30 _ _ ?_))
    refine wp_ret ?_
    refine x_then_r ?_
    refine e_ret1 hR40 rfl rfl rfl ?_
    have hc44 := own_cap (hS38.res (i := 0) rfl)
    obtain ⟨hS41, hrow42⟩ := hS38.row_data (i := 0) rfl (fun _ h => h)
    have hS43 := hS41.data (dRow 1 (some ⟨g36, 0, none⟩) 1 1 (encSs ([((tA, tc, t) : Sl)]))) ⟨hc44, hrow42⟩
    refine ⟨(some ⟨g36, 0, none⟩), 1, ([((tA, tc, t) : Sl)]), ?_, hS43.fr, ⟨by have := (hS43.row (i := 2) rfl).1; exact this, ((hS43.row (i := 2) rfl).2.mono (fun _ hk => ⟨imm_nxt hk, rfl⟩))⟩, ((dAll _).mono _ _ _ _ (Nat.le_refl _) (hS43.get (i := 1) rfl) (fun k hk => ⟨imm_nxt hk, rfl⟩)), (by rw [prL_prf hb (by omega)]; rfl)⟩
    exact congrArg Ending.returned (ret_s (by first | rfl | (simp; done)))
  · skip
    have hR45 := hR26.setb (d := 9) (b := false) rfl (decide_eq_false h27)
    refine wp_cond_false (hR45.ev rfl) ?_
    refine wp_skip ?_
    refine x_then_n (hK9 _ _ ?_)
    refine wp_seq_k (fun K46 hK47 => ?_)
    refine c_region ?_
    refine mv hR45 (fun a48 hR49 => ?_)
    have hS50 : St w0 Z none_ w16 [] [dRow 4 tA t.length tc (encNs t)] := hS22
    refine k_call (xs := [.tmp 12]) se hR49 rfl rfl rfl (by decide) ok32 (rparts_calls _ (imm Z w0 [] _) (fun _ h => h.1) tA tc t (hS50.get (i := 0) rfl) (by first | assumption | omega | (simp; done) | (simp; omega)) (by first | assumption | omega | (simp; done) | (simp; omega)) (by first | assumption | omega | (simp; done) | (simp; omega))) ?_
    rintro e63 w52 ⟨A56, c57, rL58, rfl, hf55, hd59, hd60, hL61⟩
    have hS64 := hS50.below hf55.below
    have hS65 := hS64.data (dRow 1 A56 rL58.length c57 (encSs rL58)) ⟨hd59.1, hd59.2.mono (fun _ hk => ⟨nxt_imm hS50 hk, rfl⟩)⟩
    have hS66 := hS65.data (dAll rL58) ((dAll _).mono _ _ _ _ (Nat.le_refl _) hd60 (fun _ hk => ⟨nxt_imm hS50 hk, rfl⟩))
    refine ⟨_, rfl, fun a51 hR53 => ?_⟩
    refine asg hR53 (fun a67 hR68 => ?_)
    refine wpList_nil (x_then_n (hK47 _ _ ?_))
    refine wp_seq_k (fun K69 hK70 => ?_)
    refine c_region ?_
    have hS71 := hS66.data (dAll []) all_nil
    refine m_buildSlice (ps := []) (cs := []) sv hR68 hS71 rfl rfl rfl Tryd.underlying39 zi22 rfl rfl (by kernel_rfl) rfl (by decide) (fun a72 w73 g74 hR75 hS76 => ?_)
    refine asg hR75 (fun a77 hR78 => ?_)
    refine wpList_nil (x_then_n (hK70 _ _ ?_))
    refine wp_seq_k (fun K79 hK80 => ?_)
    refine wp_seq_k (fun K81 hK82 => ?_)
    refine c_region ?_
    refine asg hR78 (fun a83 hR84 => ?_)
    refine wpList_nil (x_then_n (hK82 _ _ ?_))
    refine wp_block ?_
    refine wp_loop_ghost (fun gn ga gw => ∃ k : Nat, ∃ Ls : List Sl, ∃ Ao : Option Addr, ∃ co : Nat, (Reg ga 29 [(1000000, .bool false), (2, .slice none 0 0), (3, .slice A56 rL58.length c57), (5, .int .i64 ((k : Nat) : Int)), (4, .slice Ao ((Ls).length) co)]) ∧ (St w0 Z none_ gw [.row Ao ((Ls).length) co 22 1 (encSs Ls)] [dRow 4 tA t.length tc (encNs t), dRow 1 A56 rL58.length c57 (encSs rL58), dAll rL58, dAll Ls]) ∧ (k ≤ rL58.length) ∧ (lsts Ls = (((ptL t).take k).map prL).flatten) ∧ (rL58.length - k) = gn) _ ⟨0, [], (some ⟨g74, 0, none⟩), 0, (hR84.sub (rc rfl (rc rfl (rc rfl (rc rfl (rc rfl rnl)))))), hS76, by omega, by simp [lsts], rfl⟩ ?_
    rintro r85 a86 w87 ⟨k, Ls, Ao, co, hR88, hS89, hk, hL, hn90⟩
    have hrl : rL58.length = (ptL t).length := by rw [← lsts_len, hL61]
    have hp8 := ptL_le hb
    have hLn : Ls.length ≤ 8 * t.length := by rw [← lsts_len, hL]; exact flat_take_le hb (fun p hp => (prL_len (ptL_mem hb hp).1).1) k
    refine wp_seq_k (fun K91 hK92 => ?_)
    refine wp_seq_k (fun K93 hK94 => ?_)
    refine c_region ?_
    refine mv hR88 (fun a95 hR96 => ?_)
    refine mv hR96 (fun a97 hR98 => ?_)
    refine r_len sv hR98 rfl rfl rfl rfl Tryd.underlying39 (by decide) (fun a99 hR100 => ?_)
    refine r_lss sv hR100 rfl rfl rfl rfl (by decide) (fun a101 hR102 => ?_)
    refine wpList_nil (x_then_n (hK94 _ _ ?_))
    rcases Decidable.em (((k : Nat) : Int) < ((rL58.length : Nat) : Int)) with h103 | h103
    · skip
      obtain ⟨hpe, hpk, hpb, hpl, hps, hp0'⟩ := part_at hb hsm hL61 (show k < rL58.length by omega)
      have hR104 := hR102.setb (d := 18) (b := true) rfl (decide_eq_true h103)
      refine wp_cond_true (hR104.ev rfl) ?_
      refine wp_skip ?_
      refine x_then_n (hK92 _ _ ?_)
      refine wp_seq_k (fun K105 hK106 => ?_)
      refine wp_block ?_
      refine c_region ?_
      refine mv hR104 (fun a107 hR108 => ?_)
      refine mv hR108 (fun a109 hR110 => ?_)
      refine mv hR110 (fun a111 hR112 => ?_)
      refine m_index (i := k) (j := k * 1) sv hR112 rfl rfl rfl rfl Tryd.underlying39 sz22 (by omega) (by omega) (ss_elem (t := rL58) (k := k) (hS89.row (i := 1) rfl).2 (by omega)).some_ rfl (by decide) (fun a113 hR114 => ?_)
      refine m_loadE sv hR114 rfl rfl rfl 0 (k * 1) (ss_elem (t := rL58) (k := k) (hS89.row (i := 1) rfl).2 (by omega)) rfl rfl Tryd.underlying22 rfl (by decide) (fun a115 hR116 => ?_)
      have hS117 := hS89.data (dRow 4 ((nthS rL58 k).1) ((nthS rL58 k).2.2.length) ((nthS rL58 k).2.1) (encNs ((nthS rL58 k).2.2))) (all_at (t := rL58) (k := k) (hS89.get (i := 2) rfl) (by omega))
      have hS118 : St w0 Z none_ w87 [.row Ao ((Ls).length) co 22 1 (encSs Ls)] [dRow 4 tA t.length tc (encNs t), dRow 1 A56 rL58.length c57 (encSs rL58), dAll rL58, dAll Ls, dRow 4 ((nthS rL58 k).1) ((nthS rL58 k).2.2.length) ((nthS rL58 k).2.1) (encNs ((nthS rL58 k).2.2))] := hS117
      refine k_call (xs := [.tmp 25]) se hR116 rfl rfl rfl (by decide) ok66 (ih (((nthS rL58 k).2.2).length) (by omega) _ (imm Z w0 [.row Ao ((Ls).length) co 22 1 (encSs Ls)] _) (fun _ h => h.1) ((nthS rL58 k).1) ((nthS rL58 k).2.1) ((nthS rL58 k).2.2) (hS118.get (i := 4) rfl) (by first | assumption | omega | (simp; done) | (simp; omega)) (by first | assumption | omega | (simp; done) | (simp; omega)) (by first | assumption | omega | (simp; done) | (simp; omega)) rfl) ?_
      rintro e131 w120 ⟨A124, c125, rL126, rfl, hf123, hd127, hd128, hL129⟩
      have hS132 := hS118.below hf123.below
      have hS133 := hS132.data (dRow 1 A124 rL126.length c125 (encSs rL126)) ⟨hd127.1, hd127.2.mono (fun _ hk => ⟨nxt_imm hS118 hk, rfl⟩)⟩
      have hS134 := hS133.data (dAll rL126) ((dAll _).mono _ _ _ _ (Nat.le_refl _) hd128 (fun _ hk => ⟨nxt_imm hS118 hk, rfl⟩))
      refine ⟨_, rfl, fun a119 hR121 => ?_⟩
      have hrx := (prL_len hpb).1
      have hry : rL126.length = (prL (nthS rL58 k).2.2).length := by rw [← lsts_len, hL129]
      refine m_appendF (f := encS) (i := 0) (Ls) (rL126) sv hR121 hS134 rfl rfl rfl rfl rfl encS_len (encS_one _) Tryd.underlying39 zi22 rfl rfl (hS134.row (i := 5) rfl).2.news rfl (by first | omega | (simp only [List.length_cons, List.length_nil]; omega)) (by decide) (fun a135 w136 A137 c138 hc139 hR140 hS141 => ?_)
      have hl143 : (Ls ++ rL126).length = (Ls).length + rL126.length := by first | (simp only [List.length_append, List.length_take, List.length_cons, List.length_nil]; done) | (simp only [List.length_append, List.length_take, List.length_cons, List.length_nil]; omega)
      have hS144 := hS141.data (dAll (Ls ++ rL126)) (all_append (hS141.get (i := 3) rfl) (hS141.get (i := 6) rfl))
      refine asg hR140 (fun a145 hR146 => ?_)
      refine wpList_nil ?_
      refine x_block_n ?_
      refine x_then_n (hK106 _ _ ?_)
      refine c_region ?_
      refine mv hR146 (fun a147 hR148 => ?_)
      refine r_add (z := ((k + 1 : Nat) : Int)) sv hR148 rfl rfl rfl rfl (by decide) (by omega) (by omega) (by omega) (fun a149 hR150 => ?_)
      refine asg hR150 (fun a151 hR152 => ?_)
      refine wpList_nil ?_
      have hS153 := hS144.forget 6
      have hS154 := hS153.forget 5
      have hS155 := hS154.forget 4
      have hS156 := hS155.forget 3
      exact ⟨_, by omega, k + 1, Ls ++ rL126, A137, c138, (hR152.sub (rc rfl (rc rfl (rc rfl (rc rfl (rc rfl rnl)))))), hS156, by omega, flat_take_step hL hpk (by rw [hL129, hpe]), rfl⟩
    · skip
      have hR157 := hR102.setb (d := 18) (b := false) rfl (decide_eq_false h103)
      refine wp_cond_false (hR157.ev rfl) ?_
      refine wp_exit ?_
      refine x_then_e ?_
      refine x_then_e ?_
      refine x_block_eq ?_
      refine x_then_n (hK80 _ _ ?_)
      refine wp_seq_k (fun K158 hK159 => ?_)
      refine c_region ?_
      refine mv hR157 (fun a160 hR161 => ?_)
      refine asg hR161 (fun a162 hR163 => ?_)
      refine wpList_nil (x_then_n (hK159 _ _ ?_))
      refine wp_ret ?_
      refine e_ret1 hR163 rfl rfl rfl ?_
      have hc167 := own_cap (hS89.res (i := 0) rfl)
      obtain ⟨hS164, hrow165⟩ := hS89.row_data (i := 0) rfl (fun _ h => h)
      have hS166 := hS164.data (dRow 1 Ao ((Ls).length) co (encSs Ls)) ⟨hc167, hrow165⟩
      refine ⟨Ao, co, Ls, ?_, hS166.fr, ⟨by have := (hS166.row (i := 4) rfl).1; exact this, ((hS166.row (i := 4) rfl).2.mono (fun _ hk => ⟨imm_nxt hk, rfl⟩))⟩, ((dAll _).mono _ _ _ _ (Nat.le_refl _) (hS166.get (i := 3) rfl) (fun k hk => ⟨imm_nxt hk, rfl⟩)), (by rw [prL_parts hb (by omega), hL, List.take_of_length_le (by omega)])⟩
      exact congrArg Ending.returned (ret_s (by first | rfl | (simp; done)))
theorem rproofs_calls (w0 : World) (Z : Nat → Prop) (hZ : ∀ k, Z k → k < w0.heap.size) (tA : Option Addr) (tc : Nat) (t : List Nd) (ht : (dRow 4 tA t.length tc (encNs t)).φ w0 Z) (hl : t.length ≤ 1000000) (hsm : sml t) (hb : measB t = true) :
    Calls Tryd.prog 66 [.slice tA t.length tc].toArray w0 (fun e w' => ∃ (rA0 : Option Addr) (rc0 : Nat) (rL0 : List Sl), e = .returned (.slice rA0 rL0.length rc0) ∧ Fr none_ w0 w' ∧ (dRow 1 rA0 rL0.length rc0 (encSs rL0)).φ w' (nxt Z w0 w') ∧ (dAll rL0).φ w' (nxt Z w0 w') ∧ lsts rL0 = prL t) := rproofs_calls_rec _ w0 Z hZ tA tc t ht hl hsm hb rfl

set_option maxRecDepth 100000 in
set_option maxHeartbeats 1000000 in
theorem rProofs_calls (w0 : World) (Z : Nat → Prop) (hZ : ∀ k, Z k → k < w0.heap.size) (tA : Option Addr) (tc : Nat) (t : List Nd) (ht : (dRow 4 tA t.length tc (encNs t)).φ w0 Z) (hsm : sml t) (hl : t.length ≤ 1000000) :
    Calls Tryd.prog 43 [.slice tA t.length tc].toArray w0 (fun e w' => ∃ (rA0 : Option Addr) (rc0 : Nat) (rL0 : List Sl), e = .returned (.tuple #[.slice rA0 rL0.length rc0, .int .i64 (chk t)]) ∧ Fr none_ w0 w' ∧ (dRow 1 rA0 rL0.length rc0 (encSs rL0)).φ w' (nxt Z w0 w') ∧ (dAll rL0).φ w' (nxt Z w0 w') ∧ lsts rL0 = prA t) := by
  have hstart : ∀ k, Z k → imm Z w0 [] w0 k ∧ w0.heap[k]? = w0.heap[k]? := fun k hk => ⟨⟨hZ k hk, fun _ => hk, fun _ h => by cases h⟩, rfl⟩
  have hS3 : St w0 Z none_ w0 [] [dRow 4 tA t.length tc (encNs t)] := St.start w0 Z none_ _ (by
    intro d hd
    simp only [List.mem_cons, List.not_mem_nil, or_false] at hd
    rcases hd with rfl
    · exact Dat.mono _ _ _ _ _ (Nat.le_refl _) ht hstart
    )
  refine c_enter Tryd.func43 rfl Tryd.ntmps43 rfl (fun a1 hR2 => ?_)
  refine wp_seq_k (fun K4 hK5 => ?_)
  refine c_region ?_
  refine asg hR2 (fun a6 hR7 => ?_)
  refine asg hR7 (fun a8 hR9 => ?_)
  refine wpList_nil (x_then_n (hK5 _ _ ?_))
  refine wp_seq_k (fun K10 hK11 => ?_)
  refine c_region ?_
  refine mv hR9 (fun a12 hR13 => ?_)
  have hS14 : St w0 Z none_ w0 [] [dRow 4 tA t.length tc (encNs t)] := hS3
  refine k_call (xs := [.tmp 5]) se hR13 rfl rfl rfl (by decide) ok19 (rcheck_calls _ (imm Z w0 [] _) (fun _ h => h.1) tA tc t (hS14.get (i := 0) rfl) (by first | assumption | omega | (simp; done) | (simp; omega)) (by first | assumption | omega | (simp; done) | (simp; omega))) ?_
  rintro e21 w16 ⟨rfl, hf19⟩
  have hS22 := hS14.below hf19.below
  refine ⟨_, rfl, fun a15 hR17 => ?_⟩
  refine asg hR17 (fun a23 hR24 => ?_)
  refine wpList_nil (x_then_n (hK11 _ _ ?_))
  refine wp_seq_k (fun K25 hK26 => ?_)
  refine wp_seq_k (fun K27 hK28 => ?_)
  refine c_region ?_
  refine mv hR24 (fun a29 hR30 => ?_)
  refine r_neq sv hR30 rfl rfl rfl rfl (by decide) (fun a31 hR32 => ?_)
  refine wpList_nil (x_then_n (hK28 _ _ ?_))
  rcases Decidable.em (((chk t)) = 0) with h33 | h33
  · skip
    have hR34 := hR32.setb (d := 8) (b := false) rfl (by rw [(decide_eq_true h33)]; rfl)
    refine wp_cond_false (hR34.ev rfl) ?_
    refine wp_skip ?_
    refine x_then_n (hK26 _ _ ?_)
    refine wp_seq_k (fun K35 hK36 => ?_)
    refine c_region ?_
    refine mv hR34 (fun a37 hR38 => ?_)
    have hS39 : St w0 Z none_ w16 [] [dRow 4 tA t.length tc (encNs t)] := hS22
    refine k_call (xs := [.tmp 10]) se hR38 rfl rfl rfl (by decide) ok66 (rproofs_calls _ (imm Z w0 [] _) (fun _ h => h.1) tA tc t (hS39.get (i := 0) rfl) hl hsm (meas_chk (by assumption))) ?_
    rintro e52 w41 ⟨A45, c46, rL47, rfl, hf44, hd48, hd49, hL50⟩
    have hS53 := hS39.below hf44.below
    have hS54 := hS53.data (dRow 1 A45 rL47.length c46 (encSs rL47)) ⟨hd48.1, hd48.2.mono (fun _ hk => ⟨nxt_imm hS39 hk, rfl⟩)⟩
    have hS55 := hS54.data (dAll rL47) ((dAll _).mono _ _ _ _ (Nat.le_refl _) hd49 (fun _ hk => ⟨nxt_imm hS39 hk, rfl⟩))
    refine ⟨_, rfl, fun a40 hR42 => ?_⟩
    refine asg hR42 (fun a56 hR57 => ?_)
    refine asg hR57 (fun a58 hR59 => ?_)
    refine wpList_nil (x_then_n (hK36 _ _ ?_))
    refine wp_ret ?_
    refine e_ret2 hR59 rfl rfl rfl rfl ?_
    refine ⟨A45, c46, rL47, ?_, hS55.fr, ⟨by have := (hS55.row (i := 1) rfl).1; exact this, ((hS55.row (i := 1) rfl).2.mono (fun _ hk => ⟨imm_nxt hk, rfl⟩))⟩, ((dAll _).mono _ _ _ _ (Nat.le_refl _) (hS55.get (i := 2) rfl) (fun k hk => ⟨imm_nxt hk, rfl⟩)), (by rw [prA_ok (by assumption)]; exact hL50)⟩
    exact ret_t2 (ret_s (by first | rfl | (simp; done))) (ret_i (by first | rfl | omega | assumption | exact decide_eq_true (by assumption) | (have q0 := h33; (try simp at q0);  omega) | (simp [h33]; done) | (simp [] at *; done) | (simp [h33] <;> omega) | (rw [Bool.eq_iff_iff]; simp [h33] <;> omega) | (rw [Bool.eq_iff_iff]; simp [h33] at * <;> omega)))
  · skip
    have hR60 := hR32.setb (d := 8) (b := true) rfl (by rw [(decide_eq_false h33)]; rfl)
    refine wp_cond_true (hR60.ev rfl) ?_
    refine wp_seq_k (fun K61 hK62 => ?_)
    refine c_region ?_
    refine mv hR60 (fun a63 hR64 => ?_)
    refine asg hR64 (fun a65 hR66 => ?_)
    refine asg hR66 (fun a67 hR68 => ?_)
    refine wpList_nil (x_then_n (hK62 _ _ ?_))
    refine wp_ret ?_
    refine x_then_r ?_
    refine e_ret2 hR68 rfl rfl rfl rfl ?_
    refine ⟨none, 0, [], ?_, hS22.fr, ⟨Nat.le_refl _, RowI.nil _ _ _ _⟩, all_nil, (prA_no (by assumption)).symm⟩
    exact ret_t2 (ret_s (by first | rfl | (simp; done))) (ret_i (by first | rfl | omega | assumption | exact decide_eq_true (by assumption) | (have q0 := h33; (try simp at q0);  omega) | (simp [h33]; done) | (simp [] at *; done) | (simp [h33] <;> omega) | (rw [Bool.eq_iff_iff]; simp [h33] <;> omega) | (rw [Bool.eq_iff_iff]; simp [h33] at * <;> omega)))
end Go.Proofs.YtobgdeffhdefeaaDoor
/- Conversions of integers, remainders, truths compared. -/
namespace Go.Proofs.YtobgdeffhdefeaaDoor
set_option linter.unusedSimpArgs false
set_option linter.unusedVariables false
open Go Go.RowKit
section
variable {P : Program} {X : Prop} {Next : Act → World → Prop} {o : Oper} {a : Act} {w w0 : World} {N : Nat} {l : List (Nat × Value)} {d : Nat}
theorem r_conv {x : Operand} {t u : TypeId} {ki : IntKind} {p : Int} {tk : IntKind} (hs : SteV P X Next o a w) (hR : Reg a N l) (hd : o.dst = some d) (ho : o.op = .convert t u x) (hx : ev l x = some (.int ki p)) (ht : P.underlying t = some (.int tk)) (hu : P.underlying u = some (.int .i64)) (hdN : d < N)
    (h1 : -1000000000000000 ≤ p) (h2 : p ≤ 1000000000000000) (k : ∀ a', Reg a' N ((d, .int .i64 p) :: l) → Next a' w) : X :=
  r_pure hs hR hd hdN (by
    unfold execOp; rw [ho]
    simp only [hR.ev hx, convert, Sem.run_bind, run_underlying ht, run_underlying hu, Result.andThen_ok, Conv.intToInt, Sem.run_pure, wrap_ok rfl h1 h2]) k
theorem r_rem {x y : Operand} {t u : TypeId} {p q z : Int} (hs : SteV P X Next o a w) (hR : Reg a N l) (hd : o.dst = some d) (ho : o.op = .binOp .rem t x y u) (hx : ev l x = some (.int .i64 p)) (hy : ev l y = some (.int .i64 q)) (hdN : d < N)
    (hz : p.tmod q = z) (hq : q ≠ 0) (k : ∀ a', Reg a' N ((d, .int .i64 z) :: l) → Next a' w) : X :=
  r_pure hs hR hd hdN (run_int hR ho hx hy (by simp [binOp, Op.intDiv, hq, hz])) k
theorem tmod_nat (p q : Nat) : ((p : Nat) : Int).tmod ((q : Nat) : Int) = ((p % q : Nat) : Int) := rfl
theorem run_bool {op : BinOp} {t u : TypeId} {x y : Operand} {v : Value} {b c : Bool} (hR : Reg a N l) (ho : o.op = .binOp op t x y u) (hx : ev l x = some (.bool b)) (hy : ev l y = some (.bool c))
    (h : (binOp op t (.bool b) (.bool c)).run P w = .ok v w) : (execOp a.eval o).run P w = .ok (.value v) w := by
  have hg : (eqGuard op t x y (.bool b) (.bool c)).run P w = .ok () w := by
    unfold eqGuard
    cases op <;> rfl
  unfold execOp
  rw [ho]
  simp only [hR.ev hx, hR.ev hy, Sem.run_bind, hg, Result.andThen_ok, h, Sem.run_pure]
theorem eq_bool {t : TypeId} (ht : P.underlying t = some .bool) (b c : Bool) : (Op.equal t (.bool b) (.bool c)).run P w = .ok (b == c) w := by
  unfold Op.equal Op.maxDepth Op.equalIn
  simp only [Sem.run_bind, run_underlying ht, Result.andThen_ok, Sem.run_pure]
theorem r_eqlB {x y : Operand} {t u : TypeId} {b c : Bool} (hs : SteV P X Next o a w) (hR : Reg a N l) (hd : o.dst = some d) (ho : o.op = .binOp .eql t x y u) (hx : ev l x = some (.bool b)) (hy : ev l y = some (.bool c)) (ht : P.underlying t = some .bool) (hdN : d < N)
    (k : ∀ a', Reg a' N ((d, .bool (b == c)) :: l) → Next a' w) : X :=
  r_pure hs hR hd hdN (run_bool hR ho hx hy (by unfold binOp; simp only [Sem.run_bind, eq_bool ht, Result.andThen_ok, Sem.run_pure])) k
theorem r_neqB {x y : Operand} {t u : TypeId} {b c : Bool} (hs : SteV P X Next o a w) (hR : Reg a N l) (hd : o.dst = some d) (ho : o.op = .binOp .neq t x y u) (hx : ev l x = some (.bool b)) (hy : ev l y = some (.bool c)) (ht : P.underlying t = some .bool) (hdN : d < N)
    (k : ∀ a', Reg a' N ((d, .bool (!(b == c))) :: l) → Next a' w) : X :=
  r_pure hs hR hd hdN (run_bool hR ho hx hy (by unfold binOp; simp only [Sem.run_bind, eq_bool ht, Result.andThen_ok, Sem.run_pure])) k
end
end Go.Proofs.YtobgdeffhdefeaaDoor
/- Contracts of functions, one theorem each: what the call returns, and that nothing old is changed. Printed by gen.py. -/
namespace Go.Proofs.YtobgdeffhdefeaaDoor
open Go Go.RowKit
set_option linter.unusedSimpArgs false
set_option linter.unusedVariables false

set_option maxRecDepth 100000 in
set_option maxHeartbeats 1000000 in
theorem rclamp_calls (w0 : World) (Z : Nat → Prop) (hZ : ∀ k, Z k → k < w0.heap.size) (n : Int)  :
    Calls Tryd.prog 50 [.int .i64 n].toArray w0 (fun e w' => e = .returned (.int .i64 (clamp n)) ∧ Fr none_ w0 w') := by
  have hstart : ∀ k, Z k → imm Z w0 [] w0 k ∧ w0.heap[k]? = w0.heap[k]? := fun k hk => ⟨⟨hZ k hk, fun _ => hk, fun _ h => by cases h⟩, rfl⟩
  have hS3 : St w0 Z none_ w0 [] [] := St.start w0 Z none_ _ (by
    intro d hd
    cases hd
    )
  refine c_enter Tryd.func50 rfl Tryd.ntmps50 rfl (fun a1 hR2 => ?_)
  refine wp_seq_k (fun K4 hK5 => ?_)
  refine c_region ?_
  refine asg hR2 (fun a6 hR7 => ?_)
  refine wpList_nil (x_then_n (hK5 _ _ ?_))
  refine wp_seq_k (fun K8 hK9 => ?_)
  refine c_region ?_
  refine mv hR7 (fun a10 hR11 => ?_)
  refine r_min sv hR11 rfl rfl rfl rfl rfl (by decide) (fun a12 hR13 => ?_)
  refine r_max sv hR13 rfl rfl rfl rfl rfl (by decide) (fun a14 hR15 => ?_)
  refine asg hR15 (fun a16 hR17 => ?_)
  refine wpList_nil (x_then_n (hK9 _ _ ?_))
  refine wp_ret ?_
  refine e_ret1 hR17 rfl rfl rfl ?_
  refine ⟨?_, hS3.fr⟩
  exact congrArg Ending.returned (ret_i (by unfold clamp; omega))

set_option maxRecDepth 100000 in
set_option maxHeartbeats 1000000 in
theorem rshift_calls_rec (rn : Nat) : ∀ (w0 : World) (Z : Nat → Prop) (hZ : ∀ k, Z k → k < w0.heap.size) (tA : Option Addr) (tc : Nat) (t : List Nd) (b : Int) (fr : Int) (u : Int) (ht : (dRow 4 tA t.length tc (encNs t)).φ w0 Z) (hl : t.length ≤ 1000000) (hsm : sml t) (hb : measB t = true) (hu0 : 0 ≤ u) (hub : u + 2 * t.length ≤ 10000000) (hb1 : -1000000 ≤ b) (hb2 : b ≤ 1000000) (hrn : t.length = rn),
    Calls Tryd.prog 49 [.slice tA t.length tc, .int .i64 b, .int .i64 fr, .int .i64 u].toArray w0 (fun e w' => ∃ (rA0 : Option Addr) (rc0 : Nat), e = .returned (.tuple #[.slice rA0 (trL (shV b fr) t u).length rc0, .int .i64 (trEL (shV b fr) t u)]) ∧ Fr none_ w0 w' ∧ (dRow 4 rA0 ((trL (shV b fr) t u).length) rc0 (encNs (trL (shV b fr) t u))).φ w' (nxt Z w0 w')) := by
  induction rn using Nat.strongRecOn
  rename_i rn ih
  intro w0 Z hZ tA tc t b fr u ht hl hsm hb hu0 hub hb1 hb2 hrn
  have hstart : ∀ k, Z k → imm Z w0 [] w0 k ∧ w0.heap[k]? = w0.heap[k]? := fun k hk => ⟨⟨hZ k hk, fun _ => hk, fun _ h => by cases h⟩, rfl⟩
  have hS3 : St w0 Z none_ w0 [] [dRow 4 tA t.length tc (encNs t)] := St.start w0 Z none_ _ (by
    intro d hd
    simp only [List.mem_cons, List.not_mem_nil, or_false] at hd
    rcases hd with rfl
    · exact Dat.mono _ _ _ _ _ (Nat.le_refl _) ht hstart
    )
  have hp0 := meas_pos hb
  have hrt := right_at hb (show t.length - 1 < t.length by omega)
  have hbl := bindL_right hrt
  have hbm := bindL_many hrt
  have hpm := ptL_length hb
  refine c_enter Tryd.func49 rfl Tryd.ntmps49 rfl (fun a1 hR2 => ?_)
  refine wp_seq_k (fun K4 hK5 => ?_)
  refine c_region ?_
  refine asg hR2 (fun a6 hR7 => ?_)
  refine asg hR7 (fun a8 hR9 => ?_)
  refine wpList_nil (x_then_n (hK5 _ _ ?_))
  refine wp_seq_k (fun K10 hK11 => ?_)
  refine c_region ?_
  refine mv hR9 (fun a12 hR13 => ?_)
  have hS14 : St w0 Z none_ w0 [] [dRow 4 tA t.length tc (encNs t)] := hS3
  refine k_call (xs := [.tmp 19]) se hR13 rfl rfl rfl (by decide) ok23 (rroot_calls _ (imm Z w0 [] _) (fun _ h => h.1) tA tc t (hS14.get (i := 0) rfl) (by first | assumption | omega | (simp; done) | (simp; omega)) (by first | assumption | omega | (simp; done) | (simp; omega))) ?_
  rintro e21 w16 ⟨rfl, hf19⟩
  have hS22 := hS14.below hf19.below
  refine ⟨_, rfl, fun a15 hR17 => ?_⟩
  refine m_alloc (cs := [.int .i64 0, .int .i64 0, .int .i64 0, .string (⟨#[]⟩ : ByteArray)]) sv hR17 hS22 rfl rfl ze32 rfl (by decide) (fun a23 w24 g25 hR26 hS27 => ?_)
  refine m_store (i := 0) (cs' := [.int .i64 (((nth t (t.length - 1)).K)), .int .i64 (((nth t (t.length - 1)).N)), .int .i64 (((nth t (t.length - 1)).M)), .string ((nth t (t.length - 1)).S)]) se hR26 hS27 rfl rfl rfl rfl rfl sz32 rfl rfl rfl (fun a28 w29 hR30 hS31 => ?_)
  refine wpList_nil (x_then_n (hK11 _ _ ?_))
  refine wp_seq_k (fun K32 hK33 => ?_)
  refine wp_seq_k (fun K34 hK35 => ?_)
  refine c_region ?_
  refine m_field (j' := 0) sv hR30 rfl rfl rfl Tryd.underlying32 rfl sz3 rfl rfl (by decide) (fun a36 hR37 => ?_)
  refine m_load (i := 0) sv hR37 hS31 rfl rfl rfl rfl rfl Tryd.underlying3 rfl (by decide) (fun a38 hR39 => ?_)
  refine r_eql sv hR39 rfl rfl rfl rfl (by decide) (fun a40 hR41 => ?_)
  refine mv hR41 (fun a42 hR43 => ?_)
  refine l_join (fun ga gw => Reg ga 86 [(0, .slice tA t.length tc), (1, .int .i64 (b)), (2, .int .i64 (fr)), (3, .int .i64 (u)), (8, .slice none 0 0), (9, .int .i64 0), (10, .pointer (some ⟨g25, 0, none⟩)), (31, .bool ((decide ((((nth t (t.length - 1)).K)) = 0)) && (decide ((fr) ≤ (((nth t (t.length - 1)).N) - u))))), (1000000, .bool false)] ∧ St w0 Z none_ gw [.box g25 32 [.int .i64 (((nth t (t.length - 1)).K)), .int .i64 (((nth t (t.length - 1)).N)), .int .i64 (((nth t (t.length - 1)).M)), .string ((nth t (t.length - 1)).S)]] [dRow 4 tA t.length tc (encNs t)]) 7 ?_ ?_
  · skip
    rcases Decidable.em ((((nth t (t.length - 1)).K)) = 0) with h44 | h44
    · skip
      obtain ⟨hN0, hN1⟩ := var_at hb h44
      have hR45 := hR43.setb (d := 24) (b := true) rfl (decide_eq_true h44)
      refine m_field (j' := 1) (st_listV_w (wt hR45)) hR45 rfl rfl rfl Tryd.underlying32 rfl sz3 rfl rfl (by decide) (fun a46 hR47 => ?_)
      refine m_load (i := 0) (st_listV_w (wt hR47)) hR47 hS31 rfl rfl rfl rfl rfl Tryd.underlying3 rfl (by decide) (fun a48 hR49 => ?_)
      refine r_move (st_listV_w (wt hR49)) hR49 rfl rfl rfl (by decide) (fun a50 hR51 => ?_)
      refine r_sub (z := (((nth t (t.length - 1)).N) - u)) (st_listV_w (wt hR51)) hR51 rfl rfl rfl rfl (by decide) (by omega) (by omega) (by omega) (fun a52 hR53 => ?_)
      refine r_move (st_listV_w (wt hR53)) hR53 rfl rfl rfl (by decide) (fun a54 hR55 => ?_)
      refine r_geq (st_listV_w (wt hR55)) hR55 rfl rfl rfl rfl (by decide) (fun a56 hR57 => ?_)
      refine r_pick_t sv hR57 rfl rfl rfl rfl (by decide) (fun a58 hR59 => ?_)
      refine wpList_nil ?_
      exact x_then_n ⟨(hR59.sub (rc rfl (rc rfl (rc rfl (rc rfl (rc rfl (rc rfl (rc rfl (rc (rb rfl (by first | rfl | (simp only [decide_eq_true h44, if_pos h44, bl]; done) | (simp [h44]; done) | (simp [h44]; omega))) (rc rfl rnl)))))))))), hS31⟩
    · skip
      have hR60 := hR43.setb (d := 24) (b := false) rfl (decide_eq_false h44)
      refine sps hR60 (wff hR60) (fun a61 hR62 => ?_)
      refine sps hR62 (wff hR62) (fun a63 hR64 => ?_)
      refine sps hR64 (wff hR64) (fun a65 hR66 => ?_)
      refine sps hR66 (wff hR66) (fun a67 hR68 => ?_)
      refine sps hR68 (wff hR68) (fun a69 hR70 => ?_)
      refine sps hR70 (wff hR70) (fun a71 hR72 => ?_)
      refine r_pick_f sv hR72 rfl rfl rfl rfl (by decide) (fun a73 hR74 => ?_)
      refine wpList_nil ?_
      exact x_then_n ⟨(hR74.sub (rc rfl (rc rfl (rc rfl (rc rfl (rc rfl (rc rfl (rc rfl (rc (rb rfl (by first | rfl | (simp only [decide_eq_false h44, if_neg h44, bl]; done) | (simp [h44]; done) | (simp [h44]; omega))) (rc rfl rnl)))))))))), hS31⟩
  rintro a75 w76 ⟨hR77, hS78⟩
  refine wpList_nil (x_then_n (hK35 _ _ ?_))
  rcases Bool.eq_false_or_eq_true (((decide ((((nth t (t.length - 1)).K)) = 0)) && (decide ((fr) ≤ (((nth t (t.length - 1)).N) - u))))) with h79 | h79
  · skip
    have h80 := and_tl h79
    have h81 := of_decide_eq_true h80
    obtain ⟨hN0, hN1⟩ := var_at hb h81
    have h82 := and_tr h79
    have h83 := of_decide_eq_true h82
    have hR84 := hR77.setb (d := 31) (b := true) rfl h79
    refine wp_cond_true (hR84.ev rfl) ?_
    refine wp_seq_k (fun K85 hK86 => ?_)
    refine c_region ?_
    refine m_field (j' := 1) sv hR84 rfl rfl rfl Tryd.underlying32 rfl sz3 rfl rfl (by decide) (fun a87 hR88 => ?_)
    refine m_load (i := 0) sv hR88 hS78 rfl rfl rfl rfl rfl Tryd.underlying3 rfl (by decide) (fun a89 hR90 => ?_)
    refine mv hR90 (fun a91 hR92 => ?_)
    refine r_add (z := (((nth t (t.length - 1)).N) + b)) sv hR92 rfl rfl rfl rfl (by decide) (by omega) (by omega) (by omega) (fun a93 hR94 => ?_)
    refine asg hR94 (fun a95 hR96 => ?_)
    refine wpList_nil (x_then_n (hK86 _ _ ?_))
    refine wp_seq_k (fun K97 hK98 => ?_)
    refine wp_seq_k (fun K99 hK100 => ?_)
    refine c_region ?_
    refine mv hR96 (fun a101 hR102 => ?_)
    refine mv hR102 (fun a103 hR104 => ?_)
    refine r_sub (z := (((nth t (t.length - 1)).N) + b - u)) sv hR104 rfl rfl rfl rfl (by decide) (by omega) (by omega) (by omega) (fun a105 hR106 => ?_)
    refine mv hR106 (fun a107 hR108 => ?_)
    refine r_lss sv hR108 rfl rfl rfl rfl (by decide) (fun a109 hR110 => ?_)
    refine wpList_nil (x_then_n (hK100 _ _ ?_))
    rcases Decidable.em ((((nth t (t.length - 1)).N) + b - u) < (fr)) with h111 | h111
    · skip
      have hR112 := hR110.setb (d := 40) (b := true) rfl (decide_eq_true h111)
      refine wp_cond_true (hR112.ev rfl) ?_
      refine wp_seq_k (fun K113 hK114 => ?_)
      refine c_region ?_
      refine asg hR112 (fun a115 hR116 => ?_)
      refine asg hR116 (fun a117 hR118 => ?_)
      refine wpList_nil (x_then_n (hK114 _ _ ?_))
      refine wp_ret ?_
      refine x_then_r ?_
      refine x_then_r ?_
      refine e_ret2 hR118 rfl rfl rfl rfl ?_
      have he119 : trL (shV b fr) t u = [] := by first | exact (sh_low hb (by omega) (by omega) (by omega)).2 | exact (sh_high hb (by omega) (by omega) (by omega) (by omega)).2 | exact hs2
      rw [he119]
      refine ⟨none, 0, ?_, hS78.fr, ⟨Nat.le_refl _, RowI.nil _ _ _ _⟩⟩
      exact ret_t2 rfl (ret_i (by first | omega | (rw [(sh_low hb (by omega) (by omega) (by omega)).1]) | (rw [(sh_high hb (by omega) (by omega) (by omega) (by omega)).1]) | (rw [(sh_good hb (by omega) (by omega) (by omega) (by omega)).1]) | (rw [hs1, hpe, hbl]; done) | (rw [hd1]; done)))
    · skip
      have hR120 := hR110.setb (d := 40) (b := false) rfl (decide_eq_false h111)
      refine wp_cond_false (hR120.ev rfl) ?_
      refine wp_skip ?_
      refine x_then_n (hK98 _ _ ?_)
      refine wp_seq_k (fun K121 hK122 => ?_)
      refine wp_seq_k (fun K123 hK124 => ?_)
      refine c_region ?_
      refine mv hR120 (fun a125 hR126 => ?_)
      refine r_gtr sv hR126 rfl rfl rfl rfl (by decide) (fun a127 hR128 => ?_)
      refine wpList_nil (x_then_n (hK124 _ _ ?_))
      rcases Decidable.em (99 < (((nth t (t.length - 1)).N) + b)) with h129 | h129
      · skip
        have hR130 := hR128.setb (d := 42) (b := true) rfl (decide_eq_true h129)
        refine wp_cond_true (hR130.ev rfl) ?_
        refine wp_seq_k (fun K131 hK132 => ?_)
        refine c_region ?_
        refine asg hR130 (fun a133 hR134 => ?_)
        refine asg hR134 (fun a135 hR136 => ?_)
        refine wpList_nil (x_then_n (hK132 _ _ ?_))
        refine wp_ret ?_
        refine x_then_r ?_
        refine x_then_r ?_
        refine e_ret2 hR136 rfl rfl rfl rfl ?_
        have he137 : trL (shV b fr) t u = [] := by first | exact (sh_low hb (by omega) (by omega) (by omega)).2 | exact (sh_high hb (by omega) (by omega) (by omega) (by omega)).2 | exact hs2
        rw [he137]
        refine ⟨none, 0, ?_, hS78.fr, ⟨Nat.le_refl _, RowI.nil _ _ _ _⟩⟩
        exact ret_t2 rfl (ret_i (by first | omega | (rw [(sh_low hb (by omega) (by omega) (by omega)).1]) | (rw [(sh_high hb (by omega) (by omega) (by omega) (by omega)).1]) | (rw [(sh_good hb (by omega) (by omega) (by omega) (by omega)).1]) | (rw [hs1, hpe, hbl]; done) | (rw [hd1]; done)))
      · skip
        have hR138 := hR128.setb (d := 42) (b := false) rfl (decide_eq_false h129)
        refine wp_cond_false (hR138.ev rfl) ?_
        refine wp_skip ?_
        refine x_then_n (hK122 _ _ ?_)
        refine wp_seq_k (fun K139 hK140 => ?_)
        refine c_region ?_
        refine mv hR138 (fun a141 hR142 => ?_)
        refine m_build (ps := [(0, .const (.int .i64 0)), (1, .tmp 43)]) (v := .agg #[.int .i64 0, .int .i64 (((nth t (t.length - 1)).N) + b), .int .i64 0, .string (⟨#[]⟩ : ByteArray)]) sv hR142 rfl rfl rfl (fun _ => by kernel_rfl) (by decide) (fun a143 hR144 => ?_)
        refine m_buildSlice (ps := [(0, .tmp 44)]) (cs := [.int .i64 0, .int .i64 (((nth t (t.length - 1)).N) + b), .int .i64 0, .string (⟨#[]⟩ : ByteArray)]) sv hR144 hS78 rfl rfl rfl Tryd.underlying22 zi32 rfl rfl (by kernel_rfl) rfl (by decide) (fun a145 w146 g147 hR148 hS149 => ?_)
        refine asg hR148 (fun a150 hR151 => ?_)
        refine asg hR151 (fun a152 hR153 => ?_)
        refine wpList_nil (x_then_n (hK140 _ _ ?_))
        refine wp_ret ?_
        refine x_then_r ?_
        refine e_ret2 hR153 rfl rfl rfl rfl ?_
        have he154 : trL (shV b fr) t u = [(⟨0, (((nth t (t.length - 1)).N) + b), 0, (⟨#[]⟩ : ByteArray)⟩ : Nd)] := (sh_good hb (by omega) (by omega) (by omega) (by omega)).2
        rw [he154]
        have hc158 := own_cap (hS149.res (i := 1) rfl)
        obtain ⟨hS155, hrow156⟩ := hS149.row_data (i := 1) rfl (fun _ h => h)
        have hS157 := hS155.data (dRow 4 (some ⟨g147, 0, none⟩) 1 1 (encNs ([(⟨0, (((nth t (t.length - 1)).N) + b), 0, (⟨#[]⟩ : ByteArray)⟩ : Nd)]))) ⟨hc158, hrow156⟩
        refine ⟨(some ⟨g147, 0, none⟩), 1, ?_, hS157.fr, ⟨by have := (hS157.row (i := 1) rfl).1; exact this, ((hS157.row (i := 1) rfl).2.mono (fun _ hk => ⟨imm_nxt hk, rfl⟩))⟩⟩
        exact ret_t2 rfl (ret_i (by first | omega | (rw [(sh_low hb (by omega) (by omega) (by omega)).1]) | (rw [(sh_high hb (by omega) (by omega) (by omega) (by omega)).1]) | (rw [(sh_good hb (by omega) (by omega) (by omega) (by omega)).1]) | (rw [hs1, hpe, hbl]; done) | (rw [hd1]; done)))
  · skip
    have hq159 := h79
    try simp only [Bool.or_eq_true, Bool.and_eq_true, Bool.not_eq_true', Bool.not_eq_false', decide_eq_true_eq, decide_eq_false_iff_not, Bool.or_eq_false_iff, Bool.and_eq_false_iff] at hq159
    have hR160 := hR77.setb (d := 31) (b := false) rfl h79
    refine wp_cond_false (hR160.ev rfl) ?_
    refine wp_skip ?_
    refine x_then_n (hK33 _ _ ?_)
    refine wp_seq_k (fun K161 hK162 => ?_)
    refine c_region ?_
    refine m_loadN (i := 0) (vs := [.int .i64 (((nth t (t.length - 1)).K)), .int .i64 (((nth t (t.length - 1)).N)), .int .i64 (((nth t (t.length - 1)).M)), .string ((nth t (t.length - 1)).S)]) sv hR160 hS78 rfl rfl rfl rfl rfl Tryd.underlying32 rfl sz32 (by decide) (fun a163 hR164 => ?_)
    have hS165 : St w0 Z none_ w76 [.box g25 32 [.int .i64 (((nth t (t.length - 1)).K)), .int .i64 (((nth t (t.length - 1)).N)), .int .i64 (((nth t (t.length - 1)).M)), .string ((nth t (t.length - 1)).S)]] [dRow 4 tA t.length tc (encNs t)] := hS78
    refine k_call (xs := [.tmp 47]) se hR164 rfl rfl rfl (by decide) ok56 (rbinds_calls _ (imm Z w0 [.box g25 32 [.int .i64 (((nth t (t.length - 1)).K)), .int .i64 (((nth t (t.length - 1)).N)), .int .i64 (((nth t (t.length - 1)).M)), .string ((nth t (t.length - 1)).S)]] _) (fun _ h => h.1) (nth t (t.length - 1)) (hsm _ (by omega))) ?_
    rintro e175 w167 ⟨A171, c172, rfl, hf170, hd173⟩
    have hS176 := hS165.below hf170.below
    have hS177 := hS176.data (dRow 1 A171 ((bindL (nth t (t.length - 1))).length) c172 (encIs (bindL (nth t (t.length - 1))))) ⟨hd173.1, hd173.2.mono (fun _ hk => ⟨nxt_imm hS165 hk, rfl⟩)⟩
    refine ⟨_, rfl, fun a166 hR168 => ?_⟩
    refine mv hR168 (fun a178 hR179 => ?_)
    refine r_extract sv hR179 rfl rfl rfl rfl (by decide) (fun a180 hR181 => ?_)
    refine r_extract sv hR181 rfl rfl rfl rfl (by decide) (fun a182 hR183 => ?_)
    refine asg hR183 (fun a184 hR185 => ?_)
    refine asg hR185 (fun a186 hR187 => ?_)
    refine wpList_nil (x_then_n (hK162 _ _ ?_))
    refine wp_seq_k (fun K188 hK189 => ?_)
    refine c_region ?_
    refine mv hR187 (fun a190 hR191 => ?_)
    have hS192 : St w0 Z none_ w167 [.box g25 32 [.int .i64 (((nth t (t.length - 1)).K)), .int .i64 (((nth t (t.length - 1)).N)), .int .i64 (((nth t (t.length - 1)).M)), .string ((nth t (t.length - 1)).S)]] [dRow 4 tA t.length tc (encNs t), dRow 1 A171 ((bindL (nth t (t.length - 1))).length) c172 (encIs (bindL (nth t (t.length - 1))))] := hS177
    refine k_call (xs := [.tmp 51]) se hR191 rfl rfl rfl (by decide) ok32 (rparts_calls _ (imm Z w0 [.box g25 32 [.int .i64 (((nth t (t.length - 1)).K)), .int .i64 (((nth t (t.length - 1)).N)), .int .i64 (((nth t (t.length - 1)).M)), .string ((nth t (t.length - 1)).S)]] _) (fun _ h => h.1) tA tc t (hS192.get (i := 0) rfl) (by first | assumption | omega | (simp; done) | (simp; omega)) (by first | assumption | omega | (simp; done) | (simp; omega)) (by first | assumption | omega | (simp; done) | (simp; omega))) ?_
    rintro e205 w194 ⟨A198, c199, rL200, rfl, hf197, hd201, hd202, hL203⟩
    have hS206 := hS192.below hf197.below
    have hS207 := hS206.data (dRow 1 A198 rL200.length c199 (encSs rL200)) ⟨hd201.1, hd201.2.mono (fun _ hk => ⟨nxt_imm hS192 hk, rfl⟩)⟩
    have hS208 := hS207.data (dAll rL200) ((dAll _).mono _ _ _ _ (Nat.le_refl _) hd202 (fun _ hk => ⟨nxt_imm hS192 hk, rfl⟩))
    refine ⟨_, rfl, fun a193 hR195 => ?_⟩
    refine asg hR195 (fun a209 hR210 => ?_)
    refine wpList_nil (x_then_n (hK189 _ _ ?_))
    refine wp_seq_k (fun K211 hK212 => ?_)
    refine c_region ?_
    have hS213 := hS208.data (dAll []) all_nil
    refine m_buildSlice (ps := []) (cs := []) sv hR210 hS213 rfl rfl rfl Tryd.underlying39 zi22 rfl rfl (by kernel_rfl) rfl (by decide) (fun a214 w215 g216 hR217 hS218 => ?_)
    refine asg hR217 (fun a219 hR220 => ?_)
    refine wpList_nil (x_then_n (hK212 _ _ ?_))
    refine wp_seq_k (fun K221 hK222 => ?_)
    refine wp_seq_k (fun K223 hK224 => ?_)
    refine c_region ?_
    refine asg hR220 (fun a225 hR226 => ?_)
    refine wpList_nil (x_then_n (hK224 _ _ ?_))
    refine wp_block ?_
    refine wp_loop_ghost (fun gn ga gw => ∃ j : Nat, ∃ Ls : List Sl, ∃ Ao : Option Addr, ∃ co : Nat, (Reg ga 86 [(1, .int .i64 (b)), (2, .int .i64 (fr)), (3, .int .i64 (u)), (10, .pointer (some ⟨g25, 0, none⟩)), (1000000, .bool false), (12, .slice A171 ((bindL (nth t (t.length - 1))).length) c172), (14, .slice A198 rL200.length c199), (16, .int .i64 ((j : Nat) : Int)), (15, .slice Ao ((Ls).length) co)]) ∧ (St w0 Z none_ gw [.box g25 32 [.int .i64 (((nth t (t.length - 1)).K)), .int .i64 (((nth t (t.length - 1)).N)), .int .i64 (((nth t (t.length - 1)).M)), .string ((nth t (t.length - 1)).S)], .row Ao ((Ls).length) co 22 1 (encSs Ls)] [dRow 4 tA t.length tc (encNs t), dRow 1 A171 ((bindL (nth t (t.length - 1))).length) c172 (encIs (bindL (nth t (t.length - 1)))), dRow 1 A198 rL200.length c199 (encSs rL200), dAll rL200, dAll Ls]) ∧ (j ≤ rL200.length) ∧ (lsts Ls = trTP (shV b fr) t u j) ∧ (trEP (shV b fr) t u j = 0) ∧ (rL200.length - j) = gn) _ ⟨0, [], (some ⟨g216, 0, none⟩), 0, (hR226.sub (rc rfl (rc rfl (rc rfl (rc rfl (rc rfl (rc rfl (rc rfl (rc rfl (rc rfl rnl)))))))))), hS218, by omega, by rw [(tr_zero _ _ _).2]; rfl, (tr_zero _ _ _).1, rfl⟩ ?_
    rintro r227 a228 w229 ⟨j, Ls, Ao, co, hR230, hS231, hj, hL, hE, hn232⟩
    have hrl : rL200.length = (ptL t).length := by rw [← lsts_len, hL203]
    have hp8 := ptL_le hb
    have hbj : 0 ≤ nthI (bindL (nth t (t.length - 1))) j ∧ nthI (bindL (nth t (t.length - 1))) j ≤ 2 := by rw [hbl]; exact binds_nth j
    have hLn : Ls.length = j := by rw [← lsts_len, hL]; exact trTP_len hb (by omega)
    refine wp_seq_k (fun K233 hK234 => ?_)
    refine wp_seq_k (fun K235 hK236 => ?_)
    refine c_region ?_
    refine mv hR230 (fun a237 hR238 => ?_)
    refine mv hR238 (fun a239 hR240 => ?_)
    refine r_len sv hR240 rfl rfl rfl rfl Tryd.underlying39 (by decide) (fun a241 hR242 => ?_)
    refine r_lss sv hR242 rfl rfl rfl rfl (by decide) (fun a243 hR244 => ?_)
    refine wpList_nil (x_then_n (hK236 _ _ ?_))
    rcases Decidable.em (((j : Nat) : Int) < ((rL200.length : Nat) : Int)) with h245 | h245
    · skip
      obtain ⟨hpe, hpk, hpb, hpl, hps, hp0'⟩ := part_at hb hsm hL203 (show j < rL200.length by omega)
      have hR246 := hR244.setb (d := 57) (b := true) rfl (decide_eq_true h245)
      refine wp_cond_true (hR246.ev rfl) ?_
      refine wp_skip ?_
      refine x_then_n (hK234 _ _ ?_)
      refine wp_seq_k (fun K247 hK248 => ?_)
      refine wp_block ?_
      refine wp_seq_k (fun K249 hK250 => ?_)
      obtain ⟨J251, hJ252, hS253⟩ := hS231.agree
      refine d_region2 (S := (fun x => agr w229 J251 x ∧ True)) (n := 18) mixed rfl hS253 (pan_then (pan_block (pan_then (pan_then (pan_block (pan_then pan_body)))))) (fun Q256 hP257 hN258 w254 hS255 => ?_)
      have hSw259 : agr w229 J251 w254 ∧ True := ⟨⟨(hS255.get (i := 5) rfl).1, fun k hk => ((hS255.get (i := 5) rfl).2 k hk).2⟩, trivial⟩
      refine dt 0 rfl hP257 hR246 (want_n rfl) (fun x hx => r_move (sy hR246) hR246 rfl rfl rfl (by decide) gt) hSw259 (fun a260 hR261 => ?_)
      refine dt 1 rfl hP257 hR261 (want_n rfl) (fun x hx => r_move (sy hR261) hR261 rfl rfl rfl (by decide) gt) hSw259 (fun a262 hR263 => ?_)
      refine dt 2 rfl hP257 hR263 (want_n rfl) (fun x hx => m_index (i := j) (j := j * 1) (sy hR263) hR263 rfl rfl rfl rfl Tryd.underlying39 sz22 (by omega) (by omega) (ss_elem (t := rL200) (k := j) (sdat (hJ252 2 _ rfl) hx.1).2 (by omega)).some_ rfl (by decide) gt) hSw259 (fun a264 hR265 => ?_)
      refine dt 3 rfl hP257 hR265 (want_n rfl) (fun x hx => m_loadE (sy hR265) hR265 rfl rfl rfl 0 (j * 1) (ss_elem (t := rL200) (k := j) (sdat (hJ252 2 _ rfl) hx.1).2 (by omega)) rfl rfl Tryd.underlying22 rfl (by decide) gt) hSw259 (fun a266 hR267 => ?_)
      have hS268 := hS255.data (dRow 4 ((nthS rL200 j).1) ((nthS rL200 j).2.2.length) ((nthS rL200 j).2.1) (encNs ((nthS rL200 j).2.2))) (all_at (t := rL200) (k := j) (hS255.get (i := 3) rfl) (by omega))
      refine dt 4 rfl hP257 hR267 (want_n rfl) (fun x hx => r_move (sy hR267) hR267 rfl rfl rfl (by decide) gt) hSw259 (fun a269 hR270 => ?_)
      refine dt 5 rfl hP257 hR270 (want_n rfl) (fun x hx => r_move (sy hR270) hR270 rfl rfl rfl (by decide) gt) hSw259 (fun a271 hR272 => ?_)
      refine dt 6 rfl hP257 hR272 (want_n rfl) (fun x hx => r_move (sy hR272) hR272 rfl rfl rfl (by decide) gt) hSw259 (fun a273 hR274 => ?_)
      refine dt 7 rfl hP257 hR274 (want_n rfl) (fun x hx => r_move (sy hR274) hR274 rfl rfl rfl (by decide) gt) hSw259 (fun a275 hR276 => ?_)
      refine dt 8 rfl hP257 hR276 (want_n rfl) (fun x hx => r_move (sy hR276) hR276 rfl rfl rfl (by decide) gt) hSw259 (fun a277 hR278 => ?_)
      refine dt 9 rfl hP257 hR278 (want_n rfl) (fun x hx => m_index (i := j) (j := j * 1) (sy hR278) hR278 rfl rfl rfl rfl Tryd.underlying66 sz3 (by omega) (by omega) (ints_elem (t := bindL (nth t (t.length - 1))) (k := j) (sdat (hJ252 1 _ rfl) hx.1).2 (by omega)).some_ rfl (by decide) gt) hSw259 (fun a279 hR280 => ?_)
      refine dt 10 rfl hP257 hR280 (want_n rfl) (fun x hx => m_loadE (sy hR280) hR280 rfl rfl rfl 0 (j * 1) (ints_elem (t := bindL (nth t (t.length - 1))) (k := j) (sdat (hJ252 1 _ rfl) hx.1).2 (by omega)) rfl rfl Tryd.underlying3 rfl (by decide) gt) hSw259 (fun a281 hR282 => ?_)
      refine dt 11 rfl hP257 hR282 (want_n rfl) (fun x hx => r_add (z := (u + (nthI (bindL (nth t (t.length - 1))) j))) (sy hR282) hR282 rfl rfl rfl rfl (by decide) (by omega) (by omega) (by omega) gt) hSw259 (fun a283 hR284 => ?_)
      refine d_one (i := 12) (by kernel_rfl) ?_
      have hS285 : St w0 Z none_ w254 [.box g25 32 [.int .i64 (((nth t (t.length - 1)).K)), .int .i64 (((nth t (t.length - 1)).N)), .int .i64 (((nth t (t.length - 1)).M)), .string ((nth t (t.length - 1)).S)], .row Ao ((Ls).length) co 22 1 (encSs Ls)] [dRow 4 tA t.length tc (encNs t), dRow 1 A171 ((bindL (nth t (t.length - 1))).length) c172 (encIs (bindL (nth t (t.length - 1)))), dRow 1 A198 rL200.length c199 (encSs rL200), dAll rL200, dAll Ls, dAg w229 J251, dRow 4 ((nthS rL200 j).1) ((nthS rL200 j).2.2.length) ((nthS rL200 j).2.1) (encNs ((nthS rL200 j).2.2))] := hS268
      refine k_call (xs := [.tmp 64, .tmp 65, .tmp 66, .tmp 72]) (st_op rfl (want_n rfl)) hR284 rfl rfl rfl (by decide) ok49 (ih (((nthS rL200 j).2.2).length) (by omega) _ (imm Z w0 [.box g25 32 [.int .i64 (((nth t (t.length - 1)).K)), .int .i64 (((nth t (t.length - 1)).N)), .int .i64 (((nth t (t.length - 1)).M)), .string ((nth t (t.length - 1)).S)], .row Ao ((Ls).length) co 22 1 (encSs Ls)] _) (fun _ h => h.1) ((nthS rL200 j).1) ((nthS rL200 j).2.1) ((nthS rL200 j).2.2) (b) (fr) (u + (nthI (bindL (nth t (t.length - 1))) j)) (hS285.get (i := 6) rfl) (by first | assumption | omega | (simp; done) | (simp; omega)) (by first | assumption | omega | (simp; done) | (simp; omega)) (by first | assumption | omega | (simp; done) | (simp; omega)) (by first | assumption | omega | (simp; done) | (simp; omega)) (by first | assumption | omega | (simp; done) | (simp; omega)) (by first | assumption | omega | (simp; done) | (simp; omega)) (by first | assumption | omega | (simp; done) | (simp; omega)) rfl) ?_
      rintro e295 w287 ⟨A291, c292, rfl, hf290, hd293⟩
      have hS296 := hS285.below hf290.below
      have hS297 := hS296.data (dRow 4 A291 ((trL (shV (b) (fr)) ((nthS rL200 j).2.2) (u + (nthI (bindL (nth t (t.length - 1))) j))).length) c292 (encNs (trL (shV (b) (fr)) ((nthS rL200 j).2.2) (u + (nthI (bindL (nth t (t.length - 1))) j))))) ⟨hd293.1, hd293.2.mono (fun _ hk => ⟨nxt_imm hS285 hk, rfl⟩)⟩
      refine ⟨_, rfl, fun a286 hR288 => ?_⟩
      have hSw298 : agr w229 J251 w287 ∧ True := ⟨⟨(hS297.get (i := 5) rfl).1, fun k hk => ((hS297.get (i := 5) rfl).2 k hk).2⟩, trivial⟩
      refine ⟨hSw298, ?_⟩
      refine dt 13 rfl hP257 hR288 (want_n rfl) (fun x hx => r_move (sy hR288) hR288 rfl rfl rfl (by decide) gt) hSw298 (fun a299 hR300 => ?_)
      refine dt 14 rfl hP257 hR300 (want_n rfl) (fun x hx => r_extract (sy hR300) hR300 rfl rfl rfl rfl (by decide) gt) hSw298 (fun a301 hR302 => ?_)
      refine dt 15 rfl hP257 hR302 (want_n rfl) (fun x hx => r_extract (sy hR302) hR302 rfl rfl rfl rfl (by decide) gt) hSw298 (fun a303 hR304 => ?_)
      refine dt 16 rfl hP257 hR304 (want_n rfl) (fun x hx => r_assign (sy hR304) hR304 rfl rfl rfl (by decide) gt) hSw298 (fun a305 hR306 => ?_)
      refine dt 17 rfl hP257 hR306 (want_n rfl) (fun x hx => r_assign (sy hR306) hR306 rfl rfl rfl (by decide) gt) hSw298 (fun a307 hR308 => ?_)
      refine wpAnyH_done (by kernel_rfl) (hN258 _ _ ?_) _
      refine x_then_n (hK250 _ _ ?_)
      refine wp_seq_k (fun K309 hK310 => ?_)
      refine wp_seq_k (fun K311 hK312 => ?_)
      refine c_region ?_
      refine mv hR308 (fun a313 hR314 => ?_)
      refine r_neq sv hR314 rfl rfl rfl rfl (by decide) (fun a315 hR316 => ?_)
      refine wpList_nil (x_then_n (hK312 _ _ ?_))
      rcases Decidable.em (((trEL (shV (b) (fr)) ((nthS rL200 j).2.2) (u + (nthI (bindL (nth t (t.length - 1))) j)))) = 0) with h317 | h317
      · skip
        obtain ⟨hs1, hs2⟩ := tr_step (V := shV b fr) (u := u) hb hpk hE (by rw [← hpe, ← hbl]; exact h317)
        have hR318 := hR316.setb (d := 77) (b := false) rfl (by rw [(decide_eq_true h317)]; rfl)
        refine wp_cond_false (hR318.ev rfl) ?_
        refine wp_skip ?_
        refine x_then_n (hK310 _ _ ?_)
        refine c_region ?_
        refine mv hR318 (fun a319 hR320 => ?_)
        refine mv hR320 (fun a321 hR322 => ?_)
        have hS323 := hS297.data (dAll [((A291, c292, trL (shV (b) (fr)) ((nthS rL200 j).2.2) (u + (nthI (bindL (nth t (t.length - 1))) j))) : Sl)]) (all_cons (hS297.get (i := 7) rfl) all_nil)
        refine m_buildSlice (ps := [(0, .tmp 80)]) (cs := [.slice A291 ((trL (shV (b) (fr)) ((nthS rL200 j).2.2) (u + (nthI (bindL (nth t (t.length - 1))) j))).length) c292]) sv hR322 hS323 rfl rfl rfl Tryd.underlying39 zi22 rfl rfl (by kernel_rfl) rfl (by decide) (fun a324 w325 g326 hR327 hS328 => ?_)
        refine m_appendF (f := encS) (i := 1) (Ls) ([((A291, c292, trL (shV (b) (fr)) ((nthS rL200 j).2.2) (u + (nthI (bindL (nth t (t.length - 1))) j))) : Sl)]) sv hR327 hS328 rfl rfl rfl rfl rfl encS_len (encS_one _) Tryd.underlying39 zi22 rfl rfl (own_lnews (f := encS) (hS328.res (i := 2) rfl)) rfl (by first | omega | (simp only [List.length_cons, List.length_nil]; omega)) (by decide) (fun a329 w330 A331 c332 hc333 hR334 hS335 => ?_)
        have hl337 : (Ls ++ ([((A291, c292, trL (shV (b) (fr)) ((nthS rL200 j).2.2) (u + (nthI (bindL (nth t (t.length - 1))) j))) : Sl)]) : List Sl).length = (Ls).length + 1 := by first | (simp only [List.length_append, List.length_take, List.length_cons, List.length_nil]; done) | (simp only [List.length_append, List.length_take, List.length_cons, List.length_nil]; omega)
        have hS338 := hS335.erase 2
        have hS339 := hS338.data (dAll (Ls ++ ([((A291, c292, trL (shV (b) (fr)) ((nthS rL200 j).2.2) (u + (nthI (bindL (nth t (t.length - 1))) j))) : Sl)]))) (all_append (hS338.get (i := 4) rfl) (hS338.get (i := 8) rfl))
        refine asg hR334 (fun a340 hR341 => ?_)
        refine wpList_nil ?_
        refine x_block_n ?_
        refine x_then_n (hK248 _ _ ?_)
        refine c_region ?_
        refine mv hR341 (fun a342 hR343 => ?_)
        refine r_add (z := ((j + 1 : Nat) : Int)) sv hR343 rfl rfl rfl rfl (by decide) (by omega) (by omega) (by omega) (fun a344 hR345 => ?_)
        refine asg hR345 (fun a346 hR347 => ?_)
        refine wpList_nil ?_
        have hS348 := hS339.forget 8
        have hS349 := hS348.forget 7
        have hS350 := hS349.forget 6
        have hS351 := hS350.forget 5
        have hS352 := hS351.forget 4
        exact ⟨_, by omega, j + 1, Ls ++ ([((A291, c292, trL (shV (b) (fr)) ((nthS rL200 j).2.2) (u + (nthI (bindL (nth t (t.length - 1))) j))) : Sl)]), A331, c332, (hR347.sub (rc rfl (rc rfl (rc rfl (rc rfl (rc rfl (rc rfl (rc rfl (rc rfl (rc rfl rnl)))))))))), hS352, by omega, (by rw [lsts_app, lsts_one, hL, hs2, hpe, hbl]), hs1, rfl⟩
      · skip
        obtain ⟨hs1, hs2⟩ := tr_bad (V := shV b fr) (u := u) hb hpk hE (by rw [← hpe, ← hbl]; exact h317)
        have hR353 := hR316.setb (d := 77) (b := true) rfl (by rw [(decide_eq_false h317)]; rfl)
        refine wp_cond_true (hR353.ev rfl) ?_
        refine wp_seq_k (fun K354 hK355 => ?_)
        refine c_region ?_
        refine mv hR353 (fun a356 hR357 => ?_)
        refine asg hR357 (fun a358 hR359 => ?_)
        refine asg hR359 (fun a360 hR361 => ?_)
        refine wpList_nil (x_then_n (hK355 _ _ ?_))
        refine wp_ret ?_
        refine x_then_r ?_
        refine x_block_r ?_
        refine x_then_r ?_
        refine x_then_r ?_
        refine x_block_r ?_
        refine x_then_r ?_
        refine e_ret2 hR361 rfl rfl rfl rfl ?_
        have he362 : trL (shV b fr) t u = [] := by first | exact (sh_low hb (by omega) (by omega) (by omega)).2 | exact (sh_high hb (by omega) (by omega) (by omega) (by omega)).2 | exact hs2
        rw [he362]
        refine ⟨none, 0, ?_, hS297.fr, ⟨Nat.le_refl _, RowI.nil _ _ _ _⟩⟩
        exact ret_t2 rfl (ret_i (by first | omega | (rw [(sh_low hb (by omega) (by omega) (by omega)).1]) | (rw [(sh_high hb (by omega) (by omega) (by omega) (by omega)).1]) | (rw [(sh_good hb (by omega) (by omega) (by omega) (by omega)).1]) | (rw [hs1, hpe, hbl]; done) | (rw [hd1]; done)))
    · skip
      have hj2 : j = (ptL t).length := by omega
      rw [hj2] at hE hL
      have hvv : (nth t (t.length - 1)).K = 0 → (shV b fr) (nth t (t.length - 1)) u = (0, .mk (nth t (t.length - 1)) []) := by intro hk; unfold shV; rw [if_neg (by omega)]
      obtain ⟨hd1, hd2⟩ := tr_end hb hvv hE
      have hdn := tr_nm (V := shV b fr) (b := 1) (by omega) (fun n u _ => shV_len _ _ n u) hb hvv hE
      have hR363 := hR244.setb (d := 57) (b := false) rfl (decide_eq_false h245)
      refine wp_cond_false (hR363.ev rfl) ?_
      refine wp_exit ?_
      refine x_then_e ?_
      refine x_then_e ?_
      refine x_block_eq ?_
      refine x_then_n (hK222 _ _ ?_)
      refine wp_seq_k (fun K364 hK365 => ?_)
      refine c_region ?_
      refine m_loadN (i := 0) (vs := [.int .i64 (((nth t (t.length - 1)).K)), .int .i64 (((nth t (t.length - 1)).N)), .int .i64 (((nth t (t.length - 1)).M)), .string ((nth t (t.length - 1)).S)]) sv hR363 hS231 rfl rfl rfl rfl rfl Tryd.underlying32 rfl sz32 (by decide) (fun a366 hR367 => ?_)
      refine mv hR367 (fun a368 hR369 => ?_)
      have hS370 : St w0 Z none_ w229 [.box g25 32 [.int .i64 (((nth t (t.length - 1)).K)), .int .i64 (((nth t (t.length - 1)).N)), .int .i64 (((nth t (t.length - 1)).M)), .string ((nth t (t.length - 1)).S)], .row Ao ((Ls).length) co 22 1 (encSs Ls)] [dRow 4 tA t.length tc (encNs t), dRow 1 A171 ((bindL (nth t (t.length - 1))).length) c172 (encIs (bindL (nth t (t.length - 1)))), dRow 1 A198 rL200.length c199 (encSs rL200), dAll rL200, dAll Ls] := hS231
      have hc374 := own_cap (hS370.res (i := 1) rfl)
      obtain ⟨hS371, hrow372⟩ := hS370.row_data (i := 1) rfl (fun _ h => h)
      have hS373 := hS371.data (dRow 1 Ao ((Ls).length) co (encSs Ls)) ⟨hc374, hrow372⟩
      refine k_call (xs := [.tmp 83, .tmp 84]) se hR369 rfl rfl rfl (by decide) ok25 (rof_calls _ (imm Z w0 [.box g25 32 [.int .i64 (((nth t (t.length - 1)).K)), .int .i64 (((nth t (t.length - 1)).N)), .int .i64 (((nth t (t.length - 1)).M)), .string ((nth t (t.length - 1)).S)]] _) (fun _ h => h.1) (nth t (t.length - 1)) Ao co Ls (hS373.get (i := 5) rfl) (hS373.get (i := 4) rfl) (by omega) (by rw [hL]; omega)) ?_
      rintro e384 w376 ⟨A380, c381, rfl, hf379, hd382⟩
      have hS385 := hS373.below hf379.below
      have hS386 := hS385.data (dRow 4 A380 (((lsts Ls).flatten ++ [(nth t (t.length - 1))]).length) c381 (encNs ((lsts Ls).flatten ++ [(nth t (t.length - 1))]))) ⟨hd382.1, hd382.2.mono (fun _ hk => ⟨nxt_imm hS373 hk, rfl⟩)⟩
      refine ⟨_, rfl, fun a375 hR377 => ?_⟩
      refine asg hR377 (fun a387 hR388 => ?_)
      refine asg hR388 (fun a389 hR390 => ?_)
      refine wpList_nil (x_then_n (hK365 _ _ ?_))
      refine wp_ret ?_
      refine e_ret2 hR390 rfl rfl rfl rfl ?_
      have he391 : trL (shV b fr) t u = (lsts Ls).flatten ++ [(nth t (t.length - 1))] := by rw [hd2, hL]
      rw [he391]
      refine ⟨A380, c381, ?_, hS386.fr, ⟨by have := (hS386.row (i := 6) rfl).1; exact this, ((hS386.row (i := 6) rfl).2.mono (fun _ hk => ⟨imm_nxt hk, rfl⟩))⟩⟩
      exact ret_t2 rfl (ret_i (by first | omega | (rw [(sh_low hb (by omega) (by omega) (by omega)).1]) | (rw [(sh_high hb (by omega) (by omega) (by omega) (by omega)).1]) | (rw [(sh_good hb (by omega) (by omega) (by omega) (by omega)).1]) | (rw [hs1, hpe, hbl]; done) | (rw [hd1]; done)))
theorem rshift_calls (w0 : World) (Z : Nat → Prop) (hZ : ∀ k, Z k → k < w0.heap.size) (tA : Option Addr) (tc : Nat) (t : List Nd) (b : Int) (fr : Int) (u : Int) (ht : (dRow 4 tA t.length tc (encNs t)).φ w0 Z) (hl : t.length ≤ 1000000) (hsm : sml t) (hb : measB t = true) (hu0 : 0 ≤ u) (hub : u + 2 * t.length ≤ 10000000) (hb1 : -1000000 ≤ b) (hb2 : b ≤ 1000000) :
    Calls Tryd.prog 49 [.slice tA t.length tc, .int .i64 b, .int .i64 fr, .int .i64 u].toArray w0 (fun e w' => ∃ (rA0 : Option Addr) (rc0 : Nat), e = .returned (.tuple #[.slice rA0 (trL (shV b fr) t u).length rc0, .int .i64 (trEL (shV b fr) t u)]) ∧ Fr none_ w0 w' ∧ (dRow 4 rA0 ((trL (shV b fr) t u).length) rc0 (encNs (trL (shV b fr) t u))).φ w' (nxt Z w0 w')) := rshift_calls_rec _ w0 Z hZ tA tc t b fr u ht hl hsm hb hu0 hub hb1 hb2 rfl

set_option maxRecDepth 100000 in
set_option maxHeartbeats 1000000 in
theorem rShift_calls (w0 : World) (Z : Nat → Prop) (hZ : ∀ k, Z k → k < w0.heap.size) (tA : Option Addr) (tc : Nat) (t : List Nd) (b : Int) (fr : Int) (ht : (dRow 4 tA t.length tc (encNs t)).φ w0 Z) (hl : t.length ≤ 1000000) (hsm : sml t) :
    Calls Tryd.prog 24 [.slice tA t.length tc, .int .i64 b, .int .i64 fr].toArray w0 (fun e w' => ∃ (rA0 : Option Addr) (rc0 : Nat), e = .returned (.tuple #[.slice rA0 (sfA t b fr).length rc0, .int .i64 (sfE t b fr)]) ∧ Fr none_ w0 w' ∧ (dRow 4 rA0 ((sfA t b fr).length) rc0 (encNs (sfA t b fr))).φ w' (nxt Z w0 w')) := by
  have hstart : ∀ k, Z k → imm Z w0 [] w0 k ∧ w0.heap[k]? = w0.heap[k]? := fun k hk => ⟨⟨hZ k hk, fun _ => hk, fun _ h => by cases h⟩, rfl⟩
  have hS3 : St w0 Z none_ w0 [] [dRow 4 tA t.length tc (encNs t)] := St.start w0 Z none_ _ (by
    intro d hd
    simp only [List.mem_cons, List.not_mem_nil, or_false] at hd
    rcases hd with rfl
    · exact Dat.mono _ _ _ _ _ (Nat.le_refl _) ht hstart
    )
  refine c_enter Tryd.func24 rfl Tryd.ntmps24 rfl (fun a1 hR2 => ?_)
  refine wp_seq_k (fun K4 hK5 => ?_)
  refine c_region ?_
  refine asg hR2 (fun a6 hR7 => ?_)
  refine asg hR7 (fun a8 hR9 => ?_)
  refine wpList_nil (x_then_n (hK5 _ _ ?_))
  refine wp_seq_k (fun K10 hK11 => ?_)
  refine c_region ?_
  refine mv hR9 (fun a12 hR13 => ?_)
  have hS14 : St w0 Z none_ w0 [] [dRow 4 tA t.length tc (encNs t)] := hS3
  refine k_call (xs := [.tmp 9]) se hR13 rfl rfl rfl (by decide) ok19 (rcheck_calls _ (imm Z w0 [] _) (fun _ h => h.1) tA tc t (hS14.get (i := 0) rfl) (by first | assumption | omega | (simp; done) | (simp; omega)) (by first | assumption | omega | (simp; done) | (simp; omega))) ?_
  rintro e21 w16 ⟨rfl, hf19⟩
  have hS22 := hS14.below hf19.below
  refine ⟨_, rfl, fun a15 hR17 => ?_⟩
  refine asg hR17 (fun a23 hR24 => ?_)
  refine wpList_nil (x_then_n (hK11 _ _ ?_))
  refine wp_seq_k (fun K25 hK26 => ?_)
  refine wp_seq_k (fun K27 hK28 => ?_)
  refine c_region ?_
  refine mv hR24 (fun a29 hR30 => ?_)
  refine r_neq sv hR30 rfl rfl rfl rfl (by decide) (fun a31 hR32 => ?_)
  refine wpList_nil (x_then_n (hK28 _ _ ?_))
  rcases Decidable.em (((chk t)) = 0) with h33 | h33
  · skip
    have hR34 := hR32.setb (d := 12) (b := false) rfl (by rw [(decide_eq_true h33)]; rfl)
    refine wp_cond_false (hR34.ev rfl) ?_
    refine wp_skip ?_
    refine x_then_n (hK26 _ _ ?_)
    refine wp_seq_k (fun K35 hK36 => ?_)
    refine c_region ?_
    refine mv hR34 (fun a37 hR38 => ?_)
    refine mv hR38 (fun a39 hR40 => ?_)
    have hS41 : St w0 Z none_ w16 [] [dRow 4 tA t.length tc (encNs t)] := hS22
    refine k_call (xs := [.tmp 15]) se hR40 rfl rfl rfl (by decide) ok50 (rclamp_calls _ (imm Z w0 [] _) (fun _ h => h.1) (b)) ?_
    rintro e48 w43 ⟨rfl, hf46⟩
    have hS49 := hS41.below hf46.below
    refine ⟨_, rfl, fun a42 hR44 => ?_⟩
    refine mv hR44 (fun a50 hR51 => ?_)
    have hS52 : St w0 Z none_ w43 [] [dRow 4 tA t.length tc (encNs t)] := hS49
    refine k_call (xs := [.tmp 17]) se hR51 rfl rfl rfl (by decide) ok50 (rclamp_calls _ (imm Z w0 [] _) (fun _ h => h.1) (fr)) ?_
    rintro e59 w54 ⟨rfl, hf57⟩
    have hS60 := hS52.below hf57.below
    refine ⟨_, rfl, fun a53 hR55 => ?_⟩
    refine r_max sv hR55 rfl rfl rfl rfl rfl (by decide) (fun a61 hR62 => ?_)
    have hS63 : St w0 Z none_ w54 [] [dRow 4 tA t.length tc (encNs t)] := hS60
    refine k_call (xs := [.tmp 14, .tmp 16, .tmp 19, .const (.int .i64 0)]) se hR62 rfl rfl rfl (by decide) ok49 (rshift_calls _ (imm Z w0 [] _) (fun _ h => h.1) tA tc t ((clamp (b))) ((max 0 ((clamp (fr))))) 0 (hS63.get (i := 0) rfl) hl hsm (meas_chk (by omega)) (by omega) (by omega) (by unfold clamp; omega) (by unfold clamp; omega)) ?_
    rintro e73 w65 ⟨A69, c70, rfl, hf68, hd71⟩
    have hS74 := hS63.below hf68.below
    have hS75 := hS74.data (dRow 4 A69 ((trL (shV ((clamp (b))) ((max 0 ((clamp (fr)))))) t 0).length) c70 (encNs (trL (shV ((clamp (b))) ((max 0 ((clamp (fr)))))) t 0))) ⟨hd71.1, hd71.2.mono (fun _ hk => ⟨nxt_imm hS63 hk, rfl⟩)⟩
    refine ⟨_, rfl, fun a64 hR66 => ?_⟩
    refine r_extract sv hR66 rfl rfl rfl rfl (by decide) (fun a76 hR77 => ?_)
    refine r_extract sv hR77 rfl rfl rfl rfl (by decide) (fun a78 hR79 => ?_)
    refine asg hR79 (fun a80 hR81 => ?_)
    refine asg hR81 (fun a82 hR83 => ?_)
    refine wpList_nil (x_then_n (hK36 _ _ ?_))
    refine wp_ret ?_
    refine e_ret2 hR83 rfl rfl rfl rfl ?_
    have he84 : sfA t b fr = trL (shV ((clamp (b))) ((max 0 ((clamp (fr)))))) t 0 := (sfE_ok (by omega)).2
    rw [he84]
    refine ⟨A69, c70, ?_, hS75.fr, ⟨by have := (hS75.row (i := 1) rfl).1; exact this, ((hS75.row (i := 1) rfl).2.mono (fun _ hk => ⟨imm_nxt hk, rfl⟩))⟩⟩
    exact ret_t2 rfl (ret_i (by first | (rw [(sfE_no (by omega)).1]; done) | (rw [(sfE_ok (by omega)).1]; done)))
  · skip
    have hR85 := hR32.setb (d := 12) (b := true) rfl (by rw [(decide_eq_false h33)]; rfl)
    refine wp_cond_true (hR85.ev rfl) ?_
    refine wp_seq_k (fun K86 hK87 => ?_)
    refine c_region ?_
    refine mv hR85 (fun a88 hR89 => ?_)
    refine asg hR89 (fun a90 hR91 => ?_)
    refine asg hR91 (fun a92 hR93 => ?_)
    refine wpList_nil (x_then_n (hK87 _ _ ?_))
    refine wp_ret ?_
    refine x_then_r ?_
    refine e_ret2 hR93 rfl rfl rfl rfl ?_
    have he94 : sfA t b fr = [] := (sfE_no (by omega)).2
    rw [he94]
    refine ⟨none, 0, ?_, hS22.fr, ⟨Nat.le_refl _, RowI.nil _ _ _ _⟩⟩
    exact ret_t2 rfl (ret_i (by first | (rw [(sfE_no (by omega)).1]; done) | (rw [(sfE_ok (by omega)).1]; done)))
end Go.Proofs.YtobgdeffhdefeaaDoor
