import Derived.Test.YtobgdeffhdefeaaDoorZve
/- Contracts of functions, one theorem each: what the call returns, and that nothing old is changed. Printed by gen.py. -/
namespace Go.Proofs.YtobgdeffhdefeaaDoor
open Go Go.RowKit
set_option linter.unusedSimpArgs false
set_option linter.unusedVariables false

set_option maxRecDepth 100000 in
set_option maxHeartbeats 1000000 in
theorem rlevel_calls (w0 : World) (Z : Nat → Prop) (hZ : ∀ k, Z k → k < w0.heap.size) (n : Int)  :
    Calls Tryd.prog 116 [.int .i64 n].toArray w0 (fun e w' => e = .returned (.bool (decide (0 ≤ n) && decide (n ≤ 9))) ∧ Fr none_ w0 w') := by
  have hstart : ∀ k, Z k → imm Z w0 [] w0 k ∧ w0.heap[k]? = w0.heap[k]? := fun k hk => ⟨⟨hZ k hk, fun _ => hk, fun _ h => by cases h⟩, rfl⟩
  have hS3 : St w0 Z none_ w0 [] [] := St.start w0 Z none_ _ (by
    intro d hd
    cases hd
    )
  refine c_enter Tryd.func116 rfl Tryd.ntmps116 rfl (fun a1 hR2 => ?_)
  refine wp_seq_k (fun K4 hK5 => ?_)
  refine c_region ?_
  refine r_assign (st_listV rfl) hR2 rfl rfl rfl (by decide) (fun a6 hR7 => ?_)
  refine wpList_nil ?_
  refine x_then_n (hK5 _ _ ?_)
  refine wp_seq_k (fun K8 hK9 => ?_)
  refine c_region ?_
  refine r_move (st_listV rfl) hR7 rfl rfl rfl (by decide) (fun a10 hR11 => ?_)
  refine r_geq (st_listV rfl) hR11 rfl rfl rfl rfl (by decide) (fun a12 hR13 => ?_)
  refine r_move (st_listV rfl) hR13 rfl rfl rfl (by decide) (fun a14 hR15 => ?_)
  refine l_join (fun ga gw => Reg ga 9 [(2, .bool false), (8, .bool ((decide (0 ≤ (n))) && (decide ((n) ≤ 9)))), (1000000, .bool false)] ∧ St w0 Z none_ gw [] []) 3 ?_ ?_
  · skip
    rcases Decidable.em (0 ≤ (n)) with h16 | h16
    · skip
      have hR17 := hR15.setb (d := 5) (b := true) rfl (decide_eq_true h16)
      refine r_move (st_listV_w (want_t hR17 rfl rfl rfl (by decide) rfl)) hR17 rfl rfl rfl (by decide) (fun a18 hR19 => ?_)
      refine r_leq (st_listV_w (want_t hR19 rfl rfl rfl (by decide) rfl)) hR19 rfl rfl rfl rfl (by decide) (fun a20 hR21 => ?_)
      refine r_pick_t (st_listV rfl) hR21 rfl rfl rfl rfl (by decide) (fun a22 hR23 => ?_)
      refine wpList_nil ?_
      exact x_then_n ⟨(Reg.cons hR23 (Reg.consb hR23 (Reg.cons hR23 (hR23.nil) rfl) rfl (by first | rfl | (simp only [decide_eq_true h16, if_pos h16, Bool.true_and, Bool.and_true, Bool.false_and, Bool.and_false, Bool.true_or, Bool.or_true, Bool.false_or, Bool.or_false, Bool.not_true, Bool.not_false, if_true, ite_true, ite_false, Bool.false_eq_true]; done) | (simp [h16]; done) | (simp [h16]; omega))) rfl), hS3⟩
    · skip
      have hR24 := hR15.setb (d := 5) (b := false) rfl (decide_eq_false h16)
      refine s_pass hR24 rfl (by decide) (want_f hR24 rfl rfl rfl (by decide) rfl rfl) (fun a25 hR26 => ?_)
      refine s_pass hR26 rfl (by decide) (want_f hR26 rfl rfl rfl (by decide) rfl rfl) (fun a27 hR28 => ?_)
      refine r_pick_f (st_listV rfl) hR28 rfl rfl rfl rfl (by decide) (fun a29 hR30 => ?_)
      refine wpList_nil ?_
      exact x_then_n ⟨(Reg.cons hR30 (Reg.consb hR30 (Reg.cons hR30 (hR30.nil) rfl) rfl (by first | rfl | (simp only [decide_eq_false h16, if_neg h16, Bool.true_and, Bool.and_true, Bool.false_and, Bool.and_false, Bool.true_or, Bool.or_true, Bool.false_or, Bool.or_false, Bool.not_true, Bool.not_false, if_true, ite_true, ite_false, Bool.false_eq_true]; done) | (simp [h16]; done) | (simp [h16]; omega))) rfl), hS3⟩
  rintro a31 w32 ⟨hR33, hS34⟩
  refine r_assign (st_listV rfl) hR33 rfl rfl rfl (by decide) (fun a35 hR36 => ?_)
  refine wpList_nil ?_
  refine x_then_n (hK9 _ _ ?_)
  refine wp_ret ?_
  refine e_ret1 hR36 rfl rfl rfl ?_
  refine ⟨?_, hS34.fr⟩
  exact congrArg Ending.returned (ret_b (by first | rfl | omega | ( omega) | (simp []; done) | (simp [] at *; done) | (simp [] <;> omega) | (rw [Bool.eq_iff_iff]; simp [] <;> omega) | (rw [Bool.eq_iff_iff]; simp [] at * <;> omega)))

set_option maxRecDepth 100000 in
set_option maxHeartbeats 1000000 in
theorem rlvCheck_calls (w0 : World) (Z : Nat → Prop) (hZ : ∀ k, Z k → k < w0.heap.size) (n : Int)  :
    Calls Tryd.prog 78 [.int .i64 n].toArray w0 (fun e w' => e = .returned (.int .i64 (lvChk n)) ∧ Fr none_ w0 w') := by
  have hstart : ∀ k, Z k → imm Z w0 [] w0 k ∧ w0.heap[k]? = w0.heap[k]? := fun k hk => ⟨⟨hZ k hk, fun _ => hk, fun _ h => by cases h⟩, rfl⟩
  have hS3 : St w0 Z none_ w0 [] [] := St.start w0 Z none_ _ (by
    intro d hd
    cases hd
    )
  refine c_enter Tryd.func78 rfl Tryd.ntmps78 rfl (fun a1 hR2 => ?_)
  refine wp_seq_k (fun K4 hK5 => ?_)
  refine c_region ?_
  refine r_assign (st_listV rfl) hR2 rfl rfl rfl (by decide) (fun a6 hR7 => ?_)
  refine wpList_nil ?_
  refine x_then_n (hK5 _ _ ?_)
  refine wp_seq_k (fun K8 hK9 => ?_)
  refine wp_seq_k (fun K10 hK11 => ?_)
  refine c_region ?_
  refine r_move (st_listV rfl) hR7 rfl rfl rfl (by decide) (fun a12 hR13 => ?_)
  have hS14 : St w0 Z none_ w0 [] [] := hS3
  refine k_call (xs := [.tmp 3]) (st_list rfl) hR13 rfl rfl rfl (by decide) ok116 (rlevel_calls _ (imm Z w0 [] _) (fun _ h => h.1) (n)) ?_
  rintro e21 w16 ⟨rfl, hf19⟩
  have hS22 := hS14.below hf19.below
  refine ⟨_, rfl, fun a15 hR17 => ?_⟩
  refine r_not (st_listV rfl) hR17 rfl rfl rfl (by decide) (fun a23 hR24 => ?_)
  refine wpList_nil ?_
  refine x_then_n (hK11 _ _ ?_)
  rcases Bool.eq_false_or_eq_true (decide (0 ≤ (n)) && decide ((n) ≤ 9)) with h25 | h25
  · skip
    have h26 := and_tl h25
    have h27 := of_decide_eq_true h26
    have h28 := and_tr h25
    have h29 := of_decide_eq_true h28
    have hR30 := hR24.setb (d := 5) (b := false) rfl (by rw [h25]; rfl)
    refine wp_cond_false (hR30.ev rfl) ?_
    refine wp_skip ?_
    refine x_then_n (hK9 _ _ ?_)
    refine wp_seq_k (fun K31 hK32 => ?_)
    refine c_region ?_
    refine r_assign (st_listV rfl) hR30 rfl rfl rfl (by decide) (fun a33 hR34 => ?_)
    refine wpList_nil ?_
    refine x_then_n (hK32 _ _ ?_)
    refine wp_ret ?_
    refine e_ret1 hR34 rfl rfl rfl ?_
    refine ⟨?_, hS22.fr⟩
    exact congrArg Ending.returned (ret_i (by have q0 := h25; (try simp at q0); have q1 := h27; (try simp at q1); have q2 := h29; (try simp at q2);  unfold lvChk; (try split) <;> first | rfl | omega))
  · skip
    have hq35 := h25
    try simp only [Bool.or_eq_true, Bool.and_eq_true, Bool.not_eq_true', Bool.not_eq_false', decide_eq_true_eq, decide_eq_false_iff_not, Bool.or_eq_false_iff, Bool.and_eq_false_iff] at hq35
    have hR36 := hR24.setb (d := 5) (b := true) rfl (by rw [h25]; rfl)
    refine wp_cond_true (hR36.ev rfl) ?_
    refine wp_seq_k (fun K37 hK38 => ?_)
    refine c_region ?_
    refine r_assign (st_listV rfl) hR36 rfl rfl rfl (by decide) (fun a39 hR40 => ?_)
    refine wpList_nil ?_
    refine x_then_n (hK38 _ _ ?_)
    refine wp_ret ?_
    refine x_then_r ?_
    refine e_ret1 hR40 rfl rfl rfl ?_
    refine ⟨?_, hS22.fr⟩
    exact congrArg Ending.returned (ret_i (by have q0 := h25; (try simp at q0);  unfold lvChk; (try split) <;> first | rfl | omega))

set_option maxRecDepth 100000 in
set_option maxHeartbeats 1000000 in
theorem rletter_calls (w0 : World) (Z : Nat → Prop) (hZ : ∀ k, Z k → k < w0.heap.size) (c : Nat)  :
    Calls Tryd.prog 115 [.int .u8 ((c : Nat) : Int)].toArray w0 (fun e w' => e = .returned (.bool (letN c)) ∧ Fr none_ w0 w') := by
  have hstart : ∀ k, Z k → imm Z w0 [] w0 k ∧ w0.heap[k]? = w0.heap[k]? := fun k hk => ⟨⟨hZ k hk, fun _ => hk, fun _ h => by cases h⟩, rfl⟩
  have hS3 : St w0 Z none_ w0 [] [] := St.start w0 Z none_ _ (by
    intro d hd
    cases hd
    )
  refine c_enter Tryd.func115 rfl Tryd.ntmps115 rfl (fun a1 hR2 => ?_)
  refine wp_seq_k (fun K4 hK5 => ?_)
  refine c_region ?_
  refine r_assign (st_listV rfl) hR2 rfl rfl rfl (by decide) (fun a6 hR7 => ?_)
  refine wpList_nil ?_
  refine x_then_n (hK5 _ _ ?_)
  refine wp_seq_k (fun K8 hK9 => ?_)
  refine c_region ?_
  refine r_move (st_listV rfl) hR7 rfl rfl rfl (by decide) (fun a10 hR11 => ?_)
  refine r_geq (st_listV rfl) hR11 rfl rfl rfl rfl (by decide) (fun a12 hR13 => ?_)
  refine r_move (st_listV rfl) hR13 rfl rfl rfl (by decide) (fun a14 hR15 => ?_)
  refine l_join (fun ga gw => Reg ga 21 [(0, .int .u8 ((c : Nat) : Int)), (2, .bool false), (8, .bool ((decide (97 ≤ ((c : Nat) : Int))) && (decide (((c : Nat) : Int) ≤ 122)))), (1000000, .bool false)] ∧ St w0 Z none_ gw [] []) 3 ?_ ?_
  · skip
    rcases Decidable.em (97 ≤ ((c : Nat) : Int)) with h16 | h16
    · skip
      have hR17 := hR15.setb (d := 5) (b := true) rfl (decide_eq_true h16)
      refine r_move (st_listV_w (want_t hR17 rfl rfl rfl (by decide) rfl)) hR17 rfl rfl rfl (by decide) (fun a18 hR19 => ?_)
      refine r_leq (st_listV_w (want_t hR19 rfl rfl rfl (by decide) rfl)) hR19 rfl rfl rfl rfl (by decide) (fun a20 hR21 => ?_)
      refine r_pick_t (st_listV rfl) hR21 rfl rfl rfl rfl (by decide) (fun a22 hR23 => ?_)
      refine wpList_nil ?_
      exact x_then_n ⟨(Reg.cons hR23 (Reg.cons hR23 (Reg.consb hR23 (Reg.cons hR23 (hR23.nil) rfl) rfl (by first | rfl | (simp only [decide_eq_true h16, if_pos h16, Bool.true_and, Bool.and_true, Bool.false_and, Bool.and_false, Bool.true_or, Bool.or_true, Bool.false_or, Bool.or_false, Bool.not_true, Bool.not_false, if_true, ite_true, ite_false, Bool.false_eq_true]; done) | (simp [h16]; done) | (simp [h16]; omega))) rfl) rfl), hS3⟩
    · skip
      have hR24 := hR15.setb (d := 5) (b := false) rfl (decide_eq_false h16)
      refine s_pass hR24 rfl (by decide) (want_f hR24 rfl rfl rfl (by decide) rfl rfl) (fun a25 hR26 => ?_)
      refine s_pass hR26 rfl (by decide) (want_f hR26 rfl rfl rfl (by decide) rfl rfl) (fun a27 hR28 => ?_)
      refine r_pick_f (st_listV rfl) hR28 rfl rfl rfl rfl (by decide) (fun a29 hR30 => ?_)
      refine wpList_nil ?_
      exact x_then_n ⟨(Reg.cons hR30 (Reg.cons hR30 (Reg.consb hR30 (Reg.cons hR30 (hR30.nil) rfl) rfl (by first | rfl | (simp only [decide_eq_false h16, if_neg h16, Bool.true_and, Bool.and_true, Bool.false_and, Bool.and_false, Bool.true_or, Bool.or_true, Bool.false_or, Bool.or_false, Bool.not_true, Bool.not_false, if_true, ite_true, ite_false, Bool.false_eq_true]; done) | (simp [h16]; done) | (simp [h16]; omega))) rfl) rfl), hS3⟩
  rintro a31 w32 ⟨hR33, hS34⟩
  refine r_move (st_listV rfl) hR33 rfl rfl rfl (by decide) (fun a35 hR36 => ?_)
  refine l_join (fun ga gw => Reg ga 21 [(0, .int .u8 ((c : Nat) : Int)), (2, .bool false), (16, .bool (((decide (97 ≤ ((c : Nat) : Int))) && (decide (((c : Nat) : Int) ≤ 122))) || ((decide (65 ≤ ((c : Nat) : Int))) && (decide (((c : Nat) : Int) ≤ 90))))), (1000000, .bool false)] ∧ St w0 Z none_ gw [] []) 7 ?_ ?_
  · skip
    rcases Bool.eq_false_or_eq_true (((decide (97 ≤ ((c : Nat) : Int))) && (decide (((c : Nat) : Int) ≤ 122)))) with h37 | h37
    · skip
      have h38 := and_tl h37
      have h39 := of_decide_eq_true h38
      have h40 := and_tr h37
      have h41 := of_decide_eq_true h40
      have hR42 := hR36.setb (d := 9) (b := true) rfl h37
      refine s_pass hR42 rfl (by decide) (want_f hR42 rfl rfl rfl (by decide) rfl rfl) (fun a43 hR44 => ?_)
      refine s_pass hR44 rfl (by decide) (want_f hR44 rfl rfl rfl (by decide) rfl rfl) (fun a45 hR46 => ?_)
      refine s_pass hR46 rfl (by decide) (want_f hR46 rfl rfl rfl (by decide) rfl rfl) (fun a47 hR48 => ?_)
      refine s_pass hR48 rfl (by decide) (want_u hR48 rfl rfl rfl (by decide) rfl) (fun a49 hR50 => ?_)
      refine s_pass hR50 rfl (by decide) (want_u hR50 rfl rfl rfl (by decide) rfl) (fun a51 hR52 => ?_)
      refine s_pass hR52 rfl (by decide) (want_f hR52 rfl rfl rfl (by decide) rfl rfl) (fun a53 hR54 => ?_)
      refine r_pick_t (st_listV rfl) hR54 rfl rfl rfl rfl (by decide) (fun a55 hR56 => ?_)
      refine wpList_nil ?_
      exact x_then_n ⟨(Reg.cons hR56 (Reg.cons hR56 (Reg.consb hR56 (Reg.cons hR56 (hR56.nil) rfl) rfl (by first | rfl | (simp only [h37, Bool.true_and, Bool.and_true, Bool.false_and, Bool.and_false, Bool.true_or, Bool.or_true, Bool.false_or, Bool.or_false, Bool.not_true, Bool.not_false, if_true, ite_true, ite_false, Bool.false_eq_true]; done) | (simp [h37]; done) | (simp [h37]; omega))) rfl) rfl), hS34⟩
    · skip
      have hq57 := h37
      try simp only [Bool.or_eq_true, Bool.and_eq_true, Bool.not_eq_true', Bool.not_eq_false', decide_eq_true_eq, decide_eq_false_iff_not, Bool.or_eq_false_iff, Bool.and_eq_false_iff] at hq57
      have hR58 := hR36.setb (d := 9) (b := false) rfl h37
      refine r_move (st_listV_w (want_t hR58 rfl rfl rfl (by decide) rfl)) hR58 rfl rfl rfl (by decide) (fun a59 hR60 => ?_)
      refine r_geq (st_listV_w (want_t hR60 rfl rfl rfl (by decide) rfl)) hR60 rfl rfl rfl rfl (by decide) (fun a61 hR62 => ?_)
      refine r_move (st_listV_w (want_t hR62 rfl rfl rfl (by decide) rfl)) hR62 rfl rfl rfl (by decide) (fun a63 hR64 => ?_)
      rcases Decidable.em (65 ≤ ((c : Nat) : Int)) with h65 | h65
      · skip
        have hR66 := hR64.setb (d := 12) (b := true) rfl (decide_eq_true h65)
        refine r_move (st_listV_w (want_t hR66 rfl rfl rfl (by decide) rfl)) hR66 rfl rfl rfl (by decide) (fun a67 hR68 => ?_)
        refine r_leq (st_listV_w (want_t hR68 rfl rfl rfl (by decide) rfl)) hR68 rfl rfl rfl rfl (by decide) (fun a69 hR70 => ?_)
        refine r_pick_t (st_listV_w (want_t hR70 rfl rfl rfl (by decide) rfl)) hR70 rfl rfl rfl rfl (by decide) (fun a71 hR72 => ?_)
        refine r_pick_f (st_listV rfl) hR72 rfl rfl rfl rfl (by decide) (fun a73 hR74 => ?_)
        refine wpList_nil ?_
        exact x_then_n ⟨(Reg.cons hR74 (Reg.cons hR74 (Reg.consb hR74 (Reg.cons hR74 (hR74.nil) rfl) rfl (by first | rfl | (simp only [h37, decide_eq_true h65, if_pos h65, Bool.true_and, Bool.and_true, Bool.false_and, Bool.and_false, Bool.true_or, Bool.or_true, Bool.false_or, Bool.or_false, Bool.not_true, Bool.not_false, if_true, ite_true, ite_false, Bool.false_eq_true]; done) | (simp [h37, h65]; done) | (simp [h37, h65]; omega))) rfl) rfl), hS34⟩
      · skip
        have hR75 := hR64.setb (d := 12) (b := false) rfl (decide_eq_false h65)
        refine s_pass hR75 rfl (by decide) (want_f hR75 rfl rfl rfl (by decide) rfl rfl) (fun a76 hR77 => ?_)
        refine s_pass hR77 rfl (by decide) (want_f hR77 rfl rfl rfl (by decide) rfl rfl) (fun a78 hR79 => ?_)
        refine r_pick_f (st_listV_w (want_t hR79 rfl rfl rfl (by decide) rfl)) hR79 rfl rfl rfl rfl (by decide) (fun a80 hR81 => ?_)
        refine r_pick_f (st_listV rfl) hR81 rfl rfl rfl rfl (by decide) (fun a82 hR83 => ?_)
        refine wpList_nil ?_
        exact x_then_n ⟨(Reg.cons hR83 (Reg.cons hR83 (Reg.consb hR83 (Reg.cons hR83 (hR83.nil) rfl) rfl (by first | rfl | (simp only [h37, decide_eq_false h65, if_neg h65, Bool.true_and, Bool.and_true, Bool.false_and, Bool.and_false, Bool.true_or, Bool.or_true, Bool.false_or, Bool.or_false, Bool.not_true, Bool.not_false, if_true, ite_true, ite_false, Bool.false_eq_true]; done) | (simp [h37, h65]; done) | (simp [h37, h65]; omega))) rfl) rfl), hS34⟩
  rintro a84 w85 ⟨hR86, hS87⟩
  refine r_move (st_listV rfl) hR86 rfl rfl rfl (by decide) (fun a88 hR89 => ?_)
  refine l_join (fun ga gw => Reg ga 21 [(2, .bool false), (20, .bool ((((decide (97 ≤ ((c : Nat) : Int))) && (decide (((c : Nat) : Int) ≤ 122))) || ((decide (65 ≤ ((c : Nat) : Int))) && (decide (((c : Nat) : Int) ≤ 90)))) || (decide (((c : Nat) : Int) = 95)))), (1000000, .bool false)] ∧ St w0 Z none_ gw [] []) 3 ?_ ?_
  · skip
    rcases Bool.eq_false_or_eq_true ((((decide (97 ≤ ((c : Nat) : Int))) && (decide (((c : Nat) : Int) ≤ 122))) || ((decide (65 ≤ ((c : Nat) : Int))) && (decide (((c : Nat) : Int) ≤ 90))))) with h90 | h90
    · skip
      have hq91 := h90
      try simp only [Bool.or_eq_true, Bool.and_eq_true, Bool.not_eq_true', Bool.not_eq_false', decide_eq_true_eq, decide_eq_false_iff_not, Bool.or_eq_false_iff, Bool.and_eq_false_iff] at hq91
      have hR92 := hR89.setb (d := 17) (b := true) rfl h90
      refine s_pass hR92 rfl (by decide) (want_f hR92 rfl rfl rfl (by decide) rfl rfl) (fun a93 hR94 => ?_)
      refine s_pass hR94 rfl (by decide) (want_f hR94 rfl rfl rfl (by decide) rfl rfl) (fun a95 hR96 => ?_)
      refine r_pick_t (st_listV rfl) hR96 rfl rfl rfl rfl (by decide) (fun a97 hR98 => ?_)
      refine wpList_nil ?_
      exact x_then_n ⟨(Reg.cons hR98 (Reg.consb hR98 (Reg.cons hR98 (hR98.nil) rfl) rfl (by first | rfl | (simp only [h90, Bool.true_and, Bool.and_true, Bool.false_and, Bool.and_false, Bool.true_or, Bool.or_true, Bool.false_or, Bool.or_false, Bool.not_true, Bool.not_false, if_true, ite_true, ite_false, Bool.false_eq_true]; done) | (simp [h90]; done) | (simp [h90]; omega))) rfl), hS87⟩
    · skip
      have h99 := or_fl h90
      have hq100 := h99
      try simp only [Bool.or_eq_true, Bool.and_eq_true, Bool.not_eq_true', Bool.not_eq_false', decide_eq_true_eq, decide_eq_false_iff_not, Bool.or_eq_false_iff, Bool.and_eq_false_iff] at hq100
      have h101 := or_fr h90
      have hq102 := h101
      try simp only [Bool.or_eq_true, Bool.and_eq_true, Bool.not_eq_true', Bool.not_eq_false', decide_eq_true_eq, decide_eq_false_iff_not, Bool.or_eq_false_iff, Bool.and_eq_false_iff] at hq102
      have hR103 := hR89.setb (d := 17) (b := false) rfl h90
      refine r_move (st_listV_w (want_t hR103 rfl rfl rfl (by decide) rfl)) hR103 rfl rfl rfl (by decide) (fun a104 hR105 => ?_)
      refine r_eql (st_listV_w (want_t hR105 rfl rfl rfl (by decide) rfl)) hR105 rfl rfl rfl rfl (by decide) (fun a106 hR107 => ?_)
      refine r_pick_f (st_listV rfl) hR107 rfl rfl rfl rfl (by decide) (fun a108 hR109 => ?_)
      refine wpList_nil ?_
      exact x_then_n ⟨(Reg.cons hR109 (Reg.consb hR109 (Reg.cons hR109 (hR109.nil) rfl) rfl (by first | rfl | (simp only [h90, Bool.true_and, Bool.and_true, Bool.false_and, Bool.and_false, Bool.true_or, Bool.or_true, Bool.false_or, Bool.or_false, Bool.not_true, Bool.not_false, if_true, ite_true, ite_false, Bool.false_eq_true]; done) | (simp [h90]; done) | (simp [h90]; omega))) rfl), hS87⟩
  rintro a110 w111 ⟨hR112, hS113⟩
  refine r_assign (st_listV rfl) hR112 rfl rfl rfl (by decide) (fun a114 hR115 => ?_)
  refine wpList_nil ?_
  refine x_then_n (hK9 _ _ ?_)
  refine wp_ret ?_
  refine e_ret1 hR115 rfl rfl rfl ?_
  refine ⟨?_, hS113.fr⟩
  exact congrArg Ending.returned (ret_b (by first | rfl | ( rw [Bool.eq_iff_iff]; unfold letN; simp; omega)))

set_option maxRecDepth 100000 in
set_option maxHeartbeats 1000000 in
theorem rname_calls (w0 : World) (Z : Nat → Prop) (hZ : ∀ k, Z k → k < w0.heap.size) (s : ByteArray) (hs : s.size < 1000000) :
    Calls Tryd.prog 77 [.string s].toArray w0 (fun e w' => e = .returned (.bool (nameOk s)) ∧ Fr none_ w0 w') := by
  have hstart : ∀ k, Z k → imm Z w0 [] w0 k ∧ w0.heap[k]? = w0.heap[k]? := fun k hk => ⟨⟨hZ k hk, fun _ => hk, fun _ h => by cases h⟩, rfl⟩
  have hS3 : St w0 Z none_ w0 [] [] := St.start w0 Z none_ _ (by
    intro d hd
    cases hd
    )
  refine c_enter Tryd.func77 rfl Tryd.ntmps77 rfl (fun a1 hR2 => ?_)
  refine wp_seq_k (fun K4 hK5 => ?_)
  refine c_region ?_
  refine r_assign (st_listV rfl) hR2 rfl rfl rfl (by decide) (fun a6 hR7 => ?_)
  refine wpList_nil ?_
  refine x_then_n (hK5 _ _ ?_)
  refine wp_seq_k (fun K8 hK9 => ?_)
  refine wp_seq_k (fun K10 hK11 => ?_)
  refine c_region ?_
  refine r_move (st_listV rfl) hR7 rfl rfl rfl (by decide) (fun a12 hR13 => ?_)
  refine r_lenS (st_listV rfl) hR13 rfl rfl rfl rfl Tryd.underlying9 (by decide) (fun a14 hR15 => ?_)
  refine r_lss (st_listV rfl) hR15 rfl rfl rfl rfl (by decide) (fun a16 hR17 => ?_)
  refine r_move (st_listV rfl) hR17 rfl rfl rfl (by decide) (fun a18 hR19 => ?_)
  refine l_join (fun ga gw => Reg ga 41 [(0, .string s), (2, .bool false), (11, .bool ((decide (((s.size : Nat) : Int) < 1)) || (decide (16 < ((s.size : Nat) : Int))))), (1000000, .bool false)] ∧ St w0 Z none_ gw [] []) 4 ?_ ?_
  · skip
    rcases Decidable.em (((s.size : Nat) : Int) < 1) with h20 | h20
    · skip
      have hR21 := hR19.setb (d := 7) (b := true) rfl (decide_eq_true h20)
      refine s_pass hR21 rfl (by decide) (want_f hR21 rfl rfl rfl (by decide) rfl rfl) (fun a22 hR23 => ?_)
      refine s_pass hR23 rfl (by decide) (want_f hR23 rfl rfl rfl (by decide) rfl rfl) (fun a24 hR25 => ?_)
      refine s_pass hR25 rfl (by decide) (want_f hR25 rfl rfl rfl (by decide) rfl rfl) (fun a26 hR27 => ?_)
      refine r_pick_t (st_listV rfl) hR27 rfl rfl rfl rfl (by decide) (fun a28 hR29 => ?_)
      refine wpList_nil ?_
      exact x_then_n ⟨(Reg.cons hR29 (Reg.cons hR29 (Reg.consb hR29 (Reg.cons hR29 (hR29.nil) rfl) rfl (by first | rfl | (simp only [decide_eq_true h20, if_pos h20, Bool.true_and, Bool.and_true, Bool.false_and, Bool.and_false, Bool.true_or, Bool.or_true, Bool.false_or, Bool.or_false, Bool.not_true, Bool.not_false, if_true, ite_true, ite_false, Bool.false_eq_true]; done) | (simp [h20]; done) | (simp [h20]; omega))) rfl) rfl), hS3⟩
    · skip
      have hR30 := hR19.setb (d := 7) (b := false) rfl (decide_eq_false h20)
      refine r_move (st_listV_w (want_t hR30 rfl rfl rfl (by decide) rfl)) hR30 rfl rfl rfl (by decide) (fun a31 hR32 => ?_)
      refine r_lenS (st_listV_w (want_t hR32 rfl rfl rfl (by decide) rfl)) hR32 rfl rfl rfl rfl Tryd.underlying9 (by decide) (fun a33 hR34 => ?_)
      refine r_gtr (st_listV_w (want_t hR34 rfl rfl rfl (by decide) rfl)) hR34 rfl rfl rfl rfl (by decide) (fun a35 hR36 => ?_)
      refine r_pick_f (st_listV rfl) hR36 rfl rfl rfl rfl (by decide) (fun a37 hR38 => ?_)
      refine wpList_nil ?_
      exact x_then_n ⟨(Reg.cons hR38 (Reg.cons hR38 (Reg.consb hR38 (Reg.cons hR38 (hR38.nil) rfl) rfl (by first | rfl | (simp only [decide_eq_false h20, if_neg h20, Bool.true_and, Bool.and_true, Bool.false_and, Bool.and_false, Bool.true_or, Bool.or_true, Bool.false_or, Bool.or_false, Bool.not_true, Bool.not_false, if_true, ite_true, ite_false, Bool.false_eq_true]; done) | (simp [h20]; done) | (simp [h20]; omega))) rfl) rfl), hS3⟩
  rintro a39 w40 ⟨hR41, hS42⟩
  refine r_move (st_listV rfl) hR41 rfl rfl rfl (by decide) (fun a43 hR44 => ?_)
  refine l_join (fun ga gw => Reg ga 41 [(0, .string s), (2, .bool false), (17, .bool (((decide (((s.size : Nat) : Int) < 1)) || (decide (16 < ((s.size : Nat) : Int)))) || (!(letN (byteAt s 0))))), (1000000, .bool false)] ∧ St w0 Z none_ gw [] []) 5 ?_ ?_
  · skip
    rcases Bool.eq_false_or_eq_true (((decide (((s.size : Nat) : Int) < 1)) || (decide (16 < ((s.size : Nat) : Int))))) with h45 | h45
    · skip
      have hq46 := h45
      try simp only [Bool.or_eq_true, Bool.and_eq_true, Bool.not_eq_true', Bool.not_eq_false', decide_eq_true_eq, decide_eq_false_iff_not, Bool.or_eq_false_iff, Bool.and_eq_false_iff] at hq46
      have hR47 := hR44.setb (d := 12) (b := true) rfl h45
      refine s_pass hR47 rfl (by decide) (want_f hR47 rfl rfl rfl (by decide) rfl rfl) (fun a48 hR49 => ?_)
      refine s_pass hR49 rfl (by decide) (want_f hR49 rfl rfl rfl (by decide) rfl rfl) (fun a50 hR51 => ?_)
      refine s_pass hR51 rfl (by decide) (want_f hR51 rfl rfl rfl (by decide) rfl rfl) (fun a52 hR53 => ?_)
      refine s_pass hR53 rfl (by decide) (want_f hR53 rfl rfl rfl (by decide) rfl rfl) (fun a54 hR55 => ?_)
      refine r_pick_t (st_listV rfl) hR55 rfl rfl rfl rfl (by decide) (fun a56 hR57 => ?_)
      refine wpList_nil ?_
      exact x_then_n ⟨(Reg.cons hR57 (Reg.cons hR57 (Reg.consb hR57 (Reg.cons hR57 (hR57.nil) rfl) rfl (by first | rfl | (simp only [h45, Bool.true_and, Bool.and_true, Bool.false_and, Bool.and_false, Bool.true_or, Bool.or_true, Bool.false_or, Bool.or_false, Bool.not_true, Bool.not_false, if_true, ite_true, ite_false, Bool.false_eq_true]; done) | (simp [h45]; done) | (simp [h45]; omega))) rfl) rfl), hS42⟩
    · skip
      have h58 := or_fl h45
      have h59 := of_decide_eq_false h58
      have h60 := or_fr h45
      have h61 := of_decide_eq_false h60
      have hR62 := hR44.setb (d := 12) (b := false) rfl h45
      refine r_move (st_listV_w (want_t hR62 rfl rfl rfl (by decide) rfl)) hR62 rfl rfl rfl (by decide) (fun a63 hR64 => ?_)
      refine r_byte (i := 0) (st_listV_w (want_t hR64 rfl rfl rfl (by decide) rfl)) hR64 rfl rfl rfl rfl Tryd.underlying9 (by omega) (by omega) (by decide) (fun a65 hR66 => ?_)
      have hS67 : St w0 Z none_ w40 [] [] := hS42
      refine k_call (xs := [.tmp 14]) (st_list_w (want_t hR66 rfl rfl rfl (by decide) rfl)) hR66 rfl rfl rfl (by decide) ok115 (rletter_calls _ (imm Z w0 [] _) (fun _ h => h.1) (byteAt s 0)) ?_
      rintro e74 w69 ⟨rfl, hf72⟩
      have hS75 := hS67.below hf72.below
      refine ⟨_, rfl, fun a68 hR70 => ?_⟩
      refine r_not (st_listV_w (want_t hR70 rfl rfl rfl (by decide) rfl)) hR70 rfl rfl rfl (by decide) (fun a76 hR77 => ?_)
      refine r_pick_f (st_listV rfl) hR77 rfl rfl rfl rfl (by decide) (fun a78 hR79 => ?_)
      refine wpList_nil ?_
      exact x_then_n ⟨(Reg.cons hR79 (Reg.cons hR79 (Reg.consb hR79 (Reg.cons hR79 (hR79.nil) rfl) rfl (by first | rfl | (simp only [h45, Bool.true_and, Bool.and_true, Bool.false_and, Bool.and_false, Bool.true_or, Bool.or_true, Bool.false_or, Bool.or_false, Bool.not_true, Bool.not_false, if_true, ite_true, ite_false, Bool.false_eq_true]; done) | (simp [h45]; done) | (simp [h45]; omega))) rfl) rfl), hS75⟩
  rintro a80 w81 ⟨hR82, hS83⟩
  refine wpList_nil ?_
  refine x_then_n (hK11 _ _ ?_)
  rcases Bool.eq_false_or_eq_true ((((decide (((s.size : Nat) : Int) < 1)) || (decide (16 < ((s.size : Nat) : Int)))) || (!(letN (byteAt s 0))))) with h84 | h84
  · skip
    have hq85 := h84
    try simp only [Bool.or_eq_true, Bool.and_eq_true, Bool.not_eq_true', Bool.not_eq_false', decide_eq_true_eq, decide_eq_false_iff_not, Bool.or_eq_false_iff, Bool.and_eq_false_iff] at hq85
    have hR86 := hR82.setb (d := 17) (b := true) rfl h84
    refine wp_cond_true (hR86.ev rfl) ?_
    refine wp_seq_k (fun K87 hK88 => ?_)
    refine c_region ?_
    refine r_assign (st_listV rfl) hR86 rfl rfl rfl (by decide) (fun a89 hR90 => ?_)
    refine wpList_nil ?_
    refine x_then_n (hK88 _ _ ?_)
    refine wp_ret ?_
    refine x_then_r ?_
    refine e_ret1 hR90 rfl rfl rfl ?_
    refine ⟨?_, hS83.fr⟩
    exact congrArg Ending.returned (ret_b (by first | exact (rname_bad (k := k) (by omega) (by assumption) (by omega)).symm | exact (rname_bad0 (by rcases hq85 with h | h; exact .inl (by omega); exact .inr h)).symm))
  · skip
    have h91 := or_fl h84
    have h92 := or_fl h91
    have h93 := of_decide_eq_false h92
    have h94 := or_fr h91
    have h95 := of_decide_eq_false h94
    have h96 := or_fr h84
    have h97 := not_f h96
    have hR98 := hR82.setb (d := 17) (b := false) rfl h84
    refine wp_cond_false (hR98.ev rfl) ?_
    refine wp_skip ?_
    refine x_then_n (hK9 _ _ ?_)
    refine wp_seq_k (fun K99 hK100 => ?_)
    refine wp_seq_k (fun K101 hK102 => ?_)
    refine c_region ?_
    refine r_assign (st_listV rfl) hR98 rfl rfl rfl (by decide) (fun a103 hR104 => ?_)
    refine wpList_nil ?_
    refine x_then_n (hK102 _ _ ?_)
    refine wp_block ?_
    refine wp_loop_ghost (fun gn ga gw => ∃ k : Nat, (Reg ga 41 [(0, .string s), (1000000, .bool false), (3, .int .i64 ((k : Nat) : Int))]) ∧ (St w0 Z none_ gw [] []) ∧ (k ≤ s.size) ∧ (nameTo s k) ∧ (s.size - k) = gn) _ ⟨0, (Reg.cons hR104 (Reg.cons hR104 (Reg.cons hR104 (hR104.nil) rfl) rfl) rfl), hS83, by omega, nameTo_zero s, rfl⟩ ?_
    rintro r105 a106 w107 ⟨k, hR108, hS109, hk, hi, hn110⟩
    refine wp_seq_k (fun K111 hK112 => ?_)
    refine wp_seq_k (fun K113 hK114 => ?_)
    refine c_region ?_
    refine r_move (st_listV rfl) hR108 rfl rfl rfl (by decide) (fun a115 hR116 => ?_)
    refine r_move (st_listV rfl) hR116 rfl rfl rfl (by decide) (fun a117 hR118 => ?_)
    refine r_lenS (st_listV rfl) hR118 rfl rfl rfl rfl Tryd.underlying9 (by decide) (fun a119 hR120 => ?_)
    refine r_lss (st_listV rfl) hR120 rfl rfl rfl rfl (by decide) (fun a121 hR122 => ?_)
    refine wpList_nil ?_
    refine x_then_n (hK114 _ _ ?_)
    rcases Decidable.em (((k : Nat) : Int) < ((s.size : Nat) : Int)) with h123 | h123
    · skip
      have hR124 := hR122.setb (d := 21) (b := true) rfl (decide_eq_true h123)
      refine wp_cond_true (hR124.ev rfl) ?_
      refine wp_skip ?_
      refine x_then_n (hK112 _ _ ?_)
      refine wp_seq_k (fun K125 hK126 => ?_)
      refine wp_block ?_
      refine wp_seq_k (fun K127 hK128 => ?_)
      refine c_region ?_
      refine r_move (st_listV rfl) hR124 rfl rfl rfl (by decide) (fun a129 hR130 => ?_)
      refine r_move (st_listV rfl) hR130 rfl rfl rfl (by decide) (fun a131 hR132 => ?_)
      refine r_byte (i := k) (st_listV rfl) hR132 rfl rfl rfl rfl Tryd.underlying9 (by omega) (by omega) (by decide) (fun a133 hR134 => ?_)
      have hS135 : St w0 Z none_ w107 [] [] := hS109
      refine k_call (xs := [.tmp 26]) (st_list rfl) hR134 rfl rfl rfl (by decide) ok115 (rletter_calls _ (imm Z w0 [] _) (fun _ h => h.1) (byteAt s k)) ?_
      rintro e142 w137 ⟨rfl, hf140⟩
      have hS143 := hS135.below hf140.below
      refine ⟨_, rfl, fun a136 hR138 => ?_⟩
      refine r_not (st_listV rfl) hR138 rfl rfl rfl (by decide) (fun a144 hR145 => ?_)
      refine r_move (st_listV rfl) hR145 rfl rfl rfl (by decide) (fun a146 hR147 => ?_)
      refine l_join (fun ga gw => Reg ga 41 [(0, .string s), (3, .int .i64 ((k : Nat) : Int)), (40, .bool ((!(letN (byteAt s k))) && ((decide (((byteAt s k : Nat) : Int) < 48)) || (decide (57 < ((byteAt s k : Nat) : Int)))))), (1000000, .bool false)] ∧ St w0 Z none_ gw [] []) 11 ?_ ?_
      · skip
        rcases Bool.eq_false_or_eq_true (letN (byteAt s k)) with h148 | h148
        · skip
          have hR149 := hR147.setb (d := 29) (b := false) rfl (by rw [h148]; rfl)
          refine s_pass hR149 rfl (by decide) (want_f hR149 rfl rfl rfl (by decide) rfl rfl) (fun a150 hR151 => ?_)
          refine s_pass hR151 rfl (by decide) (want_f hR151 rfl rfl rfl (by decide) rfl rfl) (fun a152 hR153 => ?_)
          refine s_pass hR153 rfl (by decide) (want_f hR153 rfl rfl rfl (by decide) rfl rfl) (fun a154 hR155 => ?_)
          refine s_pass hR155 rfl (by decide) (want_f hR155 rfl rfl rfl (by decide) rfl rfl) (fun a156 hR157 => ?_)
          refine s_pass hR157 rfl (by decide) (want_f hR157 rfl rfl rfl (by decide) rfl rfl) (fun a158 hR159 => ?_)
          refine s_pass hR159 rfl (by decide) (want_u hR159 rfl rfl rfl (by decide) rfl) (fun a160 hR161 => ?_)
          refine s_pass hR161 rfl (by decide) (want_u hR161 rfl rfl rfl (by decide) rfl) (fun a162 hR163 => ?_)
          refine s_pass hR163 rfl (by decide) (want_u hR163 rfl rfl rfl (by decide) rfl) (fun a164 hR165 => ?_)
          refine s_pass hR165 rfl (by decide) (want_u hR165 rfl rfl rfl (by decide) rfl) (fun a166 hR167 => ?_)
          refine s_pass hR167 rfl (by decide) (want_f hR167 rfl rfl rfl (by decide) rfl rfl) (fun a168 hR169 => ?_)
          refine r_pick_f (st_listV rfl) hR169 rfl rfl rfl rfl (by decide) (fun a170 hR171 => ?_)
          refine wpList_nil ?_
          exact x_then_n ⟨(Reg.cons hR171 (Reg.cons hR171 (Reg.consb hR171 (Reg.cons hR171 (hR171.nil) rfl) rfl (by first | rfl | (simp only [h148, Bool.true_and, Bool.and_true, Bool.false_and, Bool.and_false, Bool.true_or, Bool.or_true, Bool.false_or, Bool.or_false, Bool.not_true, Bool.not_false, if_true, ite_true, ite_false, Bool.false_eq_true]; done) | (simp [h148]; done) | (simp [h148]; omega))) rfl) rfl), hS143⟩
        · skip
          have hR172 := hR147.setb (d := 29) (b := true) rfl (by rw [h148]; rfl)
          refine r_move (st_listV_w (want_t hR172 rfl rfl rfl (by decide) rfl)) hR172 rfl rfl rfl (by decide) (fun a173 hR174 => ?_)
          refine r_move (st_listV_w (want_t hR174 rfl rfl rfl (by decide) rfl)) hR174 rfl rfl rfl (by decide) (fun a175 hR176 => ?_)
          refine r_byte (i := k) (st_listV_w (want_t hR176 rfl rfl rfl (by decide) rfl)) hR176 rfl rfl rfl rfl Tryd.underlying9 (by omega) (by omega) (by decide) (fun a177 hR178 => ?_)
          refine r_lss (st_listV_w (want_t hR178 rfl rfl rfl (by decide) rfl)) hR178 rfl rfl rfl rfl (by decide) (fun a179 hR180 => ?_)
          refine r_move (st_listV_w (want_t hR180 rfl rfl rfl (by decide) rfl)) hR180 rfl rfl rfl (by decide) (fun a181 hR182 => ?_)
          rcases Decidable.em (((byteAt s k : Nat) : Int) < 48) with h183 | h183
          · skip
            have hR184 := hR182.setb (d := 34) (b := true) rfl (decide_eq_true h183)
            refine s_pass hR184 rfl (by decide) (want_f hR184 rfl rfl rfl (by decide) rfl rfl) (fun a185 hR186 => ?_)
            refine s_pass hR186 rfl (by decide) (want_f hR186 rfl rfl rfl (by decide) rfl rfl) (fun a187 hR188 => ?_)
            refine s_pass hR188 rfl (by decide) (want_f hR188 rfl rfl rfl (by decide) rfl rfl) (fun a189 hR190 => ?_)
            refine s_pass hR190 rfl (by decide) (want_f hR190 rfl rfl rfl (by decide) rfl rfl) (fun a191 hR192 => ?_)
            refine r_pick_t (st_listV_w (want_t hR192 rfl rfl rfl (by decide) rfl)) hR192 rfl rfl rfl rfl (by decide) (fun a193 hR194 => ?_)
            refine r_pick_t (st_listV rfl) hR194 rfl rfl rfl rfl (by decide) (fun a195 hR196 => ?_)
            refine wpList_nil ?_
            exact x_then_n ⟨(Reg.cons hR196 (Reg.cons hR196 (Reg.consb hR196 (Reg.cons hR196 (hR196.nil) rfl) rfl (by first | rfl | (simp only [h148, decide_eq_true h183, if_pos h183, Bool.true_and, Bool.and_true, Bool.false_and, Bool.and_false, Bool.true_or, Bool.or_true, Bool.false_or, Bool.or_false, Bool.not_true, Bool.not_false, if_true, ite_true, ite_false, Bool.false_eq_true]; done) | (simp [h148, h183]; done) | (simp [h148, h183]; omega))) rfl) rfl), hS143⟩
          · skip
            have hR197 := hR182.setb (d := 34) (b := false) rfl (decide_eq_false h183)
            refine r_move (st_listV_w (want_t hR197 rfl rfl rfl (by decide) rfl)) hR197 rfl rfl rfl (by decide) (fun a198 hR199 => ?_)
            refine r_move (st_listV_w (want_t hR199 rfl rfl rfl (by decide) rfl)) hR199 rfl rfl rfl (by decide) (fun a200 hR201 => ?_)
            refine r_byte (i := k) (st_listV_w (want_t hR201 rfl rfl rfl (by decide) rfl)) hR201 rfl rfl rfl rfl Tryd.underlying9 (by omega) (by omega) (by decide) (fun a202 hR203 => ?_)
            refine r_gtr (st_listV_w (want_t hR203 rfl rfl rfl (by decide) rfl)) hR203 rfl rfl rfl rfl (by decide) (fun a204 hR205 => ?_)
            refine r_pick_f (st_listV_w (want_t hR205 rfl rfl rfl (by decide) rfl)) hR205 rfl rfl rfl rfl (by decide) (fun a206 hR207 => ?_)
            refine r_pick_t (st_listV rfl) hR207 rfl rfl rfl rfl (by decide) (fun a208 hR209 => ?_)
            refine wpList_nil ?_
            exact x_then_n ⟨(Reg.cons hR209 (Reg.cons hR209 (Reg.consb hR209 (Reg.cons hR209 (hR209.nil) rfl) rfl (by first | rfl | (simp only [h148, decide_eq_false h183, if_neg h183, Bool.true_and, Bool.and_true, Bool.false_and, Bool.and_false, Bool.true_or, Bool.or_true, Bool.false_or, Bool.or_false, Bool.not_true, Bool.not_false, if_true, ite_true, ite_false, Bool.false_eq_true]; done) | (simp [h148, h183]; done) | (simp [h148, h183]; omega))) rfl) rfl), hS143⟩
      rintro a210 w211 ⟨hR212, hS213⟩
      refine wpList_nil ?_
      refine x_then_n (hK128 _ _ ?_)
      rcases Bool.eq_false_or_eq_true (((!(letN (byteAt s k))) && ((decide (((byteAt s k : Nat) : Int) < 48)) || (decide (57 < ((byteAt s k : Nat) : Int)))))) with h214 | h214
      · skip
        have h215 := and_tl h214
        have h216 := not_t h215
        have h217 := and_tr h214
        have hq218 := h217
        try simp only [Bool.or_eq_true, Bool.and_eq_true, Bool.not_eq_true', Bool.not_eq_false', decide_eq_true_eq, decide_eq_false_iff_not, Bool.or_eq_false_iff, Bool.and_eq_false_iff] at hq218
        have hR219 := hR212.setb (d := 40) (b := true) rfl h214
        refine wp_cond_true (hR219.ev rfl) ?_
        refine wp_seq_k (fun K220 hK221 => ?_)
        refine c_region ?_
        refine r_assign (st_listV rfl) hR219 rfl rfl rfl (by decide) (fun a222 hR223 => ?_)
        refine wpList_nil ?_
        refine x_then_n (hK221 _ _ ?_)
        refine wp_ret ?_
        refine x_block_r ?_
        refine x_then_r ?_
        refine x_then_r ?_
        refine x_block_r ?_
        refine x_then_r ?_
        refine e_ret1 hR223 rfl rfl rfl ?_
        refine ⟨?_, hS213.fr⟩
        exact congrArg Ending.returned (ret_b (by first | exact (rname_bad (k := k) (by omega) (by assumption) (by omega)).symm | exact (rname_bad0 (by rcases hq218 with h | h; exact .inl (by omega); exact .inr h)).symm))
      · skip
        have hq224 := h214
        try simp only [Bool.or_eq_true, Bool.and_eq_true, Bool.not_eq_true', Bool.not_eq_false', decide_eq_true_eq, decide_eq_false_iff_not, Bool.or_eq_false_iff, Bool.and_eq_false_iff] at hq224
        have hR225 := hR212.setb (d := 40) (b := false) rfl h214
        refine wp_cond_false (hR225.ev rfl) ?_
        refine wp_skip ?_
        refine x_block_n ?_
        refine x_then_n (hK126 _ _ ?_)
        refine c_region ?_
        refine r_move (st_listV rfl) hR225 rfl rfl rfl (by decide) (fun a226 hR227 => ?_)
        refine r_add (z := ((k + 1 : Nat) : Int)) (st_listV rfl) hR227 rfl rfl rfl rfl (by decide) (by omega) (by omega) (by omega) (fun a228 hR229 => ?_)
        refine r_assign (st_listV rfl) hR229 rfl rfl rfl (by decide) (fun a230 hR231 => ?_)
        refine wpList_nil ?_
        exact ⟨_, by omega, k + 1, (Reg.cons hR231 (Reg.cons hR231 (Reg.cons hR231 (hR231.nil) rfl) rfl) rfl), hS213, by omega, nameTo_step hi (rname_step (by assumption) (by rcases hq224 with h | h; exact .inl h; exact .inr (by omega))), rfl⟩
    · skip
      have hR232 := hR122.setb (d := 21) (b := false) rfl (decide_eq_false h123)
      refine wp_cond_false (hR232.ev rfl) ?_
      refine wp_exit ?_
      refine x_then_e ?_
      refine x_then_e ?_
      refine x_block_eq ?_
      refine x_then_n (hK100 _ _ ?_)
      refine wp_seq_k (fun K233 hK234 => ?_)
      refine c_region ?_
      refine r_assign (st_listV rfl) hR232 rfl rfl rfl (by decide) (fun a235 hR236 => ?_)
      refine wpList_nil ?_
      refine x_then_n (hK234 _ _ ?_)
      refine wp_ret ?_
      refine e_ret1 hR236 rfl rfl rfl ?_
      refine ⟨?_, hS109.fr⟩
      exact congrArg Ending.returned (ret_b (by exact (rname_end hi (by omega) (by omega) (by omega)).symm))

set_option maxRecDepth 100000 in
set_option maxHeartbeats 1000000 in
theorem rplain_calls (w0 : World) (Z : Nat → Prop) (hZ : ∀ k, Z k → k < w0.heap.size) (n : Nd)  :
    Calls Tryd.prog 79 [.agg #[.int .i64 (n.K), .int .i64 (n.N), .int .i64 (n.M), .string n.S]].toArray w0 (fun e w' => e = .returned (.bool (plainB n)) ∧ Fr none_ w0 w') := by
  have hstart : ∀ k, Z k → imm Z w0 [] w0 k ∧ w0.heap[k]? = w0.heap[k]? := fun k hk => ⟨⟨hZ k hk, fun _ => hk, fun _ h => by cases h⟩, rfl⟩
  have hS3 : St w0 Z none_ w0 [] [] := St.start w0 Z none_ _ (by
    intro d hd
    cases hd
    )
  refine c_enter Tryd.func79 rfl Tryd.ntmps79 rfl (fun a1 hR2 => ?_)
  refine wp_seq_k (fun K4 hK5 => ?_)
  refine c_region ?_
  refine m_box (cs := [.int .i64 (n.K), .int .i64 (n.N), .int .i64 (n.M), .string n.S]) (st_listV rfl) hR2 hS3 rfl rfl rfl rfl (by decide) (fun a6 w7 g8 hR9 hS10 => ?_)
  refine r_assign (st_listV rfl) hR9 rfl rfl rfl (by decide) (fun a11 hR12 => ?_)
  refine wpList_nil ?_
  refine x_then_n (hK5 _ _ ?_)
  refine wp_seq_k (fun K13 hK14 => ?_)
  refine c_region ?_
  refine m_field (j' := 1) (st_listV rfl) hR12 rfl rfl rfl Tryd.underlying32 rfl sz3 rfl rfl (by decide) (fun a15 hR16 => ?_)
  refine m_load (i := 0) (st_listV rfl) hR16 hS10 rfl rfl rfl rfl rfl Tryd.underlying3 rfl (by decide) (fun a17 hR18 => ?_)
  refine r_eql (st_listV rfl) hR18 rfl rfl rfl rfl (by decide) (fun a19 hR20 => ?_)
  refine r_move (st_listV rfl) hR20 rfl rfl rfl (by decide) (fun a21 hR22 => ?_)
  refine l_join (fun ga gw => Reg ga 16 [(1, .pointer (some ⟨g8, 0, none⟩)), (2, .bool false), (10, .bool ((decide ((n.N) = 0)) && (decide ((n.M) = 0)))), (1000000, .bool false)] ∧ St w0 Z none_ gw [.box g8 32 [.int .i64 (n.K), .int .i64 (n.N), .int .i64 (n.M), .string n.S]] []) 4 ?_ ?_
  · skip
    rcases Decidable.em ((n.N) = 0) with h23 | h23
    · skip
      have hR24 := hR22.setb (d := 6) (b := true) rfl (decide_eq_true h23)
      refine m_field (j' := 2) (st_listV_w (want_t hR24 rfl rfl rfl (by decide) rfl)) hR24 rfl rfl rfl Tryd.underlying32 rfl sz3 rfl rfl (by decide) (fun a25 hR26 => ?_)
      refine m_load (i := 0) (st_listV_w (want_t hR26 rfl rfl rfl (by decide) rfl)) hR26 hS10 rfl rfl rfl rfl rfl Tryd.underlying3 rfl (by decide) (fun a27 hR28 => ?_)
      refine r_eql (st_listV_w (want_t hR28 rfl rfl rfl (by decide) rfl)) hR28 rfl rfl rfl rfl (by decide) (fun a29 hR30 => ?_)
      refine r_pick_t (st_listV rfl) hR30 rfl rfl rfl rfl (by decide) (fun a31 hR32 => ?_)
      refine wpList_nil ?_
      exact x_then_n ⟨(Reg.cons hR32 (Reg.cons hR32 (Reg.consb hR32 (Reg.cons hR32 (hR32.nil) rfl) rfl (by first | rfl | (simp only [decide_eq_true h23, if_pos h23, Bool.true_and, Bool.and_true, Bool.false_and, Bool.and_false, Bool.true_or, Bool.or_true, Bool.false_or, Bool.or_false, Bool.not_true, Bool.not_false, if_true, ite_true, ite_false, Bool.false_eq_true]; done) | (simp [h23]; done) | (simp [h23]; omega))) rfl) rfl), hS10⟩
    · skip
      have hR33 := hR22.setb (d := 6) (b := false) rfl (decide_eq_false h23)
      refine s_pass hR33 rfl (by decide) (want_f hR33 rfl rfl rfl (by decide) rfl rfl) (fun a34 hR35 => ?_)
      refine s_pass hR35 rfl (by decide) (want_f hR35 rfl rfl rfl (by decide) rfl rfl) (fun a36 hR37 => ?_)
      refine s_pass hR37 rfl (by decide) (want_f hR37 rfl rfl rfl (by decide) rfl rfl) (fun a38 hR39 => ?_)
      refine r_pick_f (st_listV rfl) hR39 rfl rfl rfl rfl (by decide) (fun a40 hR41 => ?_)
      refine wpList_nil ?_
      exact x_then_n ⟨(Reg.cons hR41 (Reg.cons hR41 (Reg.consb hR41 (Reg.cons hR41 (hR41.nil) rfl) rfl (by first | rfl | (simp only [decide_eq_false h23, if_neg h23, Bool.true_and, Bool.and_true, Bool.false_and, Bool.and_false, Bool.true_or, Bool.or_true, Bool.false_or, Bool.or_false, Bool.not_true, Bool.not_false, if_true, ite_true, ite_false, Bool.false_eq_true]; done) | (simp [h23]; done) | (simp [h23]; omega))) rfl) rfl), hS10⟩
  rintro a42 w43 ⟨hR44, hS45⟩
  refine r_move (st_listV rfl) hR44 rfl rfl rfl (by decide) (fun a46 hR47 => ?_)
  refine l_join (fun ga gw => Reg ga 16 [(2, .bool false), (15, .bool (((decide ((n.N) = 0)) && (decide ((n.M) = 0))) && (decide (n.S = (⟨#[]⟩ : ByteArray))))), (1000000, .bool false)] ∧ St w0 Z none_ gw [.box g8 32 [.int .i64 (n.K), .int .i64 (n.N), .int .i64 (n.M), .string n.S]] []) 4 ?_ ?_
  · skip
    rcases Bool.eq_false_or_eq_true (((decide ((n.N) = 0)) && (decide ((n.M) = 0)))) with h48 | h48
    · skip
      have h49 := and_tl h48
      have h50 := of_decide_eq_true h49
      have h51 := and_tr h48
      have h52 := of_decide_eq_true h51
      have hR53 := hR47.setb (d := 11) (b := true) rfl h48
      refine m_field (j' := 3) (st_listV_w (want_t hR53 rfl rfl rfl (by decide) rfl)) hR53 rfl rfl rfl Tryd.underlying32 rfl sz9 rfl rfl (by decide) (fun a54 hR55 => ?_)
      refine m_load (i := 0) (st_listV_w (want_t hR55 rfl rfl rfl (by decide) rfl)) hR55 hS45 rfl rfl rfl rfl rfl Tryd.underlying9 rfl (by decide) (fun a56 hR57 => ?_)
      refine r_eqlS (st_listV_w (want_t hR57 rfl rfl rfl (by decide) rfl)) hR57 rfl rfl rfl rfl (by decide) (fun a58 hR59 => ?_)
      refine r_pick_t (st_listV rfl) hR59 rfl rfl rfl rfl (by decide) (fun a60 hR61 => ?_)
      refine wpList_nil ?_
      exact x_then_n ⟨(Reg.cons hR61 (Reg.consb hR61 (Reg.cons hR61 (hR61.nil) rfl) rfl (by first | rfl | (simp only [h48, Bool.true_and, Bool.and_true, Bool.false_and, Bool.and_false, Bool.true_or, Bool.or_true, Bool.false_or, Bool.or_false, Bool.not_true, Bool.not_false, if_true, ite_true, ite_false, Bool.false_eq_true]; done) | (simp [h48]; done) | (simp [h48]; omega))) rfl), hS45⟩
    · skip
      have hq62 := h48
      try simp only [Bool.or_eq_true, Bool.and_eq_true, Bool.not_eq_true', Bool.not_eq_false', decide_eq_true_eq, decide_eq_false_iff_not, Bool.or_eq_false_iff, Bool.and_eq_false_iff] at hq62
      have hR63 := hR47.setb (d := 11) (b := false) rfl h48
      refine s_pass hR63 rfl (by decide) (want_f hR63 rfl rfl rfl (by decide) rfl rfl) (fun a64 hR65 => ?_)
      refine s_pass hR65 rfl (by decide) (want_f hR65 rfl rfl rfl (by decide) rfl rfl) (fun a66 hR67 => ?_)
      refine s_pass hR67 rfl (by decide) (want_f hR67 rfl rfl rfl (by decide) rfl rfl) (fun a68 hR69 => ?_)
      refine r_pick_f (st_listV rfl) hR69 rfl rfl rfl rfl (by decide) (fun a70 hR71 => ?_)
      refine wpList_nil ?_
      exact x_then_n ⟨(Reg.cons hR71 (Reg.consb hR71 (Reg.cons hR71 (hR71.nil) rfl) rfl (by first | rfl | (simp only [h48, Bool.true_and, Bool.and_true, Bool.false_and, Bool.and_false, Bool.true_or, Bool.or_true, Bool.false_or, Bool.or_false, Bool.not_true, Bool.not_false, if_true, ite_true, ite_false, Bool.false_eq_true]; done) | (simp [h48]; done) | (simp [h48]; omega))) rfl), hS45⟩
  rintro a72 w73 ⟨hR74, hS75⟩
  refine r_assign (st_listV rfl) hR74 rfl rfl rfl (by decide) (fun a76 hR77 => ?_)
  refine wpList_nil ?_
  refine x_then_n (hK14 _ _ ?_)
  refine wp_ret ?_
  refine e_ret1 hR77 rfl rfl rfl ?_
  refine ⟨?_, hS75.fr⟩
  exact congrArg Ending.returned (ret_b (by first | rfl | (unfold plainB; rw [Bool.and_assoc]; done) | ( rw [Bool.eq_iff_iff]; unfold plainB; simp [])))
end Go.Proofs.YtobgdeffhdefeaaDoor
