import Derived.Test.YtobgdeffhdefeaaDoorCb
import Derived.Test.YtobgdeffhdefeaaDoorRc
import Derived.Test.YtobgdeffhdefeaaDoorHv
/- Contracts of functions, one theorem each: what the call returns, and that nothing old is changed. Printed by gen.py. -/
namespace Go.Proofs.YtobgdeffhdefeaaDoor
open Go Go.RowKit
set_option linter.unusedSimpArgs false
set_option linter.unusedVariables false

set_option maxRecDepth 100000 in
set_option maxHeartbeats 1000000 in
theorem shown13_calls (w0 : World) (Z : Nat → Prop) (hZ : ∀ k, Z k → k < w0.heap.size)  (hShp : Shapes w0 Z) :
    Calls Tryd.prog 35 [].toArray w0 (fun e w' => e = .returned (.bool (true)) ∧ Fr none_ w0 w') := by
  have hstart : ∀ k, Z k → imm Z w0 [] w0 k ∧ w0.heap[k]? = w0.heap[k]? := fun k hk => ⟨⟨hZ k hk, fun _ => hk, fun _ h => by cases h⟩, rfl⟩
  have hS3 : St w0 Z none_ w0 [] [dShapes] := St.start w0 Z none_ _ (by
    intro d hd
    simp only [List.mem_cons, List.not_mem_nil, or_false] at hd
    rcases hd with rfl
    · exact Dat.mono _ _ _ _ _ hShp hstart
    )
  refine c_enter Tryd.func35 rfl Tryd.ntmps35 rfl (fun a1 hR2 => ?_)
  refine wp_seq_k (fun K4 hK5 => ?_)
  refine c_region ?_
  refine r_assign (st_listV rfl) hR2 rfl rfl rfl (by decide) (fun a6 hR7 => ?_)
  refine wpList_nil ?_
  refine x_then_n (hK5 _ _ ?_)
  refine wp_seq_k (fun K8 hK9 => ?_)
  refine c_region ?_
  refine m_build (ps := [(0, .const (.int .i64 10))]) (v := .agg #[.int .i64 10, .int .i64 0, .int .i64 0, .string (⟨#[]⟩ : ByteArray)]) (st_listV rfl) hR7 rfl rfl rfl (fun _ => by kernel_rfl) (by decide) (fun a10 hR11 => ?_)
  refine m_buildSlice (ps := [(0, .tmp 5)]) (cs := [.int .i64 10, .int .i64 0, .int .i64 0, .string (⟨#[]⟩ : ByteArray)]) (st_listV rfl) hR11 hS3 rfl rfl rfl Tryd.underlying22 zi32 rfl rfl (by kernel_rfl) rfl (by decide) (fun a12 w13 g14 hR15 hS16 => ?_)
  refine r_assign (st_listV rfl) hR15 rfl rfl rfl (by decide) (fun a17 hR18 => ?_)
  refine wpList_nil ?_
  refine x_then_n (hK9 _ _ ?_)
  refine wp_seq_k (fun K19 hK20 => ?_)
  refine c_region ?_
  refine m_build (ps := [(0, .const (.int .i64 0)), (1, .const (.int .i64 3))]) (v := .agg #[.int .i64 0, .int .i64 3, .int .i64 0, .string (⟨#[]⟩ : ByteArray)]) (st_listV rfl) hR18 rfl rfl rfl (fun _ => by kernel_rfl) (by decide) (fun a21 hR22 => ?_)
  refine m_buildSlice (ps := [(0, .tmp 7)]) (cs := [.int .i64 0, .int .i64 3, .int .i64 0, .string (⟨#[]⟩ : ByteArray)]) (st_listV rfl) hR22 hS16 rfl rfl rfl Tryd.underlying22 zi32 rfl rfl (by kernel_rfl) rfl (by decide) (fun a23 w24 g25 hR26 hS27 => ?_)
  refine r_assign (st_listV rfl) hR26 rfl rfl rfl (by decide) (fun a28 hR29 => ?_)
  refine wpList_nil ?_
  refine x_then_n (hK20 _ _ ?_)
  refine wp_seq_k (fun K30 hK31 => ?_)
  refine c_region ?_
  refine r_move (st_listV rfl) hR29 rfl rfl rfl (by decide) (fun a32 hR33 => ?_)
  refine r_move (st_listV rfl) hR33 rfl rfl rfl (by decide) (fun a34 hR35 => ?_)
  refine r_move (st_listV rfl) hR35 rfl rfl rfl (by decide) (fun a36 hR37 => ?_)
  have hS38 : St w0 Z none_ w24 [.row (some ⟨g14, 0, none⟩) 1 1 32 4 (encNs ([(⟨10, 0, 0, (⟨#[]⟩ : ByteArray)⟩ : Nd)])), .row (some ⟨g25, 0, none⟩) 1 1 32 4 (encNs ([(⟨0, 3, 0, (⟨#[]⟩ : ByteArray)⟩ : Nd)]))] [dShapes] := hS27
  have hc42 := own_cap (hS38.res (i := 0) rfl)
  obtain ⟨hS39, hrow40⟩ := hS38.row_data (i := 0) rfl (fun _ h => h)
  have hS41 := hS39.data (dRow 4 (some ⟨g14, 0, none⟩) 1 1 (encNs ([(⟨10, 0, 0, (⟨#[]⟩ : ByteArray)⟩ : Nd)]))) ⟨hc42, hrow40⟩
  have hc46 := own_cap (hS41.res (i := 0) rfl)
  obtain ⟨hS43, hrow44⟩ := hS41.row_data (i := 0) rfl (fun _ h => h)
  have hS45 := hS43.data (dRow 4 (some ⟨g25, 0, none⟩) 1 1 (encNs ([(⟨0, 3, 0, (⟨#[]⟩ : ByteArray)⟩ : Nd)]))) ⟨hc46, hrow44⟩
  refine k_call (xs := [.tmp 10, .tmp 11, .tmp 12]) (st_list rfl) hR37 rfl rfl rfl (by decide) ok36 (crule0_calls _ (imm Z w0 [] _) (fun _ h => h.1) (some ⟨g14, 0, none⟩) 1 ([(⟨10, 0, 0, (⟨#[]⟩ : ByteArray)⟩ : Nd)]) (some ⟨g14, 0, none⟩) 1 ([(⟨10, 0, 0, (⟨#[]⟩ : ByteArray)⟩ : Nd)]) (some ⟨g25, 0, none⟩) 1 ([(⟨0, 3, 0, (⟨#[]⟩ : ByteArray)⟩ : Nd)]) (hS45.get (i := 0) rfl) (hS45.get (i := 1) rfl) (hS45.get (i := 1) rfl) (hS45.get (i := 2) rfl) sml_nat sml_nat sml_v3 (by simp) (by simp) (by simp) (fun _ _ _ _ => ⟨.inl rfl, rfl⟩)) ?_
  rintro e56 w48 ⟨A52, c53, rfl, hf51, hd54⟩
  have hS57 := hS45.below hf51.below
  have hS58 := hS57.data (dRow 4 A52 ((if ¬ (if ¬ chk ([(⟨10, 0, 0, (⟨#[]⟩ : ByteArray)⟩ : Nd)]) = 0 then chk ([(⟨10, 0, 0, (⟨#[]⟩ : ByteArray)⟩ : Nd)]) else if ¬ chk ([(⟨10, 0, 0, (⟨#[]⟩ : ByteArray)⟩ : Nd)]) = 0 then chk ([(⟨10, 0, 0, (⟨#[]⟩ : ByteArray)⟩ : Nd)]) else chk ([(⟨0, 3, 0, (⟨#[]⟩ : ByteArray)⟩ : Nd)])) = 0 then [] else if (nth ([(⟨0, 3, 0, (⟨#[]⟩ : ByteArray)⟩ : Nd)]) (([(⟨0, 3, 0, (⟨#[]⟩ : ByteArray)⟩ : Nd)]).length - 1)).K = 29 then [(⟨29, 0, 0, ⟨#[]⟩⟩ : Nd)] else ([(⟨0, 3, 0, (⟨#[]⟩ : ByteArray)⟩ : Nd)])).length) c53 (encNs (if ¬ (if ¬ chk ([(⟨10, 0, 0, (⟨#[]⟩ : ByteArray)⟩ : Nd)]) = 0 then chk ([(⟨10, 0, 0, (⟨#[]⟩ : ByteArray)⟩ : Nd)]) else if ¬ chk ([(⟨10, 0, 0, (⟨#[]⟩ : ByteArray)⟩ : Nd)]) = 0 then chk ([(⟨10, 0, 0, (⟨#[]⟩ : ByteArray)⟩ : Nd)]) else chk ([(⟨0, 3, 0, (⟨#[]⟩ : ByteArray)⟩ : Nd)])) = 0 then [] else if (nth ([(⟨0, 3, 0, (⟨#[]⟩ : ByteArray)⟩ : Nd)]) (([(⟨0, 3, 0, (⟨#[]⟩ : ByteArray)⟩ : Nd)]).length - 1)).K = 29 then [(⟨29, 0, 0, ⟨#[]⟩⟩ : Nd)] else ([(⟨0, 3, 0, (⟨#[]⟩ : ByteArray)⟩ : Nd)])))) ⟨hd54.1, hd54.2.mono (fun _ hk => ⟨nxt_imm hS45 hk, rfl⟩)⟩
  refine ⟨_, rfl, fun a47 hR49 => ?_⟩
  refine r_move (st_listV rfl) hR49 rfl rfl rfl (by decide) (fun a59 hR60 => ?_)
  refine r_extract (st_listV rfl) hR60 rfl rfl rfl rfl (by decide) (fun a61 hR62 => ?_)
  refine r_extract (st_listV rfl) hR62 rfl rfl rfl rfl (by decide) (fun a63 hR64 => ?_)
  refine r_assign (st_listV rfl) hR64 rfl rfl rfl (by decide) (fun a65 hR66 => ?_)
  refine r_assign (st_listV rfl) hR66 rfl rfl rfl (by decide) (fun a67 hR68 => ?_)
  refine wpList_nil ?_
  refine x_then_n (hK31 _ _ ?_)
  refine wp_seq_k (fun K69 hK70 => ?_)
  refine c_region ?_
  refine r_move (st_listV rfl) hR68 rfl rfl rfl (by decide) (fun a71 hR72 => ?_)
  refine r_eql (st_listV rfl) hR72 rfl rfl rfl rfl (by decide) (fun a73 hR74 => ?_)
  refine r_move (st_listV rfl) hR74 rfl rfl rfl (by decide) (fun a75 hR76 => ?_)
  refine l_join (fun ga gw => Reg ga 23 [(0, .bool false), (22, .bool ((decide (((if ¬ chk ([(⟨10, 0, 0, (⟨#[]⟩ : ByteArray)⟩ : Nd)]) = 0 then chk ([(⟨10, 0, 0, (⟨#[]⟩ : ByteArray)⟩ : Nd)]) else if ¬ chk ([(⟨10, 0, 0, (⟨#[]⟩ : ByteArray)⟩ : Nd)]) = 0 then chk ([(⟨10, 0, 0, (⟨#[]⟩ : ByteArray)⟩ : Nd)]) else chk ([(⟨0, 3, 0, (⟨#[]⟩ : ByteArray)⟩ : Nd)]))) = 0)) && (decide ((if ¬ (if ¬ chk ([(⟨10, 0, 0, (⟨#[]⟩ : ByteArray)⟩ : Nd)]) = 0 then chk ([(⟨10, 0, 0, (⟨#[]⟩ : ByteArray)⟩ : Nd)]) else if ¬ chk ([(⟨10, 0, 0, (⟨#[]⟩ : ByteArray)⟩ : Nd)]) = 0 then chk ([(⟨10, 0, 0, (⟨#[]⟩ : ByteArray)⟩ : Nd)]) else chk ([(⟨0, 3, 0, (⟨#[]⟩ : ByteArray)⟩ : Nd)])) = 0 then [] else if (nth ([(⟨0, 3, 0, (⟨#[]⟩ : ByteArray)⟩ : Nd)]) (([(⟨0, 3, 0, (⟨#[]⟩ : ByteArray)⟩ : Nd)]).length - 1)).K = 29 then [(⟨29, 0, 0, ⟨#[]⟩⟩ : Nd)] else ([(⟨0, 3, 0, (⟨#[]⟩ : ByteArray)⟩ : Nd)])) = ([(⟨0, 3, 0, (⟨#[]⟩ : ByteArray)⟩ : Nd)])))))] ∧ St w0 Z none_ gw [] [dShapes, dRow 4 (some ⟨g14, 0, none⟩) 1 1 (encNs ([(⟨10, 0, 0, (⟨#[]⟩ : ByteArray)⟩ : Nd)])), dRow 4 (some ⟨g25, 0, none⟩) 1 1 (encNs ([(⟨0, 3, 0, (⟨#[]⟩ : ByteArray)⟩ : Nd)])), dRow 4 A52 ((if ¬ (if ¬ chk ([(⟨10, 0, 0, (⟨#[]⟩ : ByteArray)⟩ : Nd)]) = 0 then chk ([(⟨10, 0, 0, (⟨#[]⟩ : ByteArray)⟩ : Nd)]) else if ¬ chk ([(⟨10, 0, 0, (⟨#[]⟩ : ByteArray)⟩ : Nd)]) = 0 then chk ([(⟨10, 0, 0, (⟨#[]⟩ : ByteArray)⟩ : Nd)]) else chk ([(⟨0, 3, 0, (⟨#[]⟩ : ByteArray)⟩ : Nd)])) = 0 then [] else if (nth ([(⟨0, 3, 0, (⟨#[]⟩ : ByteArray)⟩ : Nd)]) (([(⟨0, 3, 0, (⟨#[]⟩ : ByteArray)⟩ : Nd)]).length - 1)).K = 29 then [(⟨29, 0, 0, ⟨#[]⟩⟩ : Nd)] else ([(⟨0, 3, 0, (⟨#[]⟩ : ByteArray)⟩ : Nd)])).length) c53 (encNs (if ¬ (if ¬ chk ([(⟨10, 0, 0, (⟨#[]⟩ : ByteArray)⟩ : Nd)]) = 0 then chk ([(⟨10, 0, 0, (⟨#[]⟩ : ByteArray)⟩ : Nd)]) else if ¬ chk ([(⟨10, 0, 0, (⟨#[]⟩ : ByteArray)⟩ : Nd)]) = 0 then chk ([(⟨10, 0, 0, (⟨#[]⟩ : ByteArray)⟩ : Nd)]) else chk ([(⟨0, 3, 0, (⟨#[]⟩ : ByteArray)⟩ : Nd)])) = 0 then [] else if (nth ([(⟨0, 3, 0, (⟨#[]⟩ : ByteArray)⟩ : Nd)]) (([(⟨0, 3, 0, (⟨#[]⟩ : ByteArray)⟩ : Nd)]).length - 1)).K = 29 then [(⟨29, 0, 0, ⟨#[]⟩⟩ : Nd)] else ([(⟨0, 3, 0, (⟨#[]⟩ : ByteArray)⟩ : Nd)])))]) 4 ?_ ?_
  · skip
    rcases Decidable.em (((if ¬ chk ([(⟨10, 0, 0, (⟨#[]⟩ : ByteArray)⟩ : Nd)]) = 0 then chk ([(⟨10, 0, 0, (⟨#[]⟩ : ByteArray)⟩ : Nd)]) else if ¬ chk ([(⟨10, 0, 0, (⟨#[]⟩ : ByteArray)⟩ : Nd)]) = 0 then chk ([(⟨10, 0, 0, (⟨#[]⟩ : ByteArray)⟩ : Nd)]) else chk ([(⟨0, 3, 0, (⟨#[]⟩ : ByteArray)⟩ : Nd)]))) = 0) with h77 | h77
    · skip
      have hR78 := hR76.setb (d := 18) (b := true) rfl (decide_eq_true h77)
      refine r_move (st_listV_w (want_t hR78 rfl rfl rfl (by decide) rfl)) hR78 rfl rfl rfl (by decide) (fun a79 hR80 => ?_)
      refine r_move (st_listV_w (want_t hR80 rfl rfl rfl (by decide) rfl)) hR80 rfl rfl rfl (by decide) (fun a81 hR82 => ?_)
      have hS83 : St w0 Z none_ w48 [] [dShapes, dRow 4 (some ⟨g14, 0, none⟩) 1 1 (encNs ([(⟨10, 0, 0, (⟨#[]⟩ : ByteArray)⟩ : Nd)])), dRow 4 (some ⟨g25, 0, none⟩) 1 1 (encNs ([(⟨0, 3, 0, (⟨#[]⟩ : ByteArray)⟩ : Nd)])), dRow 4 A52 ((if ¬ (if ¬ chk ([(⟨10, 0, 0, (⟨#[]⟩ : ByteArray)⟩ : Nd)]) = 0 then chk ([(⟨10, 0, 0, (⟨#[]⟩ : ByteArray)⟩ : Nd)]) else if ¬ chk ([(⟨10, 0, 0, (⟨#[]⟩ : ByteArray)⟩ : Nd)]) = 0 then chk ([(⟨10, 0, 0, (⟨#[]⟩ : ByteArray)⟩ : Nd)]) else chk ([(⟨0, 3, 0, (⟨#[]⟩ : ByteArray)⟩ : Nd)])) = 0 then [] else if (nth ([(⟨0, 3, 0, (⟨#[]⟩ : ByteArray)⟩ : Nd)]) (([(⟨0, 3, 0, (⟨#[]⟩ : ByteArray)⟩ : Nd)]).length - 1)).K = 29 then [(⟨29, 0, 0, ⟨#[]⟩⟩ : Nd)] else ([(⟨0, 3, 0, (⟨#[]⟩ : ByteArray)⟩ : Nd)])).length) c53 (encNs (if ¬ (if ¬ chk ([(⟨10, 0, 0, (⟨#[]⟩ : ByteArray)⟩ : Nd)]) = 0 then chk ([(⟨10, 0, 0, (⟨#[]⟩ : ByteArray)⟩ : Nd)]) else if ¬ chk ([(⟨10, 0, 0, (⟨#[]⟩ : ByteArray)⟩ : Nd)]) = 0 then chk ([(⟨10, 0, 0, (⟨#[]⟩ : ByteArray)⟩ : Nd)]) else chk ([(⟨0, 3, 0, (⟨#[]⟩ : ByteArray)⟩ : Nd)])) = 0 then [] else if (nth ([(⟨0, 3, 0, (⟨#[]⟩ : ByteArray)⟩ : Nd)]) (([(⟨0, 3, 0, (⟨#[]⟩ : ByteArray)⟩ : Nd)]).length - 1)).K = 29 then [(⟨29, 0, 0, ⟨#[]⟩⟩ : Nd)] else ([(⟨0, 3, 0, (⟨#[]⟩ : ByteArray)⟩ : Nd)])))] := hS58
      refine k_call (xs := [.tmp 19, .tmp 20]) (st_list_w (want_t hR82 rfl rfl rfl (by decide) rfl)) hR82 rfl rfl rfl (by decide) ok30 (rsame_calls _ (imm Z w0 [] _) (fun _ h => h.1) A52 c53 (if ¬ (if ¬ chk ([(⟨10, 0, 0, (⟨#[]⟩ : ByteArray)⟩ : Nd)]) = 0 then chk ([(⟨10, 0, 0, (⟨#[]⟩ : ByteArray)⟩ : Nd)]) else if ¬ chk ([(⟨10, 0, 0, (⟨#[]⟩ : ByteArray)⟩ : Nd)]) = 0 then chk ([(⟨10, 0, 0, (⟨#[]⟩ : ByteArray)⟩ : Nd)]) else chk ([(⟨0, 3, 0, (⟨#[]⟩ : ByteArray)⟩ : Nd)])) = 0 then [] else if (nth ([(⟨0, 3, 0, (⟨#[]⟩ : ByteArray)⟩ : Nd)]) (([(⟨0, 3, 0, (⟨#[]⟩ : ByteArray)⟩ : Nd)]).length - 1)).K = 29 then [(⟨29, 0, 0, ⟨#[]⟩⟩ : Nd)] else ([(⟨0, 3, 0, (⟨#[]⟩ : ByteArray)⟩ : Nd)])) (some ⟨g25, 0, none⟩) 1 ([(⟨0, 3, 0, (⟨#[]⟩ : ByteArray)⟩ : Nd)]) (hS83.get (i := 3) rfl) (hS83.get (i := 2) rfl) (by (repeat' split) <;> first | omega | (simp; done) | (simp; omega))) ?_
      rintro e90 w85 ⟨rfl, hf88⟩
      have hS91 := hS83.below hf88.below
      refine ⟨_, rfl, fun a84 hR86 => ?_⟩
      refine r_pick_t (st_listV rfl) hR86 rfl rfl rfl rfl (by decide) (fun a92 hR93 => ?_)
      refine wpList_nil ?_
      exact x_then_n ⟨(Reg.cons hR93 (Reg.consb hR93 (hR93.nil) rfl (by first | rfl | (simp only [decide_eq_true h77, if_pos h77, Bool.true_and, Bool.and_true, Bool.false_and, Bool.and_false, Bool.true_or, Bool.or_true, Bool.false_or, Bool.or_false, Bool.not_true, Bool.not_false, if_true, ite_true, ite_false, Bool.false_eq_true]; done) | (simp [h77]; done) | (simp [h77]; omega))) rfl), hS91⟩
    · skip
      have hR94 := hR76.setb (d := 18) (b := false) rfl (decide_eq_false h77)
      refine s_pass hR94 rfl (by decide) (want_f hR94 rfl rfl rfl (by decide) rfl rfl) (fun a95 hR96 => ?_)
      refine s_pass hR96 rfl (by decide) (want_f hR96 rfl rfl rfl (by decide) rfl rfl) (fun a97 hR98 => ?_)
      refine s_pass hR98 rfl (by decide) (want_f hR98 rfl rfl rfl (by decide) rfl rfl) (fun a99 hR100 => ?_)
      refine r_pick_f (st_listV rfl) hR100 rfl rfl rfl rfl (by decide) (fun a101 hR102 => ?_)
      refine wpList_nil ?_
      exact x_then_n ⟨(Reg.cons hR102 (Reg.consb hR102 (hR102.nil) rfl (by first | rfl | (simp only [decide_eq_false h77, if_neg h77, Bool.true_and, Bool.and_true, Bool.false_and, Bool.and_false, Bool.true_or, Bool.or_true, Bool.false_or, Bool.or_false, Bool.not_true, Bool.not_false, if_true, ite_true, ite_false, Bool.false_eq_true]; done) | (simp [h77]; done) | (simp [h77]; omega))) rfl), hS58⟩
  rintro a103 w104 ⟨hR105, hS106⟩
  refine r_assign (st_listV rfl) hR105 rfl rfl rfl (by decide) (fun a107 hR108 => ?_)
  refine wpList_nil ?_
  refine x_then_n (hK70 _ _ ?_)
  refine wp_ret ?_
  refine e_ret1 hR108 rfl rfl ?_
  refine ⟨?_, hS106.fr⟩
  exact congrArg Ending.returned (ret_b (by simp [chk_tick, chk_nat, chk_v3, root_tick, root_nat, root_v3]))

set_option maxRecDepth 100000 in
set_option maxHeartbeats 1000000 in
theorem castrSelf_calls (w0 : World) (Z : Nat → Prop) (hZ : ∀ k, Z k → k < w0.heap.size) (aA : Option Addr) (ac : Nat) (a : List Nd) (bA : Option Addr) (bc : Nat) (b : List Nd) (tA : Option Addr) (tc : Nat) (t : List Nd) (hShp : Shapes w0 Z) (ha : (dRow 4 aA a.length ac (encNs a)).φ w0 Z) (hb : (dRow 4 bA b.length bc (encNs b)).φ w0 Z) (ht : (dRow 4 tA t.length tc (encNs t)).φ w0 Z) :
    Calls Tryd.prog 9 [.slice aA a.length ac, .slice bA b.length bc, .slice tA t.length tc].toArray w0 (fun e w' => e = .returned (.bool (true)) ∧ Fr none_ w0 w') := by
  have hstart : ∀ k, Z k → imm Z w0 [] w0 k ∧ w0.heap[k]? = w0.heap[k]? := fun k hk => ⟨⟨hZ k hk, fun _ => hk, fun _ h => by cases h⟩, rfl⟩
  have hS3 : St w0 Z none_ w0 [] [dShapes, dRow 4 aA a.length ac (encNs a), dRow 4 bA b.length bc (encNs b), dRow 4 tA t.length tc (encNs t)] := St.start w0 Z none_ _ (by
    intro d hd
    simp only [List.mem_cons, List.not_mem_nil, or_false] at hd
    rcases hd with rfl | rfl | rfl | rfl
    · exact Dat.mono _ _ _ _ _ hShp hstart
    · exact Dat.mono _ _ _ _ _ ha hstart
    · exact Dat.mono _ _ _ _ _ hb hstart
    · exact Dat.mono _ _ _ _ _ ht hstart
    )
  refine c_enter Tryd.func9 rfl Tryd.ntmps9 rfl (fun a1 hR2 => ?_)
  refine wp_seq_k (fun K4 hK5 => ?_)
  refine c_region ?_
  refine r_assign (st_listV rfl) hR2 rfl rfl rfl (by decide) (fun a6 hR7 => ?_)
  refine wpList_nil ?_
  refine x_then_n (hK5 _ _ ?_)
  refine wp_seq_k (fun K8 hK9 => ?_)
  refine wp_seq_k (fun K10 hK11 => ?_)
  refine c_region ?_
  refine r_move (st_listV rfl) hR7 rfl rfl rfl (by decide) (fun a12 hR13 => ?_)
  have hS14 : St w0 Z none_ w0 [] [dShapes, dRow 4 aA a.length ac (encNs a), dRow 4 bA b.length bc (encNs b), dRow 4 tA t.length tc (encNs t)] := hS3
  refine k_call (xs := [.tmp 13]) (st_list rfl) hR13 rfl rfl rfl (by decide) ok34 (heavy13_calls _ (imm Z w0 [] _) (fun _ h => h.1) aA ac a (hS14.get (i := 1) rfl)) ?_
  rintro e21 w16 ⟨rfl, hf19⟩
  have hS22 := hS14.below hf19.below
  refine ⟨_, rfl, fun a15 hR17 => ?_⟩
  refine r_move (st_listV rfl) hR17 rfl rfl rfl (by decide) (fun a23 hR24 => ?_)
  refine l_join (fun ga gw => Reg ga 94 [(0, .slice aA a.length ac), (1, .slice bA b.length bc), (2, .slice tA t.length tc), (6, .bool false), (18, .bool ((heavyB 100 a) || (heavyB 100 b)))] ∧ St w0 Z none_ gw [] [dShapes, dRow 4 aA a.length ac (encNs a), dRow 4 bA b.length bc (encNs b), dRow 4 tA t.length tc (encNs t)]) 3 ?_ ?_
  · skip
    rcases Bool.eq_false_or_eq_true (heavyB 100 a) with h25 | h25
    · skip
      have hR26 := hR24.setb (d := 15) (b := true) rfl h25
      refine s_pass hR26 rfl (by decide) (want_f hR26 rfl rfl rfl (by decide) rfl rfl) (fun a27 hR28 => ?_)
      refine s_pass hR28 rfl (by decide) (want_f hR28 rfl rfl rfl (by decide) rfl rfl) (fun a29 hR30 => ?_)
      refine r_pick_t (st_listV rfl) hR30 rfl rfl rfl rfl (by decide) (fun a31 hR32 => ?_)
      refine wpList_nil ?_
      exact x_then_n ⟨(Reg.cons hR32 (Reg.cons hR32 (Reg.cons hR32 (Reg.cons hR32 (Reg.consb hR32 (hR32.nil) rfl (by first | rfl | (simp only [h25, Bool.true_and, Bool.and_true, Bool.false_and, Bool.and_false, Bool.true_or, Bool.or_true, Bool.false_or, Bool.or_false, Bool.not_true, Bool.not_false, if_true, ite_true, ite_false, Bool.false_eq_true]; done) | (simp [h25]; done) | (simp [h25]; omega))) rfl) rfl) rfl) rfl), hS22⟩
    · skip
      obtain ⟨hla, hsa⟩ := heavy_false h25
      have hR33 := hR24.setb (d := 15) (b := false) rfl h25
      refine r_move (st_listV_w (want_t hR33 rfl rfl rfl (by decide) rfl)) hR33 rfl rfl rfl (by decide) (fun a34 hR35 => ?_)
      have hS36 : St w0 Z none_ w16 [] [dShapes, dRow 4 aA a.length ac (encNs a), dRow 4 bA b.length bc (encNs b), dRow 4 tA t.length tc (encNs t)] := hS22
      refine k_call (xs := [.tmp 16]) (st_list_w (want_t hR35 rfl rfl rfl (by decide) rfl)) hR35 rfl rfl rfl (by decide) ok34 (heavy13_calls _ (imm Z w0 [] _) (fun _ h => h.1) bA bc b (hS36.get (i := 2) rfl)) ?_
      rintro e43 w38 ⟨rfl, hf41⟩
      have hS44 := hS36.below hf41.below
      refine ⟨_, rfl, fun a37 hR39 => ?_⟩
      refine r_pick_f (st_listV rfl) hR39 rfl rfl rfl rfl (by decide) (fun a45 hR46 => ?_)
      refine wpList_nil ?_
      exact x_then_n ⟨(Reg.cons hR46 (Reg.cons hR46 (Reg.cons hR46 (Reg.cons hR46 (Reg.consb hR46 (hR46.nil) rfl (by first | rfl | (simp only [h25, Bool.true_and, Bool.and_true, Bool.false_and, Bool.and_false, Bool.true_or, Bool.or_true, Bool.false_or, Bool.or_false, Bool.not_true, Bool.not_false, if_true, ite_true, ite_false, Bool.false_eq_true]; done) | (simp [h25]; done) | (simp [h25]; omega))) rfl) rfl) rfl) rfl), hS44⟩
  rintro a47 w48 ⟨hR49, hS50⟩
  refine r_move (st_listV rfl) hR49 rfl rfl rfl (by decide) (fun a51 hR52 => ?_)
  refine l_join (fun ga gw => Reg ga 94 [(0, .slice aA a.length ac), (1, .slice bA b.length bc), (2, .slice tA t.length tc), (6, .bool false), (22, .bool (((heavyB 100 a) || (heavyB 100 b)) || (heavyB 100 t)))] ∧ St w0 Z none_ gw [] [dShapes, dRow 4 aA a.length ac (encNs a), dRow 4 bA b.length bc (encNs b), dRow 4 tA t.length tc (encNs t)]) 3 ?_ ?_
  · skip
    rcases Bool.eq_false_or_eq_true (((heavyB 100 a) || (heavyB 100 b))) with h53 | h53
    · skip
      have hq54 := h53
      try simp only [Bool.or_eq_true, Bool.and_eq_true, Bool.not_eq_true', Bool.not_eq_false', decide_eq_true_eq, decide_eq_false_iff_not, Bool.or_eq_false_iff, Bool.and_eq_false_iff] at hq54
      have hR55 := hR52.setb (d := 19) (b := true) rfl h53
      refine s_pass hR55 rfl (by decide) (want_f hR55 rfl rfl rfl (by decide) rfl rfl) (fun a56 hR57 => ?_)
      refine s_pass hR57 rfl (by decide) (want_f hR57 rfl rfl rfl (by decide) rfl rfl) (fun a58 hR59 => ?_)
      refine r_pick_t (st_listV rfl) hR59 rfl rfl rfl rfl (by decide) (fun a60 hR61 => ?_)
      refine wpList_nil ?_
      exact x_then_n ⟨(Reg.cons hR61 (Reg.cons hR61 (Reg.cons hR61 (Reg.cons hR61 (Reg.consb hR61 (hR61.nil) rfl (by first | rfl | (simp only [h53, Bool.true_and, Bool.and_true, Bool.false_and, Bool.and_false, Bool.true_or, Bool.or_true, Bool.false_or, Bool.or_false, Bool.not_true, Bool.not_false, if_true, ite_true, ite_false, Bool.false_eq_true]; done) | (simp [h53]; done) | (simp [h53]; omega))) rfl) rfl) rfl) rfl), hS50⟩
    · skip
      have h62 := or_fl h53
      obtain ⟨hla, hsa⟩ := heavy_false h62
      have h63 := or_fr h53
      obtain ⟨hlb, hsb⟩ := heavy_false h63
      have hR64 := hR52.setb (d := 19) (b := false) rfl h53
      refine r_move (st_listV_w (want_t hR64 rfl rfl rfl (by decide) rfl)) hR64 rfl rfl rfl (by decide) (fun a65 hR66 => ?_)
      have hS67 : St w0 Z none_ w48 [] [dShapes, dRow 4 aA a.length ac (encNs a), dRow 4 bA b.length bc (encNs b), dRow 4 tA t.length tc (encNs t)] := hS50
      refine k_call (xs := [.tmp 20]) (st_list_w (want_t hR66 rfl rfl rfl (by decide) rfl)) hR66 rfl rfl rfl (by decide) ok34 (heavy13_calls _ (imm Z w0 [] _) (fun _ h => h.1) tA tc t (hS67.get (i := 3) rfl)) ?_
      rintro e74 w69 ⟨rfl, hf72⟩
      have hS75 := hS67.below hf72.below
      refine ⟨_, rfl, fun a68 hR70 => ?_⟩
      refine r_pick_f (st_listV rfl) hR70 rfl rfl rfl rfl (by decide) (fun a76 hR77 => ?_)
      refine wpList_nil ?_
      exact x_then_n ⟨(Reg.cons hR77 (Reg.cons hR77 (Reg.cons hR77 (Reg.cons hR77 (Reg.consb hR77 (hR77.nil) rfl (by first | rfl | (simp only [h53, Bool.true_and, Bool.and_true, Bool.false_and, Bool.and_false, Bool.true_or, Bool.or_true, Bool.false_or, Bool.or_false, Bool.not_true, Bool.not_false, if_true, ite_true, ite_false, Bool.false_eq_true]; done) | (simp [h53]; done) | (simp [h53]; omega))) rfl) rfl) rfl) rfl), hS75⟩
  rintro a78 w79 ⟨hR80, hS81⟩
  refine r_move (st_listV rfl) hR80 rfl rfl rfl (by decide) (fun a82 hR83 => ?_)
  refine l_join (fun ga gw => Reg ga 94 [(0, .slice aA a.length ac), (1, .slice bA b.length bc), (2, .slice tA t.length tc), (6, .bool false), (26, .bool ((((heavyB 100 a) || (heavyB 100 b)) || (heavyB 100 t)) || (!true)))] ∧ St w0 Z none_ gw [] [dShapes, dRow 4 aA a.length ac (encNs a), dRow 4 bA b.length bc (encNs b), dRow 4 tA t.length tc (encNs t)]) 3 ?_ ?_
  · skip
    rcases Bool.eq_false_or_eq_true ((((heavyB 100 a) || (heavyB 100 b)) || (heavyB 100 t))) with h84 | h84
    · skip
      have hq85 := h84
      try simp only [Bool.or_eq_true, Bool.and_eq_true, Bool.not_eq_true', Bool.not_eq_false', decide_eq_true_eq, decide_eq_false_iff_not, Bool.or_eq_false_iff, Bool.and_eq_false_iff] at hq85
      have hR86 := hR83.setb (d := 23) (b := true) rfl h84
      refine s_pass hR86 rfl (by decide) (want_f hR86 rfl rfl rfl (by decide) rfl rfl) (fun a87 hR88 => ?_)
      refine s_pass hR88 rfl (by decide) (want_f hR88 rfl rfl rfl (by decide) rfl rfl) (fun a89 hR90 => ?_)
      refine r_pick_t (st_listV rfl) hR90 rfl rfl rfl rfl (by decide) (fun a91 hR92 => ?_)
      refine wpList_nil ?_
      exact x_then_n ⟨(Reg.cons hR92 (Reg.cons hR92 (Reg.cons hR92 (Reg.cons hR92 (Reg.consb hR92 (hR92.nil) rfl (by first | rfl | (simp only [h84, Bool.true_and, Bool.and_true, Bool.false_and, Bool.and_false, Bool.true_or, Bool.or_true, Bool.false_or, Bool.or_false, Bool.not_true, Bool.not_false, if_true, ite_true, ite_false, Bool.false_eq_true]; done) | (simp [h84]; done) | (simp [h84]; omega))) rfl) rfl) rfl) rfl), hS81⟩
    · skip
      have h93 := or_fl h84
      have h94 := or_fl h93
      obtain ⟨hla, hsa⟩ := heavy_false h94
      have h95 := or_fr h93
      obtain ⟨hlb, hsb⟩ := heavy_false h95
      have h96 := or_fr h84
      obtain ⟨hlt, hst⟩ := heavy_false h96
      have hR97 := hR83.setb (d := 23) (b := false) rfl h84
      have hS98 : St w0 Z none_ w79 [] [dShapes, dRow 4 aA a.length ac (encNs a), dRow 4 bA b.length bc (encNs b), dRow 4 tA t.length tc (encNs t)] := hS81
      refine k_call (xs := []) (st_list_w (want_t hR97 rfl rfl rfl (by decide) rfl)) hR97 rfl rfl rfl (by decide) ok35 (shown13_calls _ (imm Z w0 [] _) (fun _ h => h.1) (hS98.get (i := 0) rfl)) ?_
      rintro e105 w100 ⟨rfl, hf103⟩
      have hS106 := hS98.below hf103.below
      refine ⟨_, rfl, fun a99 hR101 => ?_⟩
      refine r_not (st_listV_w (want_t hR101 rfl rfl rfl (by decide) rfl)) hR101 rfl rfl rfl (by decide) (fun a107 hR108 => ?_)
      refine r_pick_f (st_listV rfl) hR108 rfl rfl rfl rfl (by decide) (fun a109 hR110 => ?_)
      refine wpList_nil ?_
      exact x_then_n ⟨(Reg.cons hR110 (Reg.cons hR110 (Reg.cons hR110 (Reg.cons hR110 (Reg.consb hR110 (hR110.nil) rfl (by first | rfl | (simp only [h84, Bool.true_and, Bool.and_true, Bool.false_and, Bool.and_false, Bool.true_or, Bool.or_true, Bool.false_or, Bool.or_false, Bool.not_true, Bool.not_false, if_true, ite_true, ite_false, Bool.false_eq_true]; done) | (simp [h84]; done) | (simp [h84]; omega))) rfl) rfl) rfl) rfl), hS106⟩
  rintro a111 w112 ⟨hR113, hS114⟩
  refine wpList_nil ?_
  refine x_then_n (hK11 _ _ ?_)
  rcases Bool.eq_false_or_eq_true (((((heavyB 100 a) || (heavyB 100 b)) || (heavyB 100 t)) || (!true))) with h115 | h115
  · skip
    have hq116 := h115
    try simp only [Bool.or_eq_true, Bool.and_eq_true, Bool.not_eq_true', Bool.not_eq_false', decide_eq_true_eq, decide_eq_false_iff_not, Bool.or_eq_false_iff, Bool.and_eq_false_iff] at hq116
    have hR117 := hR113.setb (d := 26) (b := true) rfl h115
    refine wp_cond_true (hR117.ev rfl) ?_
    refine wp_seq_k (fun K118 hK119 => ?_)
    refine c_region ?_
    have hS120 : St w0 Z none_ w112 [] [dShapes, dRow 4 aA a.length ac (encNs a), dRow 4 bA b.length bc (encNs b), dRow 4 tA t.length tc (encNs t)] := hS114
    refine k_call (xs := []) (st_list rfl) hR117 rfl rfl rfl (by decide) ok35 (shown13_calls _ (imm Z w0 [] _) (fun _ h => h.1) (hS120.get (i := 0) rfl)) ?_
    rintro e127 w122 ⟨rfl, hf125⟩
    have hS128 := hS120.below hf125.below
    refine ⟨_, rfl, fun a121 hR123 => ?_⟩
    refine r_assign (st_listV rfl) hR123 rfl rfl rfl (by decide) (fun a129 hR130 => ?_)
    refine wpList_nil ?_
    refine x_then_n (hK119 _ _ ?_)
    refine wp_ret ?_
    refine x_then_r ?_
    refine e_ret1 hR130 rfl rfl ?_
    refine ⟨?_, hS128.fr⟩
    exact congrArg Ending.returned (ret_b (by first | rfl | (simp [chk_tick, chk_nat, chk_v3, root_tick, root_nat, root_v3, h115]; done) | (simp [chk_tick, chk_nat, chk_v3, root_tick, root_nat, root_v3, h115]; exact tick_only (by assumption)) | (by_cases za : chk a = 0 <;> by_cases zb : chk b = 0 <;> simp [chk_tick, za, zb] <;> simp_all) | (simp_all [chk_tick, chk_nat, chk_v3, root_tick, root_nat, root_v3]; done)))
  · skip
    have h131 := or_fl h115
    have h132 := or_fl h131
    have h133 := or_fl h132
    obtain ⟨hla, hsa⟩ := heavy_false h133
    have h134 := or_fr h132
    obtain ⟨hlb, hsb⟩ := heavy_false h134
    have h135 := or_fr h131
    obtain ⟨hlt, hst⟩ := heavy_false h135
    have h136 := or_fr h115
    have h137 := not_f h136
    have hR138 := hR113.setb (d := 26) (b := false) rfl h115
    refine wp_cond_false (hR138.ev rfl) ?_
    refine wp_skip ?_
    refine x_then_n (hK9 _ _ ?_)
    refine wp_seq_k (fun K139 hK140 => ?_)
    refine c_region ?_
    refine m_build (ps := [(0, .const (.int .i64 29))]) (v := .agg #[.int .i64 29, .int .i64 0, .int .i64 0, .string (⟨#[]⟩ : ByteArray)]) (st_listV rfl) hR138 rfl rfl rfl (fun _ => by kernel_rfl) (by decide) (fun a141 hR142 => ?_)
    refine m_buildSlice (ps := [(0, .tmp 28)]) (cs := [.int .i64 29, .int .i64 0, .int .i64 0, .string (⟨#[]⟩ : ByteArray)]) (st_listV rfl) hR142 hS114 rfl rfl rfl Tryd.underlying22 zi32 rfl rfl (by kernel_rfl) rfl (by decide) (fun a143 w144 g145 hR146 hS147 => ?_)
    refine r_assign (st_listV rfl) hR146 rfl rfl rfl (by decide) (fun a148 hR149 => ?_)
    refine wpList_nil ?_
    refine x_then_n (hK140 _ _ ?_)
    refine wp_seq_k (fun K150 hK151 => ?_)
    refine c_region ?_
    refine r_move (st_listV rfl) hR149 rfl rfl rfl (by decide) (fun a152 hR153 => ?_)
    refine r_move (st_listV rfl) hR153 rfl rfl rfl (by decide) (fun a154 hR155 => ?_)
    refine r_move (st_listV rfl) hR155 rfl rfl rfl (by decide) (fun a156 hR157 => ?_)
    have hS158 : St w0 Z none_ w144 [.row (some ⟨g145, 0, none⟩) 1 1 32 4 (encNs ([(⟨29, 0, 0, (⟨#[]⟩ : ByteArray)⟩ : Nd)]))] [dShapes, dRow 4 aA a.length ac (encNs a), dRow 4 bA b.length bc (encNs b), dRow 4 tA t.length tc (encNs t)] := hS147
    have hc162 := own_cap (hS158.res (i := 0) rfl)
    obtain ⟨hS159, hrow160⟩ := hS158.row_data (i := 0) rfl (fun _ h => h)
    have hS161 := hS159.data (dRow 4 (some ⟨g145, 0, none⟩) 1 1 (encNs ([(⟨29, 0, 0, (⟨#[]⟩ : ByteArray)⟩ : Nd)]))) ⟨hc162, hrow160⟩
    refine k_call (xs := [.tmp 31, .tmp 32, .tmp 33]) (st_list rfl) hR157 rfl rfl rfl (by decide) ok36 (crule0_calls _ (imm Z w0 [] _) (fun _ h => h.1) aA ac a bA bc b (some ⟨g145, 0, none⟩) 1 ([(⟨29, 0, 0, (⟨#[]⟩ : ByteArray)⟩ : Nd)]) (hS161.get (i := 0) rfl) (hS161.get (i := 1) rfl) (hS161.get (i := 2) rfl) (hS161.get (i := 4) rfl) (by first | assumption | exact sml_tick) (by first | assumption | exact sml_tick) (by first | assumption | exact sml_tick) (by first | omega | (simp; done)) (by first | omega | (simp; done)) (by first | omega | (simp; done)) (by first | exact (fun _ _ _ h => absurd rfl h) | exact (fun _ _ _ _ => ⟨by omega, rfl⟩))) ?_
    rintro e172 w164 ⟨A168, c169, rfl, hf167, hd170⟩
    have hS173 := hS161.below hf167.below
    have hS174 := hS173.data (dRow 4 A168 ((if ¬ (if ¬ chk a = 0 then chk a else if ¬ chk b = 0 then chk b else chk ([(⟨29, 0, 0, (⟨#[]⟩ : ByteArray)⟩ : Nd)])) = 0 then [] else if (nth ([(⟨29, 0, 0, (⟨#[]⟩ : ByteArray)⟩ : Nd)]) (([(⟨29, 0, 0, (⟨#[]⟩ : ByteArray)⟩ : Nd)]).length - 1)).K = 29 then [(⟨29, 0, 0, ⟨#[]⟩⟩ : Nd)] else ([(⟨29, 0, 0, (⟨#[]⟩ : ByteArray)⟩ : Nd)])).length) c169 (encNs (if ¬ (if ¬ chk a = 0 then chk a else if ¬ chk b = 0 then chk b else chk ([(⟨29, 0, 0, (⟨#[]⟩ : ByteArray)⟩ : Nd)])) = 0 then [] else if (nth ([(⟨29, 0, 0, (⟨#[]⟩ : ByteArray)⟩ : Nd)]) (([(⟨29, 0, 0, (⟨#[]⟩ : ByteArray)⟩ : Nd)]).length - 1)).K = 29 then [(⟨29, 0, 0, ⟨#[]⟩⟩ : Nd)] else ([(⟨29, 0, 0, (⟨#[]⟩ : ByteArray)⟩ : Nd)])))) ⟨hd170.1, hd170.2.mono (fun _ hk => ⟨nxt_imm hS161 hk, rfl⟩)⟩
    refine ⟨_, rfl, fun a163 hR165 => ?_⟩
    refine r_move (st_listV rfl) hR165 rfl rfl rfl (by decide) (fun a175 hR176 => ?_)
    refine r_extract (st_listV rfl) hR176 rfl rfl rfl rfl (by decide) (fun a177 hR178 => ?_)
    refine r_extract (st_listV rfl) hR178 rfl rfl rfl rfl (by decide) (fun a179 hR180 => ?_)
    refine r_assign (st_listV rfl) hR180 rfl rfl rfl (by decide) (fun a181 hR182 => ?_)
    refine r_assign (st_listV rfl) hR182 rfl rfl rfl (by decide) (fun a183 hR184 => ?_)
    refine wpList_nil ?_
    refine x_then_n (hK151 _ _ ?_)
    refine wp_seq_k (fun K185 hK186 => ?_)
    refine wp_seq_k (fun K187 hK188 => ?_)
    refine c_region ?_
    refine r_move (st_listV rfl) hR184 rfl rfl rfl (by decide) (fun a189 hR190 => ?_)
    have hS191 : St w0 Z none_ w164 [] [dShapes, dRow 4 aA a.length ac (encNs a), dRow 4 bA b.length bc (encNs b), dRow 4 tA t.length tc (encNs t), dRow 4 (some ⟨g145, 0, none⟩) 1 1 (encNs ([(⟨29, 0, 0, (⟨#[]⟩ : ByteArray)⟩ : Nd)])), dRow 4 A168 ((if ¬ (if ¬ chk a = 0 then chk a else if ¬ chk b = 0 then chk b else chk ([(⟨29, 0, 0, (⟨#[]⟩ : ByteArray)⟩ : Nd)])) = 0 then [] else if (nth ([(⟨29, 0, 0, (⟨#[]⟩ : ByteArray)⟩ : Nd)]) (([(⟨29, 0, 0, (⟨#[]⟩ : ByteArray)⟩ : Nd)]).length - 1)).K = 29 then [(⟨29, 0, 0, ⟨#[]⟩⟩ : Nd)] else ([(⟨29, 0, 0, (⟨#[]⟩ : ByteArray)⟩ : Nd)])).length) c169 (encNs (if ¬ (if ¬ chk a = 0 then chk a else if ¬ chk b = 0 then chk b else chk ([(⟨29, 0, 0, (⟨#[]⟩ : ByteArray)⟩ : Nd)])) = 0 then [] else if (nth ([(⟨29, 0, 0, (⟨#[]⟩ : ByteArray)⟩ : Nd)]) (([(⟨29, 0, 0, (⟨#[]⟩ : ByteArray)⟩ : Nd)]).length - 1)).K = 29 then [(⟨29, 0, 0, ⟨#[]⟩⟩ : Nd)] else ([(⟨29, 0, 0, (⟨#[]⟩ : ByteArray)⟩ : Nd)])))] := hS174
    refine k_call (xs := [.tmp 37]) (st_list rfl) hR190 rfl rfl rfl (by decide) ok19 (rcheck_calls _ (imm Z w0 [] _) (fun _ h => h.1) aA ac a (hS191.get (i := 1) rfl) (by first | assumption | omega | (simp; done) | (simp; omega)) (by first | assumption | omega | (simp; done) | (simp; omega))) ?_
    rintro e198 w193 ⟨rfl, hf196⟩
    have hS199 := hS191.below hf196.below
    refine ⟨_, rfl, fun a192 hR194 => ?_⟩
    refine r_neq (st_listV rfl) hR194 rfl rfl rfl rfl (by decide) (fun a200 hR201 => ?_)
    refine r_move (st_listV rfl) hR201 rfl rfl rfl (by decide) (fun a202 hR203 => ?_)
    refine l_join (fun ga gw => Reg ga 94 [(0, .slice aA a.length ac), (2, .slice tA t.length tc), (6, .bool false), (7, .slice (some ⟨g145, 0, none⟩) 1 1), (8, .slice A168 ((if ¬ (if ¬ chk a = 0 then chk a else if ¬ chk b = 0 then chk b else chk ([(⟨29, 0, 0, (⟨#[]⟩ : ByteArray)⟩ : Nd)])) = 0 then [] else if (nth ([(⟨29, 0, 0, (⟨#[]⟩ : ByteArray)⟩ : Nd)]) (([(⟨29, 0, 0, (⟨#[]⟩ : ByteArray)⟩ : Nd)]).length - 1)).K = 29 then [(⟨29, 0, 0, ⟨#[]⟩⟩ : Nd)] else ([(⟨29, 0, 0, (⟨#[]⟩ : ByteArray)⟩ : Nd)])).length) c169), (9, .int .i64 ((if ¬ chk a = 0 then chk a else if ¬ chk b = 0 then chk b else chk ([(⟨29, 0, 0, (⟨#[]⟩ : ByteArray)⟩ : Nd)])))), (44, .bool ((!(decide (((chk a)) = 0))) || (!(decide (((chk b)) = 0)))))] ∧ St w0 Z none_ gw [] [dShapes, dRow 4 aA a.length ac (encNs a), dRow 4 bA b.length bc (encNs b), dRow 4 tA t.length tc (encNs t), dRow 4 (some ⟨g145, 0, none⟩) 1 1 (encNs ([(⟨29, 0, 0, (⟨#[]⟩ : ByteArray)⟩ : Nd)])), dRow 4 A168 ((if ¬ (if ¬ chk a = 0 then chk a else if ¬ chk b = 0 then chk b else chk ([(⟨29, 0, 0, (⟨#[]⟩ : ByteArray)⟩ : Nd)])) = 0 then [] else if (nth ([(⟨29, 0, 0, (⟨#[]⟩ : ByteArray)⟩ : Nd)]) (([(⟨29, 0, 0, (⟨#[]⟩ : ByteArray)⟩ : Nd)]).length - 1)).K = 29 then [(⟨29, 0, 0, ⟨#[]⟩⟩ : Nd)] else ([(⟨29, 0, 0, (⟨#[]⟩ : ByteArray)⟩ : Nd)])).length) c169 (encNs (if ¬ (if ¬ chk a = 0 then chk a else if ¬ chk b = 0 then chk b else chk ([(⟨29, 0, 0, (⟨#[]⟩ : ByteArray)⟩ : Nd)])) = 0 then [] else if (nth ([(⟨29, 0, 0, (⟨#[]⟩ : ByteArray)⟩ : Nd)]) (([(⟨29, 0, 0, (⟨#[]⟩ : ByteArray)⟩ : Nd)]).length - 1)).K = 29 then [(⟨29, 0, 0, ⟨#[]⟩⟩ : Nd)] else ([(⟨29, 0, 0, (⟨#[]⟩ : ByteArray)⟩ : Nd)])))]) 4 ?_ ?_
    · skip
      rcases Decidable.em (((chk a)) = 0) with h204 | h204
      · skip
        have hR205 := hR203.setb (d := 40) (b := false) rfl (by rw [(decide_eq_true h204)]; rfl)
        refine r_move (st_listV_w (want_t hR205 rfl rfl rfl (by decide) rfl)) hR205 rfl rfl rfl (by decide) (fun a206 hR207 => ?_)
        have hS208 : St w0 Z none_ w193 [] [dShapes, dRow 4 aA a.length ac (encNs a), dRow 4 bA b.length bc (encNs b), dRow 4 tA t.length tc (encNs t), dRow 4 (some ⟨g145, 0, none⟩) 1 1 (encNs ([(⟨29, 0, 0, (⟨#[]⟩ : ByteArray)⟩ : Nd)])), dRow 4 A168 ((if ¬ (if ¬ chk a = 0 then chk a else if ¬ chk b = 0 then chk b else chk ([(⟨29, 0, 0, (⟨#[]⟩ : ByteArray)⟩ : Nd)])) = 0 then [] else if (nth ([(⟨29, 0, 0, (⟨#[]⟩ : ByteArray)⟩ : Nd)]) (([(⟨29, 0, 0, (⟨#[]⟩ : ByteArray)⟩ : Nd)]).length - 1)).K = 29 then [(⟨29, 0, 0, ⟨#[]⟩⟩ : Nd)] else ([(⟨29, 0, 0, (⟨#[]⟩ : ByteArray)⟩ : Nd)])).length) c169 (encNs (if ¬ (if ¬ chk a = 0 then chk a else if ¬ chk b = 0 then chk b else chk ([(⟨29, 0, 0, (⟨#[]⟩ : ByteArray)⟩ : Nd)])) = 0 then [] else if (nth ([(⟨29, 0, 0, (⟨#[]⟩ : ByteArray)⟩ : Nd)]) (([(⟨29, 0, 0, (⟨#[]⟩ : ByteArray)⟩ : Nd)]).length - 1)).K = 29 then [(⟨29, 0, 0, ⟨#[]⟩⟩ : Nd)] else ([(⟨29, 0, 0, (⟨#[]⟩ : ByteArray)⟩ : Nd)])))] := hS199
        refine k_call (xs := [.tmp 41]) (st_list_w (want_t hR207 rfl rfl rfl (by decide) rfl)) hR207 rfl rfl rfl (by decide) ok19 (rcheck_calls _ (imm Z w0 [] _) (fun _ h => h.1) bA bc b (hS208.get (i := 2) rfl) (by first | assumption | omega | (simp; done) | (simp; omega)) (by first | assumption | omega | (simp; done) | (simp; omega))) ?_
        rintro e215 w210 ⟨rfl, hf213⟩
        have hS216 := hS208.below hf213.below
        refine ⟨_, rfl, fun a209 hR211 => ?_⟩
        refine r_neq (st_listV_w (want_t hR211 rfl rfl rfl (by decide) rfl)) hR211 rfl rfl rfl rfl (by decide) (fun a217 hR218 => ?_)
        refine r_pick_f (st_listV rfl) hR218 rfl rfl rfl rfl (by decide) (fun a219 hR220 => ?_)
        refine wpList_nil ?_
        exact x_then_n ⟨(Reg.cons hR220 (Reg.cons hR220 (Reg.cons hR220 (Reg.cons hR220 (Reg.cons hR220 (Reg.cons hR220 (Reg.consb hR220 (hR220.nil) rfl (by first | rfl | (simp only [decide_eq_true h204, if_pos h204, Bool.true_and, Bool.and_true, Bool.false_and, Bool.and_false, Bool.true_or, Bool.or_true, Bool.false_or, Bool.or_false, Bool.not_true, Bool.not_false, if_true, ite_true, ite_false, Bool.false_eq_true]; done) | (simp [h204]; done) | (simp [h204]; omega))) rfl) rfl) rfl) rfl) rfl) rfl), hS216⟩
      · skip
        have hR221 := hR203.setb (d := 40) (b := true) rfl (by rw [(decide_eq_false h204)]; rfl)
        refine s_pass hR221 rfl (by decide) (want_f hR221 rfl rfl rfl (by decide) rfl rfl) (fun a222 hR223 => ?_)
        refine s_pass hR223 rfl (by decide) (want_f hR223 rfl rfl rfl (by decide) rfl rfl) (fun a224 hR225 => ?_)
        refine s_pass hR225 rfl (by decide) (want_f hR225 rfl rfl rfl (by decide) rfl rfl) (fun a226 hR227 => ?_)
        refine r_pick_t (st_listV rfl) hR227 rfl rfl rfl rfl (by decide) (fun a228 hR229 => ?_)
        refine wpList_nil ?_
        exact x_then_n ⟨(Reg.cons hR229 (Reg.cons hR229 (Reg.cons hR229 (Reg.cons hR229 (Reg.cons hR229 (Reg.cons hR229 (Reg.consb hR229 (hR229.nil) rfl (by first | rfl | (simp only [decide_eq_false h204, if_neg h204, Bool.true_and, Bool.and_true, Bool.false_and, Bool.and_false, Bool.true_or, Bool.or_true, Bool.false_or, Bool.or_false, Bool.not_true, Bool.not_false, if_true, ite_true, ite_false, Bool.false_eq_true]; done) | (simp [h204]; done) | (simp [h204]; omega))) rfl) rfl) rfl) rfl) rfl) rfl), hS199⟩
    rintro a230 w231 ⟨hR232, hS233⟩
    refine wpList_nil ?_
    refine x_then_n (hK188 _ _ ?_)
    rcases Bool.eq_false_or_eq_true (((!(decide (((chk a)) = 0))) || (!(decide (((chk b)) = 0))))) with h234 | h234
    · skip
      have hq235 := h234
      try simp only [Bool.or_eq_true, Bool.and_eq_true, Bool.not_eq_true', Bool.not_eq_false', decide_eq_true_eq, decide_eq_false_iff_not, Bool.or_eq_false_iff, Bool.and_eq_false_iff] at hq235
      have hR236 := hR232.setb (d := 44) (b := true) rfl h234
      refine wp_cond_true (hR236.ev rfl) ?_
      refine wp_seq_k (fun K237 hK238 => ?_)
      refine c_region ?_
      refine r_move (st_listV rfl) hR236 rfl rfl rfl (by decide) (fun a239 hR240 => ?_)
      refine r_neq (st_listV rfl) hR240 rfl rfl rfl rfl (by decide) (fun a241 hR242 => ?_)
      refine r_move (st_listV rfl) hR242 rfl rfl rfl (by decide) (fun a243 hR244 => ?_)
      refine l_join (fun ga gw => Reg ga 94 [(0, .slice aA a.length ac), (2, .slice tA t.length tc), (6, .bool false), (7, .slice (some ⟨g145, 0, none⟩) 1 1), (8, .slice A168 ((if ¬ (if ¬ chk a = 0 then chk a else if ¬ chk b = 0 then chk b else chk ([(⟨29, 0, 0, (⟨#[]⟩ : ByteArray)⟩ : Nd)])) = 0 then [] else if (nth ([(⟨29, 0, 0, (⟨#[]⟩ : ByteArray)⟩ : Nd)]) (([(⟨29, 0, 0, (⟨#[]⟩ : ByteArray)⟩ : Nd)]).length - 1)).K = 29 then [(⟨29, 0, 0, ⟨#[]⟩⟩ : Nd)] else ([(⟨29, 0, 0, (⟨#[]⟩ : ByteArray)⟩ : Nd)])).length) c169), (9, .int .i64 ((if ¬ chk a = 0 then chk a else if ¬ chk b = 0 then chk b else chk ([(⟨29, 0, 0, (⟨#[]⟩ : ByteArray)⟩ : Nd)])))), (51, .bool ((!(decide (((if ¬ chk a = 0 then chk a else if ¬ chk b = 0 then chk b else chk ([(⟨29, 0, 0, (⟨#[]⟩ : ByteArray)⟩ : Nd)]))) = 0))) && (decide ((((if ¬ (if ¬ chk a = 0 then chk a else if ¬ chk b = 0 then chk b else chk ([(⟨29, 0, 0, (⟨#[]⟩ : ByteArray)⟩ : Nd)])) = 0 then [] else if (nth ([(⟨29, 0, 0, (⟨#[]⟩ : ByteArray)⟩ : Nd)]) (([(⟨29, 0, 0, (⟨#[]⟩ : ByteArray)⟩ : Nd)]).length - 1)).K = 29 then [(⟨29, 0, 0, ⟨#[]⟩⟩ : Nd)] else ([(⟨29, 0, 0, (⟨#[]⟩ : ByteArray)⟩ : Nd)])).length : Nat) : Int) = 0))))] ∧ St w0 Z none_ gw [] [dShapes, dRow 4 aA a.length ac (encNs a), dRow 4 bA b.length bc (encNs b), dRow 4 tA t.length tc (encNs t), dRow 4 (some ⟨g145, 0, none⟩) 1 1 (encNs ([(⟨29, 0, 0, (⟨#[]⟩ : ByteArray)⟩ : Nd)])), dRow 4 A168 ((if ¬ (if ¬ chk a = 0 then chk a else if ¬ chk b = 0 then chk b else chk ([(⟨29, 0, 0, (⟨#[]⟩ : ByteArray)⟩ : Nd)])) = 0 then [] else if (nth ([(⟨29, 0, 0, (⟨#[]⟩ : ByteArray)⟩ : Nd)]) (([(⟨29, 0, 0, (⟨#[]⟩ : ByteArray)⟩ : Nd)]).length - 1)).K = 29 then [(⟨29, 0, 0, ⟨#[]⟩⟩ : Nd)] else ([(⟨29, 0, 0, (⟨#[]⟩ : ByteArray)⟩ : Nd)])).length) c169 (encNs (if ¬ (if ¬ chk a = 0 then chk a else if ¬ chk b = 0 then chk b else chk ([(⟨29, 0, 0, (⟨#[]⟩ : ByteArray)⟩ : Nd)])) = 0 then [] else if (nth ([(⟨29, 0, 0, (⟨#[]⟩ : ByteArray)⟩ : Nd)]) (([(⟨29, 0, 0, (⟨#[]⟩ : ByteArray)⟩ : Nd)]).length - 1)).K = 29 then [(⟨29, 0, 0, ⟨#[]⟩⟩ : Nd)] else ([(⟨29, 0, 0, (⟨#[]⟩ : ByteArray)⟩ : Nd)])))]) 4 ?_ ?_
      · skip
        rcases Decidable.em (((if ¬ chk a = 0 then chk a else if ¬ chk b = 0 then chk b else chk ([(⟨29, 0, 0, (⟨#[]⟩ : ByteArray)⟩ : Nd)]))) = 0) with h245 | h245
        · skip
          have hR246 := hR244.setb (d := 47) (b := false) rfl (by rw [(decide_eq_true h245)]; rfl)
          refine s_pass hR246 rfl (by decide) (want_f hR246 rfl rfl rfl (by decide) rfl rfl) (fun a247 hR248 => ?_)
          refine s_pass hR248 rfl (by decide) (want_f hR248 rfl rfl rfl (by decide) rfl rfl) (fun a249 hR250 => ?_)
          refine s_pass hR250 rfl (by decide) (want_f hR250 rfl rfl rfl (by decide) rfl rfl) (fun a251 hR252 => ?_)
          refine r_pick_f (st_listV rfl) hR252 rfl rfl rfl rfl (by decide) (fun a253 hR254 => ?_)
          refine wpList_nil ?_
          exact x_then_n ⟨(Reg.cons hR254 (Reg.cons hR254 (Reg.cons hR254 (Reg.cons hR254 (Reg.cons hR254 (Reg.cons hR254 (Reg.consb hR254 (hR254.nil) rfl (by first | rfl | (simp only [decide_eq_true h245, if_pos h245, Bool.true_and, Bool.and_true, Bool.false_and, Bool.and_false, Bool.true_or, Bool.or_true, Bool.false_or, Bool.or_false, Bool.not_true, Bool.not_false, if_true, ite_true, ite_false, Bool.false_eq_true]; done) | (simp [h245]; done) | (simp [h245]; omega))) rfl) rfl) rfl) rfl) rfl) rfl), hS233⟩
        · skip
          have hR255 := hR244.setb (d := 47) (b := true) rfl (by rw [(decide_eq_false h245)]; rfl)
          refine r_move (st_listV_w (want_t hR255 rfl rfl rfl (by decide) rfl)) hR255 rfl rfl rfl (by decide) (fun a256 hR257 => ?_)
          refine r_len (st_listV_w (want_t hR257 rfl rfl rfl (by decide) rfl)) hR257 rfl rfl rfl rfl Tryd.underlying22 (by decide) (fun a258 hR259 => ?_)
          refine r_eql (st_listV_w (want_t hR259 rfl rfl rfl (by decide) rfl)) hR259 rfl rfl rfl rfl (by decide) (fun a260 hR261 => ?_)
          refine r_pick_t (st_listV rfl) hR261 rfl rfl rfl rfl (by decide) (fun a262 hR263 => ?_)
          refine wpList_nil ?_
          exact x_then_n ⟨(Reg.cons hR263 (Reg.cons hR263 (Reg.cons hR263 (Reg.cons hR263 (Reg.cons hR263 (Reg.cons hR263 (Reg.consb hR263 (hR263.nil) rfl (by first | rfl | (simp only [decide_eq_false h245, if_neg h245, Bool.true_and, Bool.and_true, Bool.false_and, Bool.and_false, Bool.true_or, Bool.or_true, Bool.false_or, Bool.or_false, Bool.not_true, Bool.not_false, if_true, ite_true, ite_false, Bool.false_eq_true]; done) | (simp [h245]; done) | (simp [h245]; omega))) rfl) rfl) rfl) rfl) rfl) rfl), hS233⟩
      rintro a264 w265 ⟨hR266, hS267⟩
      refine r_assign (st_listV rfl) hR266 rfl rfl rfl (by decide) (fun a268 hR269 => ?_)
      refine wpList_nil ?_
      refine x_then_n (hK238 _ _ ?_)
      refine wp_ret ?_
      refine x_then_r ?_
      refine e_ret1 hR269 rfl rfl ?_
      refine ⟨?_, hS267.fr⟩
      exact congrArg Ending.returned (ret_b (by first | rfl | (simp [chk_tick, chk_nat, chk_v3, root_tick, root_nat, root_v3, h115, h133, h134, h135, h137, h234]; done) | (simp [chk_tick, chk_nat, chk_v3, root_tick, root_nat, root_v3, h115, h133, h134, h135, h137, h234]; exact tick_only (by assumption)) | (by_cases za : chk a = 0 <;> by_cases zb : chk b = 0 <;> simp [chk_tick, za, zb] <;> simp_all) | (simp_all [chk_tick, chk_nat, chk_v3, root_tick, root_nat, root_v3]; done)))
    · skip
      have h270 := or_fl h234
      have h271 := not_f h270
      have h272 := of_decide_eq_true h271
      have hpa := chk_pos h272
      have h273 := or_fr h234
      have h274 := not_f h273
      have h275 := of_decide_eq_true h274
      have hpb := chk_pos h275
      have hR276 := hR232.setb (d := 44) (b := false) rfl h234
      refine wp_cond_false (hR276.ev rfl) ?_
      refine wp_skip ?_
      refine x_then_n (hK186 _ _ ?_)
      refine wp_seq_k (fun K277 hK278 => ?_)
      refine wp_seq_k (fun K279 hK280 => ?_)
      refine c_region ?_
      refine r_move (st_listV rfl) hR276 rfl rfl rfl (by decide) (fun a281 hR282 => ?_)
      refine r_neq (st_listV rfl) hR282 rfl rfl rfl rfl (by decide) (fun a283 hR284 => ?_)
      refine r_move (st_listV rfl) hR284 rfl rfl rfl (by decide) (fun a285 hR286 => ?_)
      refine l_join (fun ga gw => Reg ga 94 [(0, .slice aA a.length ac), (2, .slice tA t.length tc), (6, .bool false), (59, .bool ((!(decide (((if ¬ chk a = 0 then chk a else if ¬ chk b = 0 then chk b else chk ([(⟨29, 0, 0, (⟨#[]⟩ : ByteArray)⟩ : Nd)]))) = 0))) || (!(decide ((if ¬ (if ¬ chk a = 0 then chk a else if ¬ chk b = 0 then chk b else chk ([(⟨29, 0, 0, (⟨#[]⟩ : ByteArray)⟩ : Nd)])) = 0 then [] else if (nth ([(⟨29, 0, 0, (⟨#[]⟩ : ByteArray)⟩ : Nd)]) (([(⟨29, 0, 0, (⟨#[]⟩ : ByteArray)⟩ : Nd)]).length - 1)).K = 29 then [(⟨29, 0, 0, ⟨#[]⟩⟩ : Nd)] else ([(⟨29, 0, 0, (⟨#[]⟩ : ByteArray)⟩ : Nd)])) = ([(⟨29, 0, 0, (⟨#[]⟩ : ByteArray)⟩ : Nd)]))))))] ∧ St w0 Z none_ gw [] [dShapes, dRow 4 aA a.length ac (encNs a), dRow 4 bA b.length bc (encNs b), dRow 4 tA t.length tc (encNs t), dRow 4 (some ⟨g145, 0, none⟩) 1 1 (encNs ([(⟨29, 0, 0, (⟨#[]⟩ : ByteArray)⟩ : Nd)])), dRow 4 A168 ((if ¬ (if ¬ chk a = 0 then chk a else if ¬ chk b = 0 then chk b else chk ([(⟨29, 0, 0, (⟨#[]⟩ : ByteArray)⟩ : Nd)])) = 0 then [] else if (nth ([(⟨29, 0, 0, (⟨#[]⟩ : ByteArray)⟩ : Nd)]) (([(⟨29, 0, 0, (⟨#[]⟩ : ByteArray)⟩ : Nd)]).length - 1)).K = 29 then [(⟨29, 0, 0, ⟨#[]⟩⟩ : Nd)] else ([(⟨29, 0, 0, (⟨#[]⟩ : ByteArray)⟩ : Nd)])).length) c169 (encNs (if ¬ (if ¬ chk a = 0 then chk a else if ¬ chk b = 0 then chk b else chk ([(⟨29, 0, 0, (⟨#[]⟩ : ByteArray)⟩ : Nd)])) = 0 then [] else if (nth ([(⟨29, 0, 0, (⟨#[]⟩ : ByteArray)⟩ : Nd)]) (([(⟨29, 0, 0, (⟨#[]⟩ : ByteArray)⟩ : Nd)]).length - 1)).K = 29 then [(⟨29, 0, 0, ⟨#[]⟩⟩ : Nd)] else ([(⟨29, 0, 0, (⟨#[]⟩ : ByteArray)⟩ : Nd)])))]) 5 ?_ ?_
      · skip
        rcases Decidable.em (((if ¬ chk a = 0 then chk a else if ¬ chk b = 0 then chk b else chk ([(⟨29, 0, 0, (⟨#[]⟩ : ByteArray)⟩ : Nd)]))) = 0) with h287 | h287
        · skip
          have hR288 := hR286.setb (d := 54) (b := false) rfl (by rw [(decide_eq_true h287)]; rfl)
          refine r_move (st_listV_w (want_t hR288 rfl rfl rfl (by decide) rfl)) hR288 rfl rfl rfl (by decide) (fun a289 hR290 => ?_)
          refine r_move (st_listV_w (want_t hR290 rfl rfl rfl (by decide) rfl)) hR290 rfl rfl rfl (by decide) (fun a291 hR292 => ?_)
          have hS293 : St w0 Z none_ w231 [] [dShapes, dRow 4 aA a.length ac (encNs a), dRow 4 bA b.length bc (encNs b), dRow 4 tA t.length tc (encNs t), dRow 4 (some ⟨g145, 0, none⟩) 1 1 (encNs ([(⟨29, 0, 0, (⟨#[]⟩ : ByteArray)⟩ : Nd)])), dRow 4 A168 ((if ¬ (if ¬ chk a = 0 then chk a else if ¬ chk b = 0 then chk b else chk ([(⟨29, 0, 0, (⟨#[]⟩ : ByteArray)⟩ : Nd)])) = 0 then [] else if (nth ([(⟨29, 0, 0, (⟨#[]⟩ : ByteArray)⟩ : Nd)]) (([(⟨29, 0, 0, (⟨#[]⟩ : ByteArray)⟩ : Nd)]).length - 1)).K = 29 then [(⟨29, 0, 0, ⟨#[]⟩⟩ : Nd)] else ([(⟨29, 0, 0, (⟨#[]⟩ : ByteArray)⟩ : Nd)])).length) c169 (encNs (if ¬ (if ¬ chk a = 0 then chk a else if ¬ chk b = 0 then chk b else chk ([(⟨29, 0, 0, (⟨#[]⟩ : ByteArray)⟩ : Nd)])) = 0 then [] else if (nth ([(⟨29, 0, 0, (⟨#[]⟩ : ByteArray)⟩ : Nd)]) (([(⟨29, 0, 0, (⟨#[]⟩ : ByteArray)⟩ : Nd)]).length - 1)).K = 29 then [(⟨29, 0, 0, ⟨#[]⟩⟩ : Nd)] else ([(⟨29, 0, 0, (⟨#[]⟩ : ByteArray)⟩ : Nd)])))] := hS233
          refine k_call (xs := [.tmp 55, .tmp 56]) (st_list_w (want_t hR292 rfl rfl rfl (by decide) rfl)) hR292 rfl rfl rfl (by decide) ok30 (rsame_calls _ (imm Z w0 [] _) (fun _ h => h.1) A168 c169 (if ¬ (if ¬ chk a = 0 then chk a else if ¬ chk b = 0 then chk b else chk ([(⟨29, 0, 0, (⟨#[]⟩ : ByteArray)⟩ : Nd)])) = 0 then [] else if (nth ([(⟨29, 0, 0, (⟨#[]⟩ : ByteArray)⟩ : Nd)]) (([(⟨29, 0, 0, (⟨#[]⟩ : ByteArray)⟩ : Nd)]).length - 1)).K = 29 then [(⟨29, 0, 0, ⟨#[]⟩⟩ : Nd)] else ([(⟨29, 0, 0, (⟨#[]⟩ : ByteArray)⟩ : Nd)])) (some ⟨g145, 0, none⟩) 1 ([(⟨29, 0, 0, (⟨#[]⟩ : ByteArray)⟩ : Nd)]) (hS293.get (i := 5) rfl) (hS293.get (i := 4) rfl) (by (repeat' split) <;> first | omega | (simp; done) | (simp; omega))) ?_
          rintro e300 w295 ⟨rfl, hf298⟩
          have hS301 := hS293.below hf298.below
          refine ⟨_, rfl, fun a294 hR296 => ?_⟩
          refine r_not (st_listV_w (want_t hR296 rfl rfl rfl (by decide) rfl)) hR296 rfl rfl rfl (by decide) (fun a302 hR303 => ?_)
          refine r_pick_f (st_listV rfl) hR303 rfl rfl rfl rfl (by decide) (fun a304 hR305 => ?_)
          refine wpList_nil ?_
          exact x_then_n ⟨(Reg.cons hR305 (Reg.cons hR305 (Reg.cons hR305 (Reg.consb hR305 (hR305.nil) rfl (by first | rfl | (simp only [decide_eq_true h287, if_pos h287, Bool.true_and, Bool.and_true, Bool.false_and, Bool.and_false, Bool.true_or, Bool.or_true, Bool.false_or, Bool.or_false, Bool.not_true, Bool.not_false, if_true, ite_true, ite_false, Bool.false_eq_true]; done) | (simp [h287]; done) | (simp [h287]; omega))) rfl) rfl) rfl), hS301⟩
        · skip
          have hR306 := hR286.setb (d := 54) (b := true) rfl (by rw [(decide_eq_false h287)]; rfl)
          refine s_pass hR306 rfl (by decide) (want_f hR306 rfl rfl rfl (by decide) rfl rfl) (fun a307 hR308 => ?_)
          refine s_pass hR308 rfl (by decide) (want_f hR308 rfl rfl rfl (by decide) rfl rfl) (fun a309 hR310 => ?_)
          refine s_pass hR310 rfl (by decide) (want_f hR310 rfl rfl rfl (by decide) rfl rfl) (fun a311 hR312 => ?_)
          refine s_pass hR312 rfl (by decide) (want_f hR312 rfl rfl rfl (by decide) rfl rfl) (fun a313 hR314 => ?_)
          refine r_pick_t (st_listV rfl) hR314 rfl rfl rfl rfl (by decide) (fun a315 hR316 => ?_)
          refine wpList_nil ?_
          exact x_then_n ⟨(Reg.cons hR316 (Reg.cons hR316 (Reg.cons hR316 (Reg.consb hR316 (hR316.nil) rfl (by first | rfl | (simp only [decide_eq_false h287, if_neg h287, Bool.true_and, Bool.and_true, Bool.false_and, Bool.and_false, Bool.true_or, Bool.or_true, Bool.false_or, Bool.or_false, Bool.not_true, Bool.not_false, if_true, ite_true, ite_false, Bool.false_eq_true]; done) | (simp [h287]; done) | (simp [h287]; omega))) rfl) rfl) rfl), hS233⟩
      rintro a317 w318 ⟨hR319, hS320⟩
      refine wpList_nil ?_
      refine x_then_n (hK280 _ _ ?_)
      rcases Bool.eq_false_or_eq_true (((!(decide (((if ¬ chk a = 0 then chk a else if ¬ chk b = 0 then chk b else chk ([(⟨29, 0, 0, (⟨#[]⟩ : ByteArray)⟩ : Nd)]))) = 0))) || (!(decide ((if ¬ (if ¬ chk a = 0 then chk a else if ¬ chk b = 0 then chk b else chk ([(⟨29, 0, 0, (⟨#[]⟩ : ByteArray)⟩ : Nd)])) = 0 then [] else if (nth ([(⟨29, 0, 0, (⟨#[]⟩ : ByteArray)⟩ : Nd)]) (([(⟨29, 0, 0, (⟨#[]⟩ : ByteArray)⟩ : Nd)]).length - 1)).K = 29 then [(⟨29, 0, 0, ⟨#[]⟩⟩ : Nd)] else ([(⟨29, 0, 0, (⟨#[]⟩ : ByteArray)⟩ : Nd)])) = ([(⟨29, 0, 0, (⟨#[]⟩ : ByteArray)⟩ : Nd)])))))) with h321 | h321
      · skip
        have hq322 := h321
        try simp only [Bool.or_eq_true, Bool.and_eq_true, Bool.not_eq_true', Bool.not_eq_false', decide_eq_true_eq, decide_eq_false_iff_not, Bool.or_eq_false_iff, Bool.and_eq_false_iff] at hq322
        have hR323 := hR319.setb (d := 59) (b := true) rfl h321
        refine wp_cond_true (hR323.ev rfl) ?_
        refine wp_seq_k (fun K324 hK325 => ?_)
        refine c_region ?_
        refine r_assign (st_listV rfl) hR323 rfl rfl rfl (by decide) (fun a326 hR327 => ?_)
        refine wpList_nil ?_
        refine x_then_n (hK325 _ _ ?_)
        refine wp_ret ?_
        refine x_then_r ?_
        refine e_ret1 hR327 rfl rfl ?_
        refine ⟨?_, hS320.fr⟩
        exact congrArg Ending.returned (ret_b (by exfalso; have zz := h321; simp [chk_tick, chk_nat, chk_v3, root_tick, root_nat, root_v3, h115, h133, h134, h135, h137, h234, h272, h275] at zz))
      · skip
        have h328 := or_fl h321
        have h329 := not_f h328
        have h330 := of_decide_eq_true h329
        have h331 := or_fr h321
        have h332 := not_f h331
        have h333 := of_decide_eq_true h332
        have hR334 := hR319.setb (d := 59) (b := false) rfl h321
        refine wp_cond_false (hR334.ev rfl) ?_
        refine wp_skip ?_
        refine x_then_n (hK278 _ _ ?_)
        refine wp_seq_k (fun K335 hK336 => ?_)
        refine c_region ?_
        refine r_move (st_listV rfl) hR334 rfl rfl rfl (by decide) (fun a337 hR338 => ?_)
        have hS339 : St w0 Z none_ w318 [] [dShapes, dRow 4 aA a.length ac (encNs a), dRow 4 bA b.length bc (encNs b), dRow 4 tA t.length tc (encNs t), dRow 4 (some ⟨g145, 0, none⟩) 1 1 (encNs ([(⟨29, 0, 0, (⟨#[]⟩ : ByteArray)⟩ : Nd)])), dRow 4 A168 ((if ¬ (if ¬ chk a = 0 then chk a else if ¬ chk b = 0 then chk b else chk ([(⟨29, 0, 0, (⟨#[]⟩ : ByteArray)⟩ : Nd)])) = 0 then [] else if (nth ([(⟨29, 0, 0, (⟨#[]⟩ : ByteArray)⟩ : Nd)]) (([(⟨29, 0, 0, (⟨#[]⟩ : ByteArray)⟩ : Nd)]).length - 1)).K = 29 then [(⟨29, 0, 0, ⟨#[]⟩⟩ : Nd)] else ([(⟨29, 0, 0, (⟨#[]⟩ : ByteArray)⟩ : Nd)])).length) c169 (encNs (if ¬ (if ¬ chk a = 0 then chk a else if ¬ chk b = 0 then chk b else chk ([(⟨29, 0, 0, (⟨#[]⟩ : ByteArray)⟩ : Nd)])) = 0 then [] else if (nth ([(⟨29, 0, 0, (⟨#[]⟩ : ByteArray)⟩ : Nd)]) (([(⟨29, 0, 0, (⟨#[]⟩ : ByteArray)⟩ : Nd)]).length - 1)).K = 29 then [(⟨29, 0, 0, ⟨#[]⟩⟩ : Nd)] else ([(⟨29, 0, 0, (⟨#[]⟩ : ByteArray)⟩ : Nd)])))] := hS320
        refine k_call (xs := [.tmp 60]) (st_list rfl) hR338 rfl rfl rfl (by decide) ok23 (rroot_calls _ (imm Z w0 [] _) (fun _ h => h.1) aA ac a (hS339.get (i := 1) rfl) (by first | assumption | omega | (simp; done) | (simp; omega)) (by first | assumption | omega | (simp; done) | (simp; omega))) ?_
        rintro e346 w341 ⟨rfl, hf344⟩
        have hS347 := hS339.below hf344.below
        refine ⟨_, rfl, fun a340 hR342 => ?_⟩
        refine m_alloc (cs := [.int .i64 0, .int .i64 0, .int .i64 0, .string (⟨#[]⟩ : ByteArray)]) (st_listV rfl) hR342 hS347 rfl rfl ze32 rfl (by decide) (fun a348 w349 g350 hR351 hS352 => ?_)
        refine m_store (i := 0) (cs' := [.int .i64 (((nth a (a.length - 1)).K)), .int .i64 (((nth a (a.length - 1)).N)), .int .i64 (((nth a (a.length - 1)).M)), .string ((nth a (a.length - 1)).S)]) (st_list rfl) hR351 hS352 rfl rfl rfl rfl rfl sz32 rfl rfl rfl (fun a353 w354 hR355 hS356 => ?_)
        refine wpList_nil ?_
        refine x_then_n (hK336 _ _ ?_)
        refine wp_seq_k (fun K357 hK358 => ?_)
        refine wp_seq_k (fun K359 hK360 => ?_)
        refine c_region ?_
        refine m_field (j' := 0) (st_listV rfl) hR355 rfl rfl rfl Tryd.underlying32 rfl sz3 rfl rfl (by decide) (fun a361 hR362 => ?_)
        refine m_load (i := 0) (st_listV rfl) hR362 hS356 rfl rfl rfl rfl rfl Tryd.underlying3 rfl (by decide) (fun a363 hR364 => ?_)
        refine r_neq (st_listV rfl) hR364 rfl rfl rfl rfl (by decide) (fun a365 hR366 => ?_)
        refine r_move (st_listV rfl) hR366 rfl rfl rfl (by decide) (fun a367 hR368 => ?_)
        refine l_join (fun ga gw => Reg ga 94 [(0, .slice aA a.length ac), (2, .slice tA t.length tc), (6, .bool false), (10, .pointer (some ⟨g350, 0, none⟩)), (69, .bool ((!(decide ((((nth a (a.length - 1)).K)) = 10))) && (!(decide ((((nth a (a.length - 1)).K)) = 2)))))] ∧ St w0 Z none_ gw [.box g350 32 [.int .i64 (((nth a (a.length - 1)).K)), .int .i64 (((nth a (a.length - 1)).N)), .int .i64 (((nth a (a.length - 1)).M)), .string ((nth a (a.length - 1)).S)]] [dShapes, dRow 4 aA a.length ac (encNs a), dRow 4 bA b.length bc (encNs b), dRow 4 tA t.length tc (encNs t), dRow 4 (some ⟨g145, 0, none⟩) 1 1 (encNs ([(⟨29, 0, 0, (⟨#[]⟩ : ByteArray)⟩ : Nd)])), dRow 4 A168 ((if ¬ (if ¬ chk a = 0 then chk a else if ¬ chk b = 0 then chk b else chk ([(⟨29, 0, 0, (⟨#[]⟩ : ByteArray)⟩ : Nd)])) = 0 then [] else if (nth ([(⟨29, 0, 0, (⟨#[]⟩ : ByteArray)⟩ : Nd)]) (([(⟨29, 0, 0, (⟨#[]⟩ : ByteArray)⟩ : Nd)]).length - 1)).K = 29 then [(⟨29, 0, 0, ⟨#[]⟩⟩ : Nd)] else ([(⟨29, 0, 0, (⟨#[]⟩ : ByteArray)⟩ : Nd)])).length) c169 (encNs (if ¬ (if ¬ chk a = 0 then chk a else if ¬ chk b = 0 then chk b else chk ([(⟨29, 0, 0, (⟨#[]⟩ : ByteArray)⟩ : Nd)])) = 0 then [] else if (nth ([(⟨29, 0, 0, (⟨#[]⟩ : ByteArray)⟩ : Nd)]) (([(⟨29, 0, 0, (⟨#[]⟩ : ByteArray)⟩ : Nd)]).length - 1)).K = 29 then [(⟨29, 0, 0, ⟨#[]⟩⟩ : Nd)] else ([(⟨29, 0, 0, (⟨#[]⟩ : ByteArray)⟩ : Nd)])))]) 4 ?_ ?_
        · skip
          rcases Decidable.em ((((nth a (a.length - 1)).K)) = 10) with h369 | h369
          · skip
            have hR370 := hR368.setb (d := 65) (b := false) rfl (by rw [(decide_eq_true h369)]; rfl)
            refine s_pass hR370 rfl (by decide) (want_f hR370 rfl rfl rfl (by decide) rfl rfl) (fun a371 hR372 => ?_)
            refine s_pass hR372 rfl (by decide) (want_f hR372 rfl rfl rfl (by decide) rfl rfl) (fun a373 hR374 => ?_)
            refine s_pass hR374 rfl (by decide) (want_f hR374 rfl rfl rfl (by decide) rfl rfl) (fun a375 hR376 => ?_)
            refine r_pick_f (st_listV rfl) hR376 rfl rfl rfl rfl (by decide) (fun a377 hR378 => ?_)
            refine wpList_nil ?_
            exact x_then_n ⟨(Reg.cons hR378 (Reg.cons hR378 (Reg.cons hR378 (Reg.cons hR378 (Reg.consb hR378 (hR378.nil) rfl (by first | rfl | (simp only [decide_eq_true h369, if_pos h369, Bool.true_and, Bool.and_true, Bool.false_and, Bool.and_false, Bool.true_or, Bool.or_true, Bool.false_or, Bool.or_false, Bool.not_true, Bool.not_false, if_true, ite_true, ite_false, Bool.false_eq_true]; done) | (simp [h369]; done) | (simp [h369]; omega))) rfl) rfl) rfl) rfl), hS356⟩
          · skip
            have hR379 := hR368.setb (d := 65) (b := true) rfl (by rw [(decide_eq_false h369)]; rfl)
            refine m_field (j' := 0) (st_listV_w (want_t hR379 rfl rfl rfl (by decide) rfl)) hR379 rfl rfl rfl Tryd.underlying32 rfl sz3 rfl rfl (by decide) (fun a380 hR381 => ?_)
            refine m_load (i := 0) (st_listV_w (want_t hR381 rfl rfl rfl (by decide) rfl)) hR381 hS356 rfl rfl rfl rfl rfl Tryd.underlying3 rfl (by decide) (fun a382 hR383 => ?_)
            refine r_neq (st_listV_w (want_t hR383 rfl rfl rfl (by decide) rfl)) hR383 rfl rfl rfl rfl (by decide) (fun a384 hR385 => ?_)
            refine r_pick_t (st_listV rfl) hR385 rfl rfl rfl rfl (by decide) (fun a386 hR387 => ?_)
            refine wpList_nil ?_
            exact x_then_n ⟨(Reg.cons hR387 (Reg.cons hR387 (Reg.cons hR387 (Reg.cons hR387 (Reg.consb hR387 (hR387.nil) rfl (by first | rfl | (simp only [decide_eq_false h369, if_neg h369, Bool.true_and, Bool.and_true, Bool.false_and, Bool.and_false, Bool.true_or, Bool.or_true, Bool.false_or, Bool.or_false, Bool.not_true, Bool.not_false, if_true, ite_true, ite_false, Bool.false_eq_true]; done) | (simp [h369]; done) | (simp [h369]; omega))) rfl) rfl) rfl) rfl), hS356⟩
        rintro a388 w389 ⟨hR390, hS391⟩
        refine r_move (st_listV rfl) hR390 rfl rfl rfl (by decide) (fun a392 hR393 => ?_)
        refine l_join (fun ga gw => Reg ga 94 [(0, .slice aA a.length ac), (2, .slice tA t.length tc), (6, .bool false), (74, .bool (((!(decide ((((nth a (a.length - 1)).K)) = 10))) && (!(decide ((((nth a (a.length - 1)).K)) = 2)))) && (!(decide ((((nth a (a.length - 1)).K)) = 25)))))] ∧ St w0 Z none_ gw [.box g350 32 [.int .i64 (((nth a (a.length - 1)).K)), .int .i64 (((nth a (a.length - 1)).N)), .int .i64 (((nth a (a.length - 1)).M)), .string ((nth a (a.length - 1)).S)]] [dShapes, dRow 4 aA a.length ac (encNs a), dRow 4 bA b.length bc (encNs b), dRow 4 tA t.length tc (encNs t), dRow 4 (some ⟨g145, 0, none⟩) 1 1 (encNs ([(⟨29, 0, 0, (⟨#[]⟩ : ByteArray)⟩ : Nd)])), dRow 4 A168 ((if ¬ (if ¬ chk a = 0 then chk a else if ¬ chk b = 0 then chk b else chk ([(⟨29, 0, 0, (⟨#[]⟩ : ByteArray)⟩ : Nd)])) = 0 then [] else if (nth ([(⟨29, 0, 0, (⟨#[]⟩ : ByteArray)⟩ : Nd)]) (([(⟨29, 0, 0, (⟨#[]⟩ : ByteArray)⟩ : Nd)]).length - 1)).K = 29 then [(⟨29, 0, 0, ⟨#[]⟩⟩ : Nd)] else ([(⟨29, 0, 0, (⟨#[]⟩ : ByteArray)⟩ : Nd)])).length) c169 (encNs (if ¬ (if ¬ chk a = 0 then chk a else if ¬ chk b = 0 then chk b else chk ([(⟨29, 0, 0, (⟨#[]⟩ : ByteArray)⟩ : Nd)])) = 0 then [] else if (nth ([(⟨29, 0, 0, (⟨#[]⟩ : ByteArray)⟩ : Nd)]) (([(⟨29, 0, 0, (⟨#[]⟩ : ByteArray)⟩ : Nd)]).length - 1)).K = 29 then [(⟨29, 0, 0, ⟨#[]⟩⟩ : Nd)] else ([(⟨29, 0, 0, (⟨#[]⟩ : ByteArray)⟩ : Nd)])))]) 4 ?_ ?_
        · skip
          rcases Bool.eq_false_or_eq_true (((!(decide ((((nth a (a.length - 1)).K)) = 10))) && (!(decide ((((nth a (a.length - 1)).K)) = 2))))) with h394 | h394
          · skip
            have h395 := and_tl h394
            have h396 := not_t h395
            have h397 := of_decide_eq_false h396
            have h398 := and_tr h394
            have h399 := not_t h398
            have h400 := of_decide_eq_false h399
            have hR401 := hR393.setb (d := 70) (b := true) rfl h394
            refine m_field (j' := 0) (st_listV_w (want_t hR401 rfl rfl rfl (by decide) rfl)) hR401 rfl rfl rfl Tryd.underlying32 rfl sz3 rfl rfl (by decide) (fun a402 hR403 => ?_)
            refine m_load (i := 0) (st_listV_w (want_t hR403 rfl rfl rfl (by decide) rfl)) hR403 hS391 rfl rfl rfl rfl rfl Tryd.underlying3 rfl (by decide) (fun a404 hR405 => ?_)
            refine r_neq (st_listV_w (want_t hR405 rfl rfl rfl (by decide) rfl)) hR405 rfl rfl rfl rfl (by decide) (fun a406 hR407 => ?_)
            refine r_pick_t (st_listV rfl) hR407 rfl rfl rfl rfl (by decide) (fun a408 hR409 => ?_)
            refine wpList_nil ?_
            exact x_then_n ⟨(Reg.cons hR409 (Reg.cons hR409 (Reg.cons hR409 (Reg.consb hR409 (hR409.nil) rfl (by first | rfl | (simp only [h394, Bool.true_and, Bool.and_true, Bool.false_and, Bool.and_false, Bool.true_or, Bool.or_true, Bool.false_or, Bool.or_false, Bool.not_true, Bool.not_false, if_true, ite_true, ite_false, Bool.false_eq_true]; done) | (simp [h394]; done) | (simp [h394]; omega))) rfl) rfl) rfl), hS391⟩
          · skip
            have hq410 := h394
            try simp only [Bool.or_eq_true, Bool.and_eq_true, Bool.not_eq_true', Bool.not_eq_false', decide_eq_true_eq, decide_eq_false_iff_not, Bool.or_eq_false_iff, Bool.and_eq_false_iff] at hq410
            have hR411 := hR393.setb (d := 70) (b := false) rfl h394
            refine s_pass hR411 rfl (by decide) (want_f hR411 rfl rfl rfl (by decide) rfl rfl) (fun a412 hR413 => ?_)
            refine s_pass hR413 rfl (by decide) (want_f hR413 rfl rfl rfl (by decide) rfl rfl) (fun a414 hR415 => ?_)
            refine s_pass hR415 rfl (by decide) (want_f hR415 rfl rfl rfl (by decide) rfl rfl) (fun a416 hR417 => ?_)
            refine r_pick_f (st_listV rfl) hR417 rfl rfl rfl rfl (by decide) (fun a418 hR419 => ?_)
            refine wpList_nil ?_
            exact x_then_n ⟨(Reg.cons hR419 (Reg.cons hR419 (Reg.cons hR419 (Reg.consb hR419 (hR419.nil) rfl (by first | rfl | (simp only [h394, Bool.true_and, Bool.and_true, Bool.false_and, Bool.and_false, Bool.true_or, Bool.or_true, Bool.false_or, Bool.or_false, Bool.not_true, Bool.not_false, if_true, ite_true, ite_false, Bool.false_eq_true]; done) | (simp [h394]; done) | (simp [h394]; omega))) rfl) rfl) rfl), hS391⟩
        rintro a420 w421 ⟨hR422, hS423⟩
        refine r_move (st_listV rfl) hR422 rfl rfl rfl (by decide) (fun a424 hR425 => ?_)
        refine l_join (fun ga gw => Reg ga 94 [(0, .slice aA a.length ac), (2, .slice tA t.length tc), (6, .bool false), (79, .bool ((((!(decide ((((nth a (a.length - 1)).K)) = 10))) && (!(decide ((((nth a (a.length - 1)).K)) = 2)))) && (!(decide ((((nth a (a.length - 1)).K)) = 25)))) || (!(decide (((chk t)) = 0)))))] ∧ St w0 Z none_ gw [.box g350 32 [.int .i64 (((nth a (a.length - 1)).K)), .int .i64 (((nth a (a.length - 1)).N)), .int .i64 (((nth a (a.length - 1)).M)), .string ((nth a (a.length - 1)).S)]] [dShapes, dRow 4 aA a.length ac (encNs a), dRow 4 bA b.length bc (encNs b), dRow 4 tA t.length tc (encNs t), dRow 4 (some ⟨g145, 0, none⟩) 1 1 (encNs ([(⟨29, 0, 0, (⟨#[]⟩ : ByteArray)⟩ : Nd)])), dRow 4 A168 ((if ¬ (if ¬ chk a = 0 then chk a else if ¬ chk b = 0 then chk b else chk ([(⟨29, 0, 0, (⟨#[]⟩ : ByteArray)⟩ : Nd)])) = 0 then [] else if (nth ([(⟨29, 0, 0, (⟨#[]⟩ : ByteArray)⟩ : Nd)]) (([(⟨29, 0, 0, (⟨#[]⟩ : ByteArray)⟩ : Nd)]).length - 1)).K = 29 then [(⟨29, 0, 0, ⟨#[]⟩⟩ : Nd)] else ([(⟨29, 0, 0, (⟨#[]⟩ : ByteArray)⟩ : Nd)])).length) c169 (encNs (if ¬ (if ¬ chk a = 0 then chk a else if ¬ chk b = 0 then chk b else chk ([(⟨29, 0, 0, (⟨#[]⟩ : ByteArray)⟩ : Nd)])) = 0 then [] else if (nth ([(⟨29, 0, 0, (⟨#[]⟩ : ByteArray)⟩ : Nd)]) (([(⟨29, 0, 0, (⟨#[]⟩ : ByteArray)⟩ : Nd)]).length - 1)).K = 29 then [(⟨29, 0, 0, ⟨#[]⟩⟩ : Nd)] else ([(⟨29, 0, 0, (⟨#[]⟩ : ByteArray)⟩ : Nd)])))]) 4 ?_ ?_
        · skip
          rcases Bool.eq_false_or_eq_true ((((!(decide ((((nth a (a.length - 1)).K)) = 10))) && (!(decide ((((nth a (a.length - 1)).K)) = 2)))) && (!(decide ((((nth a (a.length - 1)).K)) = 25))))) with h426 | h426
          · skip
            have h427 := and_tl h426
            have h428 := and_tl h427
            have h429 := not_t h428
            have h430 := of_decide_eq_false h429
            have h431 := and_tr h427
            have h432 := not_t h431
            have h433 := of_decide_eq_false h432
            have h434 := and_tr h426
            have h435 := not_t h434
            have h436 := of_decide_eq_false h435
            have hR437 := hR425.setb (d := 75) (b := true) rfl h426
            refine s_pass hR437 rfl (by decide) (want_f hR437 rfl rfl rfl (by decide) rfl rfl) (fun a438 hR439 => ?_)
            refine s_pass hR439 rfl (by decide) (want_f hR439 rfl rfl rfl (by decide) rfl rfl) (fun a440 hR441 => ?_)
            refine s_pass hR441 rfl (by decide) (want_f hR441 rfl rfl rfl (by decide) rfl rfl) (fun a442 hR443 => ?_)
            refine r_pick_t (st_listV rfl) hR443 rfl rfl rfl rfl (by decide) (fun a444 hR445 => ?_)
            refine wpList_nil ?_
            exact x_then_n ⟨(Reg.cons hR445 (Reg.cons hR445 (Reg.cons hR445 (Reg.consb hR445 (hR445.nil) rfl (by first | rfl | (simp only [h426, Bool.true_and, Bool.and_true, Bool.false_and, Bool.and_false, Bool.true_or, Bool.or_true, Bool.false_or, Bool.or_false, Bool.not_true, Bool.not_false, if_true, ite_true, ite_false, Bool.false_eq_true]; done) | (simp [h426]; done) | (simp [h426]; omega))) rfl) rfl) rfl), hS423⟩
          · skip
            have hq446 := h426
            try simp only [Bool.or_eq_true, Bool.and_eq_true, Bool.not_eq_true', Bool.not_eq_false', decide_eq_true_eq, decide_eq_false_iff_not, Bool.or_eq_false_iff, Bool.and_eq_false_iff] at hq446
            have hR447 := hR425.setb (d := 75) (b := false) rfl h426
            refine r_move (st_listV_w (want_t hR447 rfl rfl rfl (by decide) rfl)) hR447 rfl rfl rfl (by decide) (fun a448 hR449 => ?_)
            have hS450 : St w0 Z none_ w421 [.box g350 32 [.int .i64 (((nth a (a.length - 1)).K)), .int .i64 (((nth a (a.length - 1)).N)), .int .i64 (((nth a (a.length - 1)).M)), .string ((nth a (a.length - 1)).S)]] [dShapes, dRow 4 aA a.length ac (encNs a), dRow 4 bA b.length bc (encNs b), dRow 4 tA t.length tc (encNs t), dRow 4 (some ⟨g145, 0, none⟩) 1 1 (encNs ([(⟨29, 0, 0, (⟨#[]⟩ : ByteArray)⟩ : Nd)])), dRow 4 A168 ((if ¬ (if ¬ chk a = 0 then chk a else if ¬ chk b = 0 then chk b else chk ([(⟨29, 0, 0, (⟨#[]⟩ : ByteArray)⟩ : Nd)])) = 0 then [] else if (nth ([(⟨29, 0, 0, (⟨#[]⟩ : ByteArray)⟩ : Nd)]) (([(⟨29, 0, 0, (⟨#[]⟩ : ByteArray)⟩ : Nd)]).length - 1)).K = 29 then [(⟨29, 0, 0, ⟨#[]⟩⟩ : Nd)] else ([(⟨29, 0, 0, (⟨#[]⟩ : ByteArray)⟩ : Nd)])).length) c169 (encNs (if ¬ (if ¬ chk a = 0 then chk a else if ¬ chk b = 0 then chk b else chk ([(⟨29, 0, 0, (⟨#[]⟩ : ByteArray)⟩ : Nd)])) = 0 then [] else if (nth ([(⟨29, 0, 0, (⟨#[]⟩ : ByteArray)⟩ : Nd)]) (([(⟨29, 0, 0, (⟨#[]⟩ : ByteArray)⟩ : Nd)]).length - 1)).K = 29 then [(⟨29, 0, 0, ⟨#[]⟩⟩ : Nd)] else ([(⟨29, 0, 0, (⟨#[]⟩ : ByteArray)⟩ : Nd)])))] := hS423
            refine k_call (xs := [.tmp 76]) (st_list_w (want_t hR449 rfl rfl rfl (by decide) rfl)) hR449 rfl rfl rfl (by decide) ok19 (rcheck_calls _ (imm Z w0 [.box g350 32 [.int .i64 (((nth a (a.length - 1)).K)), .int .i64 (((nth a (a.length - 1)).N)), .int .i64 (((nth a (a.length - 1)).M)), .string ((nth a (a.length - 1)).S)]] _) (fun _ h => h.1) tA tc t (hS450.get (i := 3) rfl) (by first | assumption | omega | (simp; done) | (simp; omega)) (by first | assumption | omega | (simp; done) | (simp; omega))) ?_
            rintro e457 w452 ⟨rfl, hf455⟩
            have hS458 := hS450.below hf455.below
            refine ⟨_, rfl, fun a451 hR453 => ?_⟩
            refine r_neq (st_listV_w (want_t hR453 rfl rfl rfl (by decide) rfl)) hR453 rfl rfl rfl rfl (by decide) (fun a459 hR460 => ?_)
            refine r_pick_f (st_listV rfl) hR460 rfl rfl rfl rfl (by decide) (fun a461 hR462 => ?_)
            refine wpList_nil ?_
            exact x_then_n ⟨(Reg.cons hR462 (Reg.cons hR462 (Reg.cons hR462 (Reg.consb hR462 (hR462.nil) rfl (by first | rfl | (simp only [h426, Bool.true_and, Bool.and_true, Bool.false_and, Bool.and_false, Bool.true_or, Bool.or_true, Bool.false_or, Bool.or_false, Bool.not_true, Bool.not_false, if_true, ite_true, ite_false, Bool.false_eq_true]; done) | (simp [h426]; done) | (simp [h426]; omega))) rfl) rfl) rfl), hS458⟩
        rintro a463 w464 ⟨hR465, hS466⟩
        refine wpList_nil ?_
        refine x_then_n (hK360 _ _ ?_)
        rcases Bool.eq_false_or_eq_true (((((!(decide ((((nth a (a.length - 1)).K)) = 10))) && (!(decide ((((nth a (a.length - 1)).K)) = 2)))) && (!(decide ((((nth a (a.length - 1)).K)) = 25)))) || (!(decide (((chk t)) = 0))))) with h467 | h467
        · skip
          have hq468 := h467
          try simp only [Bool.or_eq_true, Bool.and_eq_true, Bool.not_eq_true', Bool.not_eq_false', decide_eq_true_eq, decide_eq_false_iff_not, Bool.or_eq_false_iff, Bool.and_eq_false_iff] at hq468
          have hR469 := hR465.setb (d := 79) (b := true) rfl h467
          refine wp_cond_true (hR469.ev rfl) ?_
          refine wp_seq_k (fun K470 hK471 => ?_)
          refine c_region ?_
          refine r_assign (st_listV rfl) hR469 rfl rfl rfl (by decide) (fun a472 hR473 => ?_)
          refine wpList_nil ?_
          refine x_then_n (hK471 _ _ ?_)
          refine wp_ret ?_
          refine x_then_r ?_
          refine e_ret1 hR473 rfl rfl ?_
          refine ⟨?_, hS466.fr⟩
          exact congrArg Ending.returned (ret_b (by first | rfl | (simp [chk_tick, chk_nat, chk_v3, root_tick, root_nat, root_v3, h115, h133, h134, h135, h137, h234, h272, h275, h321, h330, h333, h467]; done) | (simp [chk_tick, chk_nat, chk_v3, root_tick, root_nat, root_v3, h115, h133, h134, h135, h137, h234, h272, h275, h321, h330, h333, h467]; exact tick_only (by assumption)) | (by_cases za : chk a = 0 <;> by_cases zb : chk b = 0 <;> simp [chk_tick, za, zb] <;> simp_all) | (simp_all [chk_tick, chk_nat, chk_v3, root_tick, root_nat, root_v3]; done)))
        · skip
          have h474 := or_fl h467
          have hq475 := h474
          try simp only [Bool.or_eq_true, Bool.and_eq_true, Bool.not_eq_true', Bool.not_eq_false', decide_eq_true_eq, decide_eq_false_iff_not, Bool.or_eq_false_iff, Bool.and_eq_false_iff] at hq475
          have h476 := or_fr h467
          have h477 := not_f h476
          have h478 := of_decide_eq_true h477
          have hpt := chk_pos h478
          have hR479 := hR465.setb (d := 79) (b := false) rfl h467
          refine wp_cond_false (hR479.ev rfl) ?_
          refine wp_skip ?_
          refine x_then_n (hK358 _ _ ?_)
          refine wp_seq_k (fun K480 hK481 => ?_)
          refine c_region ?_
          refine r_move (st_listV rfl) hR479 rfl rfl rfl (by decide) (fun a482 hR483 => ?_)
          refine r_move (st_listV rfl) hR483 rfl rfl rfl (by decide) (fun a484 hR485 => ?_)
          refine r_move (st_listV rfl) hR485 rfl rfl rfl (by decide) (fun a486 hR487 => ?_)
          have hS488 : St w0 Z none_ w464 [.box g350 32 [.int .i64 (((nth a (a.length - 1)).K)), .int .i64 (((nth a (a.length - 1)).N)), .int .i64 (((nth a (a.length - 1)).M)), .string ((nth a (a.length - 1)).S)]] [dShapes, dRow 4 aA a.length ac (encNs a), dRow 4 bA b.length bc (encNs b), dRow 4 tA t.length tc (encNs t), dRow 4 (some ⟨g145, 0, none⟩) 1 1 (encNs ([(⟨29, 0, 0, (⟨#[]⟩ : ByteArray)⟩ : Nd)])), dRow 4 A168 ((if ¬ (if ¬ chk a = 0 then chk a else if ¬ chk b = 0 then chk b else chk ([(⟨29, 0, 0, (⟨#[]⟩ : ByteArray)⟩ : Nd)])) = 0 then [] else if (nth ([(⟨29, 0, 0, (⟨#[]⟩ : ByteArray)⟩ : Nd)]) (([(⟨29, 0, 0, (⟨#[]⟩ : ByteArray)⟩ : Nd)]).length - 1)).K = 29 then [(⟨29, 0, 0, ⟨#[]⟩⟩ : Nd)] else ([(⟨29, 0, 0, (⟨#[]⟩ : ByteArray)⟩ : Nd)])).length) c169 (encNs (if ¬ (if ¬ chk a = 0 then chk a else if ¬ chk b = 0 then chk b else chk ([(⟨29, 0, 0, (⟨#[]⟩ : ByteArray)⟩ : Nd)])) = 0 then [] else if (nth ([(⟨29, 0, 0, (⟨#[]⟩ : ByteArray)⟩ : Nd)]) (([(⟨29, 0, 0, (⟨#[]⟩ : ByteArray)⟩ : Nd)]).length - 1)).K = 29 then [(⟨29, 0, 0, ⟨#[]⟩⟩ : Nd)] else ([(⟨29, 0, 0, (⟨#[]⟩ : ByteArray)⟩ : Nd)])))] := hS466
          refine k_call (xs := [.tmp 81, .tmp 82, .tmp 83]) (st_list rfl) hR487 rfl rfl rfl (by decide) ok36 (crule0_calls _ (imm Z w0 [.box g350 32 [.int .i64 (((nth a (a.length - 1)).K)), .int .i64 (((nth a (a.length - 1)).N)), .int .i64 (((nth a (a.length - 1)).M)), .string ((nth a (a.length - 1)).S)]] _) (fun _ h => h.1) aA ac a aA ac a tA tc t (hS488.get (i := 0) rfl) (hS488.get (i := 1) rfl) (hS488.get (i := 1) rfl) (hS488.get (i := 3) rfl) (by first | assumption | exact sml_tick) (by first | assumption | exact sml_tick) (by first | assumption | exact sml_tick) (by first | omega | (simp; done)) (by first | omega | (simp; done)) (by first | omega | (simp; done)) (by first | exact (fun _ _ _ h => absurd rfl h) | exact (fun _ _ _ _ => ⟨by omega, rfl⟩))) ?_
          rintro e498 w490 ⟨A494, c495, rfl, hf493, hd496⟩
          have hS499 := hS488.below hf493.below
          have hS500 := hS499.data (dRow 4 A494 ((if ¬ (if ¬ chk a = 0 then chk a else if ¬ chk a = 0 then chk a else chk t) = 0 then [] else if (nth t (t.length - 1)).K = 29 then [(⟨29, 0, 0, ⟨#[]⟩⟩ : Nd)] else t).length) c495 (encNs (if ¬ (if ¬ chk a = 0 then chk a else if ¬ chk a = 0 then chk a else chk t) = 0 then [] else if (nth t (t.length - 1)).K = 29 then [(⟨29, 0, 0, ⟨#[]⟩⟩ : Nd)] else t))) ⟨hd496.1, hd496.2.mono (fun _ hk => ⟨nxt_imm hS488 hk, rfl⟩)⟩
          refine ⟨_, rfl, fun a489 hR491 => ?_⟩
          refine r_move (st_listV rfl) hR491 rfl rfl rfl (by decide) (fun a501 hR502 => ?_)
          refine r_extract (st_listV rfl) hR502 rfl rfl rfl rfl (by decide) (fun a503 hR504 => ?_)
          refine r_extract (st_listV rfl) hR504 rfl rfl rfl rfl (by decide) (fun a505 hR506 => ?_)
          refine r_assign (st_listV rfl) hR506 rfl rfl rfl (by decide) (fun a507 hR508 => ?_)
          refine r_assign (st_listV rfl) hR508 rfl rfl rfl (by decide) (fun a509 hR510 => ?_)
          refine wpList_nil ?_
          refine x_then_n (hK481 _ _ ?_)
          refine wp_seq_k (fun K511 hK512 => ?_)
          refine c_region ?_
          refine r_move (st_listV rfl) hR510 rfl rfl rfl (by decide) (fun a513 hR514 => ?_)
          refine r_eql (st_listV rfl) hR514 rfl rfl rfl rfl (by decide) (fun a515 hR516 => ?_)
          refine r_move (st_listV rfl) hR516 rfl rfl rfl (by decide) (fun a517 hR518 => ?_)
          refine l_join (fun ga gw => Reg ga 94 [(6, .bool false), (93, .bool ((decide (((if ¬ chk a = 0 then chk a else if ¬ chk a = 0 then chk a else chk t)) = 0)) && (decide ((if ¬ (if ¬ chk a = 0 then chk a else if ¬ chk a = 0 then chk a else chk t) = 0 then [] else if (nth t (t.length - 1)).K = 29 then [(⟨29, 0, 0, ⟨#[]⟩⟩ : Nd)] else t) = t))))] ∧ St w0 Z none_ gw [.box g350 32 [.int .i64 (((nth a (a.length - 1)).K)), .int .i64 (((nth a (a.length - 1)).N)), .int .i64 (((nth a (a.length - 1)).M)), .string ((nth a (a.length - 1)).S)]] [dShapes, dRow 4 aA a.length ac (encNs a), dRow 4 bA b.length bc (encNs b), dRow 4 tA t.length tc (encNs t), dRow 4 (some ⟨g145, 0, none⟩) 1 1 (encNs ([(⟨29, 0, 0, (⟨#[]⟩ : ByteArray)⟩ : Nd)])), dRow 4 A168 ((if ¬ (if ¬ chk a = 0 then chk a else if ¬ chk b = 0 then chk b else chk ([(⟨29, 0, 0, (⟨#[]⟩ : ByteArray)⟩ : Nd)])) = 0 then [] else if (nth ([(⟨29, 0, 0, (⟨#[]⟩ : ByteArray)⟩ : Nd)]) (([(⟨29, 0, 0, (⟨#[]⟩ : ByteArray)⟩ : Nd)]).length - 1)).K = 29 then [(⟨29, 0, 0, ⟨#[]⟩⟩ : Nd)] else ([(⟨29, 0, 0, (⟨#[]⟩ : ByteArray)⟩ : Nd)])).length) c169 (encNs (if ¬ (if ¬ chk a = 0 then chk a else if ¬ chk b = 0 then chk b else chk ([(⟨29, 0, 0, (⟨#[]⟩ : ByteArray)⟩ : Nd)])) = 0 then [] else if (nth ([(⟨29, 0, 0, (⟨#[]⟩ : ByteArray)⟩ : Nd)]) (([(⟨29, 0, 0, (⟨#[]⟩ : ByteArray)⟩ : Nd)]).length - 1)).K = 29 then [(⟨29, 0, 0, ⟨#[]⟩⟩ : Nd)] else ([(⟨29, 0, 0, (⟨#[]⟩ : ByteArray)⟩ : Nd)]))), dRow 4 A494 ((if ¬ (if ¬ chk a = 0 then chk a else if ¬ chk a = 0 then chk a else chk t) = 0 then [] else if (nth t (t.length - 1)).K = 29 then [(⟨29, 0, 0, ⟨#[]⟩⟩ : Nd)] else t).length) c495 (encNs (if ¬ (if ¬ chk a = 0 then chk a else if ¬ chk a = 0 then chk a else chk t) = 0 then [] else if (nth t (t.length - 1)).K = 29 then [(⟨29, 0, 0, ⟨#[]⟩⟩ : Nd)] else t))]) 4 ?_ ?_
          · skip
            rcases Decidable.em (((if ¬ chk a = 0 then chk a else if ¬ chk a = 0 then chk a else chk t)) = 0) with h519 | h519
            · skip
              have hR520 := hR518.setb (d := 89) (b := true) rfl (decide_eq_true h519)
              refine r_move (st_listV_w (want_t hR520 rfl rfl rfl (by decide) rfl)) hR520 rfl rfl rfl (by decide) (fun a521 hR522 => ?_)
              refine r_move (st_listV_w (want_t hR522 rfl rfl rfl (by decide) rfl)) hR522 rfl rfl rfl (by decide) (fun a523 hR524 => ?_)
              have hS525 : St w0 Z none_ w490 [.box g350 32 [.int .i64 (((nth a (a.length - 1)).K)), .int .i64 (((nth a (a.length - 1)).N)), .int .i64 (((nth a (a.length - 1)).M)), .string ((nth a (a.length - 1)).S)]] [dShapes, dRow 4 aA a.length ac (encNs a), dRow 4 bA b.length bc (encNs b), dRow 4 tA t.length tc (encNs t), dRow 4 (some ⟨g145, 0, none⟩) 1 1 (encNs ([(⟨29, 0, 0, (⟨#[]⟩ : ByteArray)⟩ : Nd)])), dRow 4 A168 ((if ¬ (if ¬ chk a = 0 then chk a else if ¬ chk b = 0 then chk b else chk ([(⟨29, 0, 0, (⟨#[]⟩ : ByteArray)⟩ : Nd)])) = 0 then [] else if (nth ([(⟨29, 0, 0, (⟨#[]⟩ : ByteArray)⟩ : Nd)]) (([(⟨29, 0, 0, (⟨#[]⟩ : ByteArray)⟩ : Nd)]).length - 1)).K = 29 then [(⟨29, 0, 0, ⟨#[]⟩⟩ : Nd)] else ([(⟨29, 0, 0, (⟨#[]⟩ : ByteArray)⟩ : Nd)])).length) c169 (encNs (if ¬ (if ¬ chk a = 0 then chk a else if ¬ chk b = 0 then chk b else chk ([(⟨29, 0, 0, (⟨#[]⟩ : ByteArray)⟩ : Nd)])) = 0 then [] else if (nth ([(⟨29, 0, 0, (⟨#[]⟩ : ByteArray)⟩ : Nd)]) (([(⟨29, 0, 0, (⟨#[]⟩ : ByteArray)⟩ : Nd)]).length - 1)).K = 29 then [(⟨29, 0, 0, ⟨#[]⟩⟩ : Nd)] else ([(⟨29, 0, 0, (⟨#[]⟩ : ByteArray)⟩ : Nd)]))), dRow 4 A494 ((if ¬ (if ¬ chk a = 0 then chk a else if ¬ chk a = 0 then chk a else chk t) = 0 then [] else if (nth t (t.length - 1)).K = 29 then [(⟨29, 0, 0, ⟨#[]⟩⟩ : Nd)] else t).length) c495 (encNs (if ¬ (if ¬ chk a = 0 then chk a else if ¬ chk a = 0 then chk a else chk t) = 0 then [] else if (nth t (t.length - 1)).K = 29 then [(⟨29, 0, 0, ⟨#[]⟩⟩ : Nd)] else t))] := hS500
              refine k_call (xs := [.tmp 90, .tmp 91]) (st_list_w (want_t hR524 rfl rfl rfl (by decide) rfl)) hR524 rfl rfl rfl (by decide) ok30 (rsame_calls _ (imm Z w0 [.box g350 32 [.int .i64 (((nth a (a.length - 1)).K)), .int .i64 (((nth a (a.length - 1)).N)), .int .i64 (((nth a (a.length - 1)).M)), .string ((nth a (a.length - 1)).S)]] _) (fun _ h => h.1) A494 c495 (if ¬ (if ¬ chk a = 0 then chk a else if ¬ chk a = 0 then chk a else chk t) = 0 then [] else if (nth t (t.length - 1)).K = 29 then [(⟨29, 0, 0, ⟨#[]⟩⟩ : Nd)] else t) tA tc t (hS525.get (i := 6) rfl) (hS525.get (i := 3) rfl) (by (repeat' split) <;> first | omega | (simp; done) | (simp; omega))) ?_
              rintro e532 w527 ⟨rfl, hf530⟩
              have hS533 := hS525.below hf530.below
              refine ⟨_, rfl, fun a526 hR528 => ?_⟩
              refine r_pick_t (st_listV rfl) hR528 rfl rfl rfl rfl (by decide) (fun a534 hR535 => ?_)
              refine wpList_nil ?_
              exact x_then_n ⟨(Reg.cons hR535 (Reg.consb hR535 (hR535.nil) rfl (by first | rfl | (simp only [decide_eq_true h519, if_pos h519, Bool.true_and, Bool.and_true, Bool.false_and, Bool.and_false, Bool.true_or, Bool.or_true, Bool.false_or, Bool.or_false, Bool.not_true, Bool.not_false, if_true, ite_true, ite_false, Bool.false_eq_true]; done) | (simp [h519]; done) | (simp [h519]; omega))) rfl), hS533⟩
            · skip
              have hR536 := hR518.setb (d := 89) (b := false) rfl (decide_eq_false h519)
              refine s_pass hR536 rfl (by decide) (want_f hR536 rfl rfl rfl (by decide) rfl rfl) (fun a537 hR538 => ?_)
              refine s_pass hR538 rfl (by decide) (want_f hR538 rfl rfl rfl (by decide) rfl rfl) (fun a539 hR540 => ?_)
              refine s_pass hR540 rfl (by decide) (want_f hR540 rfl rfl rfl (by decide) rfl rfl) (fun a541 hR542 => ?_)
              refine r_pick_f (st_listV rfl) hR542 rfl rfl rfl rfl (by decide) (fun a543 hR544 => ?_)
              refine wpList_nil ?_
              exact x_then_n ⟨(Reg.cons hR544 (Reg.consb hR544 (hR544.nil) rfl (by first | rfl | (simp only [decide_eq_false h519, if_neg h519, Bool.true_and, Bool.and_true, Bool.false_and, Bool.and_false, Bool.true_or, Bool.or_true, Bool.false_or, Bool.or_false, Bool.not_true, Bool.not_false, if_true, ite_true, ite_false, Bool.false_eq_true]; done) | (simp [h519]; done) | (simp [h519]; omega))) rfl), hS500⟩
          rintro a545 w546 ⟨hR547, hS548⟩
          refine r_assign (st_listV rfl) hR547 rfl rfl rfl (by decide) (fun a549 hR550 => ?_)
          refine wpList_nil ?_
          refine x_then_n (hK512 _ _ ?_)
          refine wp_ret ?_
          refine e_ret1 hR550 rfl rfl ?_
          refine ⟨?_, hS548.fr⟩
          exact congrArg Ending.returned (ret_b (by first | rfl | (simp [chk_tick, chk_nat, chk_v3, root_tick, root_nat, root_v3, h115, h133, h134, h135, h137, h234, h272, h275, h321, h330, h333, h467, h478]; done) | (simp [chk_tick, chk_nat, chk_v3, root_tick, root_nat, root_v3, h115, h133, h134, h135, h137, h234, h272, h275, h321, h330, h333, h467, h478]; exact tick_only (by assumption)) | (by_cases za : chk a = 0 <;> by_cases zb : chk b = 0 <;> simp [chk_tick, za, zb] <;> simp_all) | (simp_all [chk_tick, chk_nat, chk_v3, root_tick, root_nat, root_v3]; done)))
end Go.Proofs.YtobgdeffhdefeaaDoor
