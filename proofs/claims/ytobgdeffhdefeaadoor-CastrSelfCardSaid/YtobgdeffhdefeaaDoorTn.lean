import Derived.Test.YtobgdeffhdefeaaDoorTm
/- Contracts of functions, one theorem each: what the call returns, and that nothing old is changed. Printed by gen.py. -/
namespace Go.Proofs.YtobgdeffhdefeaaDoor
open Go Go.RowKit
set_option linter.unusedSimpArgs false
set_option linter.unusedVariables false

set_option maxRecDepth 100000 in
set_option maxHeartbeats 1000000 in
theorem measured_calls (w0 : World) (Z : Nat → Prop) (hZ : ∀ k, Z k → k < w0.heap.size) (tA : Option Addr) (tc : Nat) (t : List Nd) (hShp : Shapes w0 Z) (ht : (dRow 4 tA t.length tc (encNs t)).φ w0 Z) (hl : t.length ≤ 4000) (hsm : sml t) :
    Calls Tryd.prog 106 [.slice tA t.length tc].toArray w0 (fun e w' => ∃ (rA0 : Option Addr) (rc0 : Nat), e = .returned (.tuple #[.slice rA0 (measL t).length rc0, .bool (measB t)]) ∧ Fr none_ w0 w' ∧ (dRow 2 rA0 ((measL t).length) rc0 (encMs (measL t))).φ w' (nxt Z w0 w')) := by
  have hstart : ∀ k, Z k → imm Z w0 [] w0 k ∧ w0.heap[k]? = w0.heap[k]? := fun k hk => ⟨⟨hZ k hk, fun _ => hk, fun _ h => by cases h⟩, rfl⟩
  have hS3 : St w0 Z none_ w0 [] [dShapes, dRow 4 tA t.length tc (encNs t)] := St.start w0 Z none_ _ (by
    intro d hd
    simp only [List.mem_cons, List.not_mem_nil, or_false] at hd
    rcases hd with rfl | rfl
    · exact Dat.mono _ _ _ _ _ hShp hstart
    · exact Dat.mono _ _ _ _ _ ht hstart
    )
  refine c_enter Tryd.func106 rfl Tryd.ntmps106 rfl (fun a1 hR2 => ?_)
  refine wp_seq_k (fun K4 hK5 => ?_)
  refine c_region ?_
  refine r_assign (st_listV rfl) hR2 rfl rfl rfl (by decide) (fun a6 hR7 => ?_)
  refine r_assign (st_listV rfl) hR7 rfl rfl rfl (by decide) (fun a8 hR9 => ?_)
  refine wpList_nil ?_
  refine x_then_n (hK5 _ _ ?_)
  refine wp_seq_k (fun K10 hK11 => ?_)
  refine c_region ?_
  refine r_assign (st_listV rfl) hR9 rfl rfl rfl (by decide) (fun a12 hR13 => ?_)
  refine r_assign (st_listV rfl) hR13 rfl rfl rfl (by decide) (fun a14 hR15 => ?_)
  refine wpList_nil ?_
  refine x_then_n (hK11 _ _ ?_)
  refine wp_seq_k (fun K16 hK17 => ?_)
  refine wp_seq_k (fun K18 hK19 => ?_)
  refine c_region ?_
  refine r_move (st_listV rfl) hR15 rfl rfl rfl (by decide) (fun a20 hR21 => ?_)
  refine r_len (st_listV rfl) hR21 rfl rfl rfl rfl Tryd.underlying22 (by decide) (fun a22 hR23 => ?_)
  refine r_move (st_listV rfl) hR23 rfl rfl rfl (by decide) (fun a24 hR25 => ?_)
  refine wpList_nil ?_
  refine x_then_n (hK19 _ _ ?_)
  refine wp_block ?_
  have hS26 := hS3.nilrow 121 2
  have hS27 := hS26.nilrow 121 2
  refine wp_loop_ghost (fun gn ga gw => ∃ k : Nat, ∃ st : List T, ∃ Aa : Option Addr, ∃ ca : Nat, ∃ Ao : Option Addr, ∃ co : Nat, (Reg ga 73 [(12, .slice tA t.length tc), (13, .int .i64 ((t.length : Nat) : Int)), (14, .int .i64 ((k : Nat) : Int)), (4, .slice Aa ((allTs 0 st).length) ca), (5, .slice Ao ((meas 0 st).length) co)]) ∧ (St w0 Z none_ gw [.row Aa ((allTs 0 st).length) ca 121 2 (encMs (allTs 0 st)), .row Ao ((meas 0 st).length) co 121 2 (encMs (meas 0 st))] [dShapes, dRow 4 tA t.length tc (encNs t)]) ∧ (k ≤ t.length) ∧ (scanT [] (t.take k) = some st) ∧ (t.length - k) = gn) _ ⟨0, [], none, 0, none, 0, (Reg.cons hR25 (Reg.cons hR25 (Reg.cons hR25 (Reg.cons hR25 (Reg.cons hR25 (hR25.nil) rfl) rfl) rfl) rfl) rfl), hS27, by omega, rfl, rfl⟩ ?_
  rintro r28 a29 w30 ⟨k, st, Aa, ca, Ao, co, hR31, hS32, hk, hsc, hn33⟩
  have hfl := scan_flats hsc hk
  have hml := meas_length 0 st
  have hal := allTs_length 0 st
  have hsl := flats_len_ge st
  refine wp_seq_k (fun K34 hK35 => ?_)
  refine c_region ?_
  refine r_lss (st_listV rfl) hR31 rfl rfl rfl rfl (by decide) (fun a36 hR37 => ?_)
  refine wpList_nil ?_
  refine x_then_n (hK35 _ _ ?_)
  refine wp_seq_k (fun K38 hK39 => ?_)
  rcases Decidable.em (((k : Nat) : Int) < ((t.length : Nat) : Int)) with h40 | h40
  · skip
    have hR41 := hR37.setb (d := 15) (b := true) rfl (decide_eq_true h40)
    refine wp_cond_true (hR41.ev rfl) ?_
    refine wp_skip ?_
    refine x_then_n (hK39 _ _ ?_)
    refine wp_seq_k (fun K42 hK43 => ?_)
    refine wp_block ?_
    refine wp_seq_k (fun K44 hK45 => ?_)
    refine c_region ?_
    refine r_move (st_listV rfl) hR41 rfl rfl rfl (by decide) (fun a46 hR47 => ?_)
    refine m_index (i := k) (j := k * 4) (st_listV rfl) hR47 rfl rfl rfl rfl Tryd.underlying22 sz32 (by omega) (by omega) (nds_elem (t := t) (k := k) (hS32.row (i := 1) rfl).2 (by omega)).some_ rfl (by decide) (fun a48 hR49 => ?_)
    refine m_loadEN (st_listV rfl) hR49 rfl rfl rfl (nds_elem (t := t) (k := k) (hS32.row (i := 1) rfl).2 (by omega)) Tryd.underlying32 rfl sz32 (by decide) (fun a50 hR51 => ?_)
    refine m_alloc (cs := [.int .i64 0, .int .i64 0, .int .i64 0, .string (⟨#[]⟩ : ByteArray)]) (st_listV rfl) hR51 hS32 rfl rfl ze32 rfl (by decide) (fun a52 w53 g54 hR55 hS56 => ?_)
    refine r_assign (st_listV rfl) hR55 rfl rfl rfl (by decide) (fun a57 hR58 => ?_)
    refine m_store (i := 2) (cs' := [.int .i64 (((nth t k).K)), .int .i64 (((nth t k).N)), .int .i64 (((nth t k).M)), .string ((nth t k).S)]) (st_list rfl) hR58 hS56 rfl rfl rfl rfl rfl sz32 rfl rfl rfl (fun a59 w60 hR61 hS62 => ?_)
    refine wpList_nil ?_
    refine x_then_n (hK45 _ _ ?_)
    refine wp_seq_k (fun K63 hK64 => ?_)
    refine wp_seq_k (fun K65 hK66 => ?_)
    refine c_region ?_
    refine m_loadN (i := 2) (vs := [.int .i64 (((nth t k).K)), .int .i64 (((nth t k).N)), .int .i64 (((nth t k).M)), .string ((nth t k).S)]) (st_listV rfl) hR61 hS62 rfl rfl rfl rfl rfl Tryd.underlying32 rfl sz32 (by decide) (fun a67 hR68 => ?_)
    have hS69 : St w0 Z none_ w60 [.row Aa ((allTs 0 st).length) ca 121 2 (encMs (allTs 0 st)), .row Ao ((meas 0 st).length) co 121 2 (encMs (meas 0 st)), .box g54 32 [.int .i64 (((nth t k).K)), .int .i64 (((nth t k).N)), .int .i64 (((nth t k).M)), .string ((nth t k).S)]] [dShapes, dRow 4 tA t.length tc (encNs t)] := hS62
    refine k_call (xs := [.tmp 19]) (st_list rfl) hR68 rfl rfl rfl (by decide) ok112 (right_calls _ (imm Z w0 [.row Aa ((allTs 0 st).length) ca 121 2 (encMs (allTs 0 st)), .row Ao ((meas 0 st).length) co 121 2 (encMs (meas 0 st)), .box g54 32 [.int .i64 (((nth t k).K)), .int .i64 (((nth t k).N)), .int .i64 (((nth t k).M)), .string ((nth t k).S)]] _) (fun _ h => h.1) (nth t k) (hS69.get (i := 0) rfl) (hsm _ (by omega))) ?_
    rintro e76 w71 ⟨rfl, hf74⟩
    have hS77 := hS69.below hf74.below
    refine ⟨_, rfl, fun a70 hR72 => ?_⟩
    refine r_not (st_listV rfl) hR72 rfl rfl rfl (by decide) (fun a78 hR79 => ?_)
    refine r_move (st_listV rfl) hR79 rfl rfl rfl (by decide) (fun a80 hR81 => ?_)
    refine l_join (fun ga gw => Reg ga 73 [(4, .slice Aa ((allTs 0 st).length) ca), (5, .slice Ao ((meas 0 st).length) co), (6, .int .i64 ((k : Nat) : Int)), (7, .pointer (some ⟨g54, 0, none⟩)), (12, .slice tA t.length tc), (13, .int .i64 ((t.length : Nat) : Int)), (14, .int .i64 ((k : Nat) : Int)), (28, .bool ((!(right (nth t k))) || (decide ((((meas 0 st).length : Nat) : Int) < ((many (nth t k) : Nat) : Int)))))] ∧ St w0 Z none_ gw [.row Aa ((allTs 0 st).length) ca 121 2 (encMs (allTs 0 st)), .row Ao ((meas 0 st).length) co 121 2 (encMs (meas 0 st)), .box g54 32 [.int .i64 (((nth t k).K)), .int .i64 (((nth t k).N)), .int .i64 (((nth t k).M)), .string ((nth t k).S)]] [dShapes, dRow 4 tA t.length tc (encNs t)]) 6 ?_ ?_
    · skip
      rcases Bool.eq_false_or_eq_true (right (nth t k)) with h82 | h82
      · skip
        have hR83 := hR81.setb (d := 22) (b := false) rfl (by rw [h82]; rfl)
        refine m_loadN (i := 2) (vs := [.int .i64 (((nth t k).K)), .int .i64 (((nth t k).N)), .int .i64 (((nth t k).M)), .string ((nth t k).S)]) (st_listV_w (want_t hR83 rfl rfl rfl (by decide) rfl)) hR83 hS77 rfl rfl rfl rfl rfl Tryd.underlying32 rfl sz32 (by decide) (fun a84 hR85 => ?_)
        have hS86 : St w0 Z none_ w71 [.row Aa ((allTs 0 st).length) ca 121 2 (encMs (allTs 0 st)), .row Ao ((meas 0 st).length) co 121 2 (encMs (meas 0 st)), .box g54 32 [.int .i64 (((nth t k).K)), .int .i64 (((nth t k).N)), .int .i64 (((nth t k).M)), .string ((nth t k).S)]] [dShapes, dRow 4 tA t.length tc (encNs t)] := hS77
        refine k_call (xs := [.tmp 23]) (st_list_w (want_t hR85 rfl rfl rfl (by decide) rfl)) hR85 rfl rfl rfl (by decide) ok126 (many_calls _ (imm Z w0 [.row Aa ((allTs 0 st).length) ca 121 2 (encMs (allTs 0 st)), .row Ao ((meas 0 st).length) co 121 2 (encMs (meas 0 st)), .box g54 32 [.int .i64 (((nth t k).K)), .int .i64 (((nth t k).N)), .int .i64 (((nth t k).M)), .string ((nth t k).S)]] _) (fun _ h => h.1) (nth t k) (hS86.get (i := 0) rfl) (by first | assumption | omega | (simp; done) | (simp; omega))) ?_
        rintro e93 w88 ⟨rfl, hf91⟩
        have hS94 := hS86.below hf91.below
        refine ⟨_, rfl, fun a87 hR89 => ?_⟩
        refine r_move (st_listV_w (want_t hR89 rfl rfl rfl (by decide) rfl)) hR89 rfl rfl rfl (by decide) (fun a95 hR96 => ?_)
        refine r_len (st_listV_w (want_t hR96 rfl rfl rfl (by decide) rfl)) hR96 rfl rfl rfl rfl Tryd.underlying87 (by decide) (fun a97 hR98 => ?_)
        refine r_gtr (st_listV_w (want_t hR98 rfl rfl rfl (by decide) rfl)) hR98 rfl rfl rfl rfl (by decide) (fun a99 hR100 => ?_)
        refine r_pick_f (st_listV rfl) hR100 rfl rfl rfl rfl (by decide) (fun a101 hR102 => ?_)
        refine wpList_nil ?_
        exact x_then_n ⟨(Reg.cons hR102 (Reg.cons hR102 (Reg.cons hR102 (Reg.cons hR102 (Reg.cons hR102 (Reg.cons hR102 (Reg.cons hR102 (Reg.consb hR102 (hR102.nil) rfl (by first | rfl | (simp only [h82, Bool.true_and, Bool.and_true, Bool.false_and, Bool.and_false, Bool.true_or, Bool.or_true, Bool.false_or, Bool.or_false, Bool.not_true, Bool.not_false, if_true, ite_true, ite_false, Bool.false_eq_true]; done) | (simp [h82]; done) | (simp [h82]; omega))) rfl) rfl) rfl) rfl) rfl) rfl) rfl), hS94⟩
      · skip
        have hR103 := hR81.setb (d := 22) (b := true) rfl (by rw [h82]; rfl)
        refine s_pass hR103 rfl (by decide) (want_f hR103 rfl rfl rfl (by decide) rfl rfl) (fun a104 hR105 => ?_)
        refine s_pass hR105 rfl (by decide) (want_f hR105 rfl rfl rfl (by decide) rfl rfl) (fun a106 hR107 => ?_)
        refine s_pass hR107 rfl (by decide) (want_f hR107 rfl rfl rfl (by decide) rfl rfl) (fun a108 hR109 => ?_)
        refine s_pass hR109 rfl (by decide) (want_f hR109 rfl rfl rfl (by decide) rfl rfl) (fun a110 hR111 => ?_)
        refine s_pass hR111 rfl (by decide) (want_f hR111 rfl rfl rfl (by decide) rfl rfl) (fun a112 hR113 => ?_)
        refine r_pick_t (st_listV rfl) hR113 rfl rfl rfl rfl (by decide) (fun a114 hR115 => ?_)
        refine wpList_nil ?_
        exact x_then_n ⟨(Reg.cons hR115 (Reg.cons hR115 (Reg.cons hR115 (Reg.cons hR115 (Reg.cons hR115 (Reg.cons hR115 (Reg.cons hR115 (Reg.consb hR115 (hR115.nil) rfl (by first | rfl | (simp only [h82, Bool.true_and, Bool.and_true, Bool.false_and, Bool.and_false, Bool.true_or, Bool.or_true, Bool.false_or, Bool.or_false, Bool.not_true, Bool.not_false, if_true, ite_true, ite_false, Bool.false_eq_true]; done) | (simp [h82]; done) | (simp [h82]; omega))) rfl) rfl) rfl) rfl) rfl) rfl) rfl), hS77⟩
    rintro a116 w117 ⟨hR118, hS119⟩
    refine wpList_nil ?_
    refine x_then_n (hK66 _ _ ?_)
    rcases Bool.eq_false_or_eq_true (((!(right (nth t k))) || (decide ((((meas 0 st).length : Nat) : Int) < ((many (nth t k) : Nat) : Int))))) with h120 | h120
    · skip
      have hq121 := h120
      try simp only [Bool.or_eq_true, Bool.and_eq_true, Bool.not_eq_true', Bool.not_eq_false', decide_eq_true_eq, decide_eq_false_iff_not, Bool.or_eq_false_iff, Bool.and_eq_false_iff] at hq121
      have hR122 := hR118.setb (d := 28) (b := true) rfl h120
      refine wp_cond_true (hR122.ev rfl) ?_
      refine wp_seq_k (fun K123 hK124 => ?_)
      refine c_region ?_
      refine r_assign (st_listV rfl) hR122 rfl rfl rfl (by decide) (fun a125 hR126 => ?_)
      refine r_assign (st_listV rfl) hR126 rfl rfl rfl (by decide) (fun a127 hR128 => ?_)
      refine wpList_nil ?_
      refine x_then_n (hK124 _ _ ?_)
      refine wp_ret ?_
      refine x_then_r ?_
      refine x_block_r ?_
      refine x_then_r ?_
      refine x_then_r ?_
      refine x_block_r ?_
      refine x_then_r ?_
      refine e_ret2 hR128 rfl rfl rfl ?_
      have he129 : measL t = [] := (meas_bad (scan_none hsc (by omega) (push_none (by rcases hq121 with h | h; exact .inl h; exact .inr (by omega))))).1
      rw [he129]
      refine ⟨none, 0, ?_, hS119.fr, ⟨Nat.le_refl _, RowI.nil _ _ _ _⟩⟩
      exact ret_t2 rfl (ret_b (by exact (meas_bad (scan_none hsc (by omega) (push_none (by rcases hq121 with h | h; exact .inl h; exact .inr (by omega))))).2.symm))
    · skip
      have h130 := or_fl h120
      have h131 := not_f h130
      have h132 := or_fr h120
      have h133 := of_decide_eq_false h132
      have hR134 := hR118.setb (d := 28) (b := false) rfl h120
      refine wp_cond_false (hR134.ev rfl) ?_
      refine wp_skip ?_
      refine x_then_n (hK64 _ _ ?_)
      refine wp_seq_k (fun K135 hK136 => ?_)
      refine c_region ?_
      refine r_move (st_listV rfl) hR134 rfl rfl rfl (by decide) (fun a137 hR138 => ?_)
      refine r_len (st_listV rfl) hR138 rfl rfl rfl rfl Tryd.underlying87 (by decide) (fun a139 hR140 => ?_)
      refine m_loadN (i := 2) (vs := [.int .i64 (((nth t k).K)), .int .i64 (((nth t k).N)), .int .i64 (((nth t k).M)), .string ((nth t k).S)]) (st_listV rfl) hR140 hS119 rfl rfl rfl rfl rfl Tryd.underlying32 rfl sz32 (by decide) (fun a141 hR142 => ?_)
      have hS143 : St w0 Z none_ w117 [.row Aa ((allTs 0 st).length) ca 121 2 (encMs (allTs 0 st)), .row Ao ((meas 0 st).length) co 121 2 (encMs (meas 0 st)), .box g54 32 [.int .i64 (((nth t k).K)), .int .i64 (((nth t k).N)), .int .i64 (((nth t k).M)), .string ((nth t k).S)]] [dShapes, dRow 4 tA t.length tc (encNs t)] := hS119
      refine k_call (xs := [.tmp 31]) (st_list rfl) hR142 rfl rfl rfl (by decide) ok126 (many_calls _ (imm Z w0 [.row Aa ((allTs 0 st).length) ca 121 2 (encMs (allTs 0 st)), .row Ao ((meas 0 st).length) co 121 2 (encMs (meas 0 st)), .box g54 32 [.int .i64 (((nth t k).K)), .int .i64 (((nth t k).N)), .int .i64 (((nth t k).M)), .string ((nth t k).S)]] _) (fun _ h => h.1) (nth t k) (hS143.get (i := 0) rfl) (by first | assumption | omega | (simp; done) | (simp; omega))) ?_
      rintro e150 w145 ⟨rfl, hf148⟩
      have hS151 := hS143.below hf148.below
      refine ⟨_, rfl, fun a144 hR146 => ?_⟩
      refine r_sub (z := ((((meas 0 st).length : Nat) : Int) - ((many (nth t k) : Nat) : Int))) (st_listV rfl) hR146 rfl rfl rfl rfl (by decide) (by omega) (by omega) (by omega) (fun a152 hR153 => ?_)
      refine r_assign (st_listV rfl) hR153 rfl rfl rfl (by decide) (fun a154 hR155 => ?_)
      refine wpList_nil ?_
      refine x_then_n (hK136 _ _ ?_)
      refine wp_seq_k (fun K156 hK157 => ?_)
      refine c_region ?_
      refine r_move (st_listV rfl) hR155 rfl rfl rfl (by decide) (fun a158 hR159 => ?_)
      refine m_build (ps := [(0, .tmp 34), (1, .const (.int .i64 1))]) (v := .agg #[.int .i64 ((k : Nat) : Int), .int .i64 1]) (st_listV rfl) hR159 rfl rfl rfl (fun _ => by kernel_rfl) (by decide) (fun a160 hR161 => ?_)
      refine m_alloc (cs := [.int .i64 0, .int .i64 0]) (st_listV rfl) hR161 hS151 rfl rfl ze121 rfl (by decide) (fun a162 w163 g164 hR165 hS166 => ?_)
      refine m_store (i := 3) (cs' := [.int .i64 ((k : Nat) : Int), .int .i64 1]) (st_list rfl) hR165 hS166 rfl rfl rfl rfl rfl sz121 rfl rfl rfl (fun a167 w168 hR169 hS170 => ?_)
      refine wpList_nil ?_
      refine x_then_n (hK157 _ _ ?_)
      refine wp_seq_k (fun K171 hK172 => ?_)
      refine wp_seq_k (fun K173 hK174 => ?_)
      refine c_region ?_
      refine r_move (st_listV rfl) hR169 rfl rfl rfl (by decide) (fun a175 hR176 => ?_)
      refine r_move (st_listV rfl) hR176 rfl rfl rfl (by decide) (fun a177 hR178 => ?_)
      have hcap185 := own_cap (hS170.res (i := 1) rfl)
      refine m_sliceV (lo := some (.tmp 37)) (hi := none) (vlo := (some (.int .i64 ((((meas 0 st).length : Nat) : Int) - ((many (nth t k) : Nat) : Int))))) (vhi := none) (kd := .i64) (kd' := .i64) (st_listV rfl) hR178 rfl rfl rfl rfl rfl (((meas 0 st).length) - (many (nth t k))) (many (nth t k)) (.inl (by congr 2; omega)) (.inr ⟨rfl, by omega⟩) Tryd.underlying87 sz121 (by omega) (by decide) (fun a179 A181 c182 hc183 hv184 hR180 => ?_)
      refine r_len (st_listV rfl) hR180 rfl rfl rfl rfl Tryd.underlying87 (by decide) (fun a186 hR187 => ?_)
      refine r_move (st_listV rfl) hR187 rfl rfl rfl (by decide) (fun a188 hR189 => ?_)
      refine wpList_nil ?_
      refine x_then_n (hK174 _ _ ?_)
      refine wp_block ?_
      refine wp_loop_ghost (fun gn ga gw => ∃ j : Nat, (Reg ga 73 [(4, .slice Aa ((allTs 0 st).length) ca), (5, .slice Ao ((meas 0 st).length) co), (12, .slice tA t.length tc), (13, .int .i64 ((t.length : Nat) : Int)), (14, .int .i64 ((k : Nat) : Int)), (8, .int .i64 ((((meas 0 st).length : Nat) : Int) - ((many (nth t k) : Nat) : Int))), (9, .pointer (some ⟨g164, 0, none⟩)), (38, .slice A181 (many (nth t k)) c182), (39, .int .i64 ((many (nth t k) : Nat) : Int)), (40, .int .i64 ((j : Nat) : Int))]) ∧ (St w0 Z none_ gw [.row Aa ((allTs 0 st).length) ca 121 2 (encMs (allTs 0 st)), .row Ao ((meas 0 st).length) co 121 2 (encMs (meas 0 st)), .box g54 32 [.int .i64 (((nth t k).K)), .int .i64 (((nth t k).N)), .int .i64 (((nth t k).M)), .string ((nth t k).S)], .box g164 121 [.int .i64 ((fromQ k (meas 0 st) (((meas 0 st).length) - (many (nth t k))) j)), .int .i64 ((deepQ (meas 0 st) (((meas 0 st).length) - (many (nth t k))) j))]] [dShapes, dRow 4 tA t.length tc (encNs t)]) ∧ (j ≤ many (nth t k)) ∧ (many (nth t k) - j) = gn) _ ⟨0, (Reg.cons hR189 (Reg.cons hR189 (Reg.cons hR189 (Reg.cons hR189 (Reg.cons hR189 (Reg.cons hR189 (Reg.cons hR189 (Reg.cons hR189 (Reg.cons hR189 (Reg.cons hR189 (hR189.nil) rfl) rfl) rfl) rfl) rfl) rfl) rfl) rfl) rfl) rfl), hS170, by omega, rfl⟩ ?_
      rintro r190 a191 w192 ⟨j, hR193, hS194, hj, hn195⟩
      obtain ⟨hd1, hd2⟩ := deepQ_le (st := st) (b := ((meas 0 st).length) - (many (nth t k))) (q := j)
      obtain ⟨hd3, hd4⟩ := meas_deep_le (st := st) (i := (((meas 0 st).length) - (many (nth t k))) + j)
      refine wp_seq_k (fun K196 hK197 => ?_)
      refine c_region ?_
      refine r_lss (st_listV rfl) hR193 rfl rfl rfl rfl (by decide) (fun a198 hR199 => ?_)
      refine wpList_nil ?_
      refine x_then_n (hK197 _ _ ?_)
      refine wp_seq_k (fun K200 hK201 => ?_)
      rcases Decidable.em (((j : Nat) : Int) < ((many (nth t k) : Nat) : Int)) with h202 | h202
      · skip
        have hR203 := hR199.setb (d := 41) (b := true) rfl (decide_eq_true h202)
        refine wp_cond_true (hR203.ev rfl) ?_
        refine wp_skip ?_
        refine x_then_n (hK201 _ _ ?_)
        refine wp_seq_k (fun K204 hK205 => ?_)
        refine wp_block ?_
        refine wp_seq_k (fun K206 hK207 => ?_)
        refine c_region ?_
        refine r_move (st_listV rfl) hR203 rfl rfl rfl (by decide) (fun a208 hR209 => ?_)
        refine m_index (i := j) (j := j * 2) (st_listV rfl) hR209 rfl rfl rfl rfl Tryd.underlying87 sz121 (by omega) (by omega) (Cut.elem hv184 (by omega) (own_ms (t := meas 0 st) (k := (((meas 0 st).length) - (many (nth t k))) + j) (hS194.res (i := 1) rfl) (by omega))).some_ rfl (by decide) (fun a210 hR211 => ?_)
        refine m_loadEN (st_listV rfl) hR211 rfl rfl rfl (Cut.elem hv184 (by omega) (own_ms (t := meas 0 st) (k := (((meas 0 st).length) - (many (nth t k))) + j) (hS194.res (i := 1) rfl) (by omega))) Tryd.underlying121 rfl sz121 (by decide) (fun a212 hR213 => ?_)
        refine m_alloc (cs := [.int .i64 0, .int .i64 0]) (st_listV rfl) hR213 hS194 rfl rfl ze121 rfl (by decide) (fun a214 w215 g216 hR217 hS218 => ?_)
        refine r_assign (st_listV rfl) hR217 rfl rfl rfl (by decide) (fun a219 hR220 => ?_)
        refine m_store (i := 4) (cs' := [.int .i64 (((nthM (meas 0 st) ((((meas 0 st).length) - (many (nth t k))) + j)).1)), .int .i64 (((nthM (meas 0 st) ((((meas 0 st).length) - (many (nth t k))) + j)).2))]) (st_list rfl) hR220 hS218 rfl rfl rfl rfl rfl sz121 rfl rfl rfl (fun a221 w222 hR223 hS224 => ?_)
        refine wpList_nil ?_
        refine x_then_n (hK207 _ _ ?_)
        refine c_join (fun ga gw => Reg ga 73 [(4, .slice Aa ((allTs 0 st).length) ca), (5, .slice Ao ((meas 0 st).length) co), (8, .int .i64 ((((meas 0 st).length : Nat) : Int) - ((many (nth t k) : Nat) : Int))), (9, .pointer (some ⟨g164, 0, none⟩)), (11, .pointer (some ⟨g216, 0, none⟩)), (12, .slice tA t.length tc), (13, .int .i64 ((t.length : Nat) : Int)), (14, .int .i64 ((k : Nat) : Int)), (38, .slice A181 (many (nth t k)) c182), (39, .int .i64 ((many (nth t k) : Nat) : Int)), (40, .int .i64 ((j : Nat) : Int))] ∧ St w0 Z none_ gw [.row Aa ((allTs 0 st).length) ca 121 2 (encMs (allTs 0 st)), .row Ao ((meas 0 st).length) co 121 2 (encMs (meas 0 st)), .box g54 32 [.int .i64 (((nth t k).K)), .int .i64 (((nth t k).N)), .int .i64 (((nth t k).M)), .string ((nth t k).S)], .box g164 121 [.int .i64 ((if (((j : Nat) : Int) = 0) then (((nthM (meas 0 st) ((((meas 0 st).length) - (many (nth t k))) + j)).1)) else ((fromQ k (meas 0 st) (((meas 0 st).length) - (many (nth t k))) j)))), .int .i64 ((deepQ (meas 0 st) (((meas 0 st).length) - (many (nth t k))) j))], .box g216 121 [.int .i64 (((nthM (meas 0 st) ((((meas 0 st).length) - (many (nth t k))) + j)).1)), .int .i64 (((nthM (meas 0 st) ((((meas 0 st).length) - (many (nth t k))) + j)).2))]] [dShapes, dRow 4 tA t.length tc (encNs t)]) ?_ ?_
        · skip
          refine wp_seq_k (fun K225 hK226 => ?_)
          refine c_region ?_
          refine r_move (st_listV rfl) hR223 rfl rfl rfl (by decide) (fun a227 hR228 => ?_)
          refine r_eql (st_listV rfl) hR228 rfl rfl rfl rfl (by decide) (fun a229 hR230 => ?_)
          refine wpList_nil ?_
          refine x_then_n (hK226 _ _ ?_)
          rcases Decidable.em (((j : Nat) : Int) = 0) with h231 | h231
          · skip
            have hR232 := hR230.setb (d := 46) (b := true) rfl (decide_eq_true h231)
            refine wp_cond_true (hR232.ev rfl) ?_
            refine c_region ?_
            refine m_field (j' := 0) (st_listV rfl) hR232 rfl rfl rfl Tryd.underlying121 rfl sz3 rfl rfl (by decide) (fun a233 hR234 => ?_)
            refine m_load (i := 4) (st_listV rfl) hR234 hS224 rfl rfl rfl rfl rfl Tryd.underlying3 rfl (by decide) (fun a235 hR236 => ?_)
            refine m_field (j' := 0) (st_listV rfl) hR236 rfl rfl rfl Tryd.underlying121 rfl sz3 rfl rfl (by decide) (fun a237 hR238 => ?_)
            refine m_store (i := 3) (cs' := [.int .i64 (((nthM (meas 0 st) ((((meas 0 st).length) - (many (nth t k))) + j)).1)), .int .i64 ((deepQ (meas 0 st) (((meas 0 st).length) - (many (nth t k))) j))]) (st_list rfl) hR238 hS224 rfl rfl rfl rfl rfl sz3 rfl rfl rfl (fun a239 w240 hR241 hS242 => ?_)
            refine wpList_nil ?_
            have hSj := hS242
            exact x_then_n ⟨(Reg.cons hR241 (Reg.cons hR241 (Reg.cons hR241 (Reg.cons hR241 (Reg.cons hR241 (Reg.cons hR241 (Reg.cons hR241 (Reg.cons hR241 (Reg.cons hR241 (Reg.cons hR241 (Reg.cons hR241 (hR241.nil) rfl) rfl) rfl) rfl) rfl) rfl) rfl) rfl) rfl) rfl) rfl), by rw [(show (((if (((j : Nat) : Int) = 0) then (((nthM (meas 0 st) ((((meas 0 st).length) - (many (nth t k))) + j)).1)) else ((fromQ k (meas 0 st) (((meas 0 st).length) - (many (nth t k))) j)))) : Int) = (((nthM (meas 0 st) ((((meas 0 st).length) - (many (nth t k))) + j)).1)) by first | rfl | (simp only [decide_eq_true h231, if_pos h231, Bool.true_and, Bool.and_true, Bool.false_and, Bool.and_false, Bool.true_or, Bool.or_true, Bool.false_or, Bool.or_false, Bool.not_true, Bool.not_false, if_true, ite_true, ite_false, Bool.false_eq_true]; done) | (simp [h231]; done) | (simp [h231]; omega))]; exact hSj⟩
          · skip
            have hR243 := hR230.setb (d := 46) (b := false) rfl (decide_eq_false h231)
            refine wp_cond_false (hR243.ev rfl) ?_
            refine wp_skip ?_
            have hSj := hS224
            exact x_then_n ⟨(Reg.cons hR243 (Reg.cons hR243 (Reg.cons hR243 (Reg.cons hR243 (Reg.cons hR243 (Reg.cons hR243 (Reg.cons hR243 (Reg.cons hR243 (Reg.cons hR243 (Reg.cons hR243 (Reg.cons hR243 (hR243.nil) rfl) rfl) rfl) rfl) rfl) rfl) rfl) rfl) rfl) rfl) rfl), by rw [(show (((if (((j : Nat) : Int) = 0) then (((nthM (meas 0 st) ((((meas 0 st).length) - (many (nth t k))) + j)).1)) else ((fromQ k (meas 0 st) (((meas 0 st).length) - (many (nth t k))) j)))) : Int) = ((fromQ k (meas 0 st) (((meas 0 st).length) - (many (nth t k))) j)) by first | rfl | (simp only [decide_eq_false h231, if_neg h231, Bool.true_and, Bool.and_true, Bool.false_and, Bool.and_false, Bool.true_or, Bool.or_true, Bool.false_or, Bool.or_false, Bool.not_true, Bool.not_false, if_true, ite_true, ite_false, Bool.false_eq_true]; done) | (simp [h231]; done) | (simp [h231]; omega))]; exact hSj⟩
        rintro a244 w245 ⟨hR246, hS247⟩
        refine c_region ?_
        refine m_field (j' := 1) (st_listV rfl) hR246 rfl rfl rfl Tryd.underlying121 rfl sz3 rfl rfl (by decide) (fun a248 hR249 => ?_)
        refine m_load (i := 3) (st_listV rfl) hR249 hS247 rfl rfl rfl rfl rfl Tryd.underlying3 rfl (by decide) (fun a250 hR251 => ?_)
        refine m_field (j' := 1) (st_listV rfl) hR251 rfl rfl rfl Tryd.underlying121 rfl sz3 rfl rfl (by decide) (fun a252 hR253 => ?_)
        refine m_load (i := 4) (st_listV rfl) hR253 hS247 rfl rfl rfl rfl rfl Tryd.underlying3 rfl (by decide) (fun a254 hR255 => ?_)
        refine r_add (z := (((nthM (meas 0 st) ((((meas 0 st).length) - (many (nth t k))) + j)).2) + 1)) (st_listV rfl) hR255 rfl rfl rfl rfl (by decide) (by omega) (by omega) (by omega) (fun a256 hR257 => ?_)
        refine r_max (st_listV rfl) hR257 rfl rfl rfl rfl rfl (by decide) (fun a258 hR259 => ?_)
        refine m_field (j' := 1) (st_listV rfl) hR259 rfl rfl rfl Tryd.underlying121 rfl sz3 rfl rfl (by decide) (fun a260 hR261 => ?_)
        refine m_store (i := 3) (cs' := [.int .i64 ((if (((j : Nat) : Int) = 0) then (((nthM (meas 0 st) ((((meas 0 st).length) - (many (nth t k))) + j)).1)) else ((fromQ k (meas 0 st) (((meas 0 st).length) - (many (nth t k))) j)))), .int .i64 ((max ((deepQ (meas 0 st) (((meas 0 st).length) - (many (nth t k))) j)) (((nthM (meas 0 st) ((((meas 0 st).length) - (many (nth t k))) + j)).2) + 1)))]) (st_list rfl) hR261 hS247 rfl rfl rfl rfl rfl sz3 rfl rfl rfl (fun a262 w263 hR264 hS265 => ?_)
        refine wpList_nil ?_
        refine x_block_n ?_
        refine x_then_n (hK205 _ _ ?_)
        refine c_region ?_
        refine r_add (z := ((j + 1 : Nat) : Int)) (st_listV rfl) hR264 rfl rfl rfl rfl (by decide) (by omega) (by omega) (by omega) (fun a266 hR267 => ?_)
        refine r_move (st_listV rfl) hR267 rfl rfl rfl (by decide) (fun a268 hR269 => ?_)
        refine wpList_nil ?_
        have he270 : ((if (((j : Nat) : Int) = 0) then (((nthM (meas 0 st) ((((meas 0 st).length) - (many (nth t k))) + j)).1)) else ((fromQ k (meas 0 st) (((meas 0 st).length) - (many (nth t k))) j)))) = ((fromQ k (meas 0 st) (((meas 0 st).length) - (many (nth t k))) (j + 1))) := by unfold fromQ; (repeat' split) <;> first | rfl | omega | (congr 2; omega) | (congr 3; omega)
        have hS271 := hS265
        rw [he270] at hS271
        have he272 : ((max ((deepQ (meas 0 st) (((meas 0 st).length) - (many (nth t k))) j)) (((nthM (meas 0 st) ((((meas 0 st).length) - (many (nth t k))) + j)).2) + 1))) = ((deepQ (meas 0 st) (((meas 0 st).length) - (many (nth t k))) (j + 1))) := rfl
        have hS273 := hS271
        rw [he272] at hS273
        have hS274 := hS273.erase 4
        exact ⟨_, by omega, j + 1, (Reg.cons hR269 (Reg.cons hR269 (Reg.cons hR269 (Reg.cons hR269 (Reg.cons hR269 (Reg.cons hR269 (Reg.cons hR269 (Reg.cons hR269 (Reg.cons hR269 (Reg.cons hR269 (hR269.nil) rfl) rfl) rfl) rfl) rfl) rfl) rfl) rfl) rfl) rfl), hS274, by omega, rfl⟩
      · skip
        have hR275 := hR199.setb (d := 41) (b := false) rfl (decide_eq_false h202)
        refine wp_cond_false (hR275.ev rfl) ?_
        refine wp_exit ?_
        refine x_then_e ?_
        refine x_then_e ?_
        refine x_block_eq ?_
        refine x_then_n (hK172 _ _ ?_)
        refine wp_seq_k (fun K276 hK277 => ?_)
        obtain ⟨J278, hJ279, hS280⟩ := hS194.agree
        refine d_region2 (S := (fun x => (∀ k, J278 k → x.heap[k]? = w192.heap[k]?) ∧ (x.cell? ⟨g164, 0, none⟩ = some (.int .i64 ((fromQ k (meas 0 st) (((meas 0 st).length) - (many (nth t k))) j)))) ∧ (x.cell? ⟨g164, 1, none⟩ = some (.int .i64 ((deepQ (meas 0 st) (((meas 0 st).length) - (many (nth t k))) j)))) ∧ (True))) (n := 7) mixed rfl hS280 (pan_then (pan_block (pan_then (pan_then (pan_block (pan_then pan_body)))))) (fun Q283 hP284 hN285 w281 hS282 => ?_)
        have hSw286 : (∀ k, J278 k → w281.heap[k]? = w192.heap[k]?) ∧ (w281.cell? ⟨g164, 0, none⟩ = some (.int .i64 ((fromQ k (meas 0 st) (((meas 0 st).length) - (many (nth t k))) j)))) ∧ (w281.cell? ⟨g164, 1, none⟩ = some (.int .i64 ((deepQ (meas 0 st) (((meas 0 st).length) - (many (nth t k))) j)))) ∧ (True) := ⟨fun k hk => (hS282.get (i := 2) rfl k hk).2, (box_cell (hS282.res (i := 3) rfl) rfl), (box_cell (hS282.res (i := 3) rfl) rfl), trivial⟩
        refine d_take (i := 0) rfl (by kernel_rfl) (by kernel_rfl) (by kernel_rfl) (fun c a w h => hP284 c _ _ _ _ h) rfl (by decide) hR275 (want_n rfl) (fun x hx => r_move (st_yield hR275 rfl (by decide)) hR275 rfl rfl rfl (by decide) (fun _ h => ⟨h.get _ _ rfl, rfl⟩)) hSw286 (fun a287 hR288 => ?_)
        refine d_take (i := 1) rfl (by kernel_rfl) (by kernel_rfl) (by kernel_rfl) (fun c a w h => hP284 c _ _ _ _ h) rfl (by decide) hR288 (want_n rfl) (fun x hx => r_move (st_yield hR288 rfl (by decide)) hR288 rfl rfl rfl (by decide) (fun _ h => ⟨h.get _ _ rfl, rfl⟩)) hSw286 (fun a289 hR290 => ?_)
        refine d_take (i := 2) rfl (by kernel_rfl) (by kernel_rfl) (by kernel_rfl) (fun c a w h => hP284 c _ _ _ _ h) rfl (by decide) hR290 (want_n rfl) (fun x hx => m_sliceP (q := ((meas 0 st).length) - (many (nth t k))) (st_yield hR290 rfl (by decide)) hR290 rfl rfl rfl rfl (by omega) Tryd.underlying87 sz121 (by omega) (by decide) (fun _ h => ⟨h.get _ _ rfl, rfl⟩)) hSw286 (fun a293 hR294 => ?_)
        refine d_take (i := 3) rfl (by kernel_rfl) (by kernel_rfl) (by kernel_rfl) (fun c a w h => hP284 c _ _ _ _ h) rfl (by decide) hR294 (want_n rfl) (fun x hx => m_loadCN (st_yield hR294 rfl (by decide)) hR294 rfl rfl rfl (CellsAt.cons_ hx.2.1 (CellsAt.cons_ hx.2.2.1 (CellsAt.nil _ _))) Tryd.underlying121 rfl sz121 (by decide) (fun _ h => ⟨h.get _ _ rfl, rfl⟩)) hSw286 (fun a295 hR296 => ?_)
        refine d_one (i := 4) (by kernel_rfl) ?_
        refine m_buildSlice (ps := [(0, .tmp 61)]) (cs := [.int .i64 ((fromQ k (meas 0 st) (((meas 0 st).length) - (many (nth t k))) j)), .int .i64 ((deepQ (meas 0 st) (((meas 0 st).length) - (many (nth t k))) j))]) (st_opV rfl (want_n rfl)) hR296 hS282 rfl rfl rfl Tryd.underlying87 zi121 rfl rfl (by kernel_rfl) rfl (by decide) (fun a297 w298 g299 hR300 hS301 => ?_)
        have hSw302 : (∀ k, J278 k → w298.heap[k]? = w192.heap[k]?) ∧ (w298.cell? ⟨g164, 0, none⟩ = some (.int .i64 ((fromQ k (meas 0 st) (((meas 0 st).length) - (many (nth t k))) j)))) ∧ (w298.cell? ⟨g164, 1, none⟩ = some (.int .i64 ((deepQ (meas 0 st) (((meas 0 st).length) - (many (nth t k))) j)))) ∧ (True) := ⟨fun k hk => (hS301.get (i := 2) rfl k hk).2, (box_cell (hS301.res (i := 3) rfl) rfl), (box_cell (hS301.res (i := 3) rfl) rfl), trivial⟩
        refine ⟨hSw302, ?_⟩
        refine d_one (i := 5) (by kernel_rfl) ?_
        refine m_appendC (f := encM) (i := 1) (meas 0 st) ([(((fromQ k (meas 0 st) (((meas 0 st).length) - (many (nth t k))) j)), ((deepQ (meas 0 st) (((meas 0 st).length) - (many (nth t k))) j)))]) (st_opV rfl (want_n rfl)) hR300 hS301 rfl rfl rfl rfl rfl (by omega) encM_len (encM_one _) Tryd.underlying87 zi121 rfl rfl (own_lnews (f := encM) (hS301.res (i := 4) rfl)) rfl (by first | omega | (simp only [List.length_cons, List.length_nil]; omega)) (by decide) (fun a303 w304 A305 c306 hc307 hR308 hS309 => ?_)
        have hl311 : ((meas 0 st).take (((meas 0 st).length) - (many (nth t k))) ++ ([(((fromQ k (meas 0 st) (((meas 0 st).length) - (many (nth t k))) j)), ((deepQ (meas 0 st) (((meas 0 st).length) - (many (nth t k))) j)))]) : List (Int × Int)).length = ((meas 0 st).length + 1) - (many (nth t k)) := by first | (simp only [List.length_append, List.length_take, List.length_cons, List.length_nil]; done) | (simp only [List.length_append, List.length_take, List.length_cons, List.length_nil]; omega)
        have hS312 := hS309.erase 4
        have hSw313 : (∀ k, J278 k → w304.heap[k]? = w192.heap[k]?) ∧ (w304.cell? ⟨g164, 0, none⟩ = some (.int .i64 ((fromQ k (meas 0 st) (((meas 0 st).length) - (many (nth t k))) j)))) ∧ (w304.cell? ⟨g164, 1, none⟩ = some (.int .i64 ((deepQ (meas 0 st) (((meas 0 st).length) - (many (nth t k))) j)))) ∧ (True) := ⟨fun k hk => (hS312.get (i := 2) rfl k hk).2, (box_cell (hS312.res (i := 3) rfl) rfl), (box_cell (hS312.res (i := 3) rfl) rfl), trivial⟩
        refine ⟨hSw313, ?_⟩
        refine d_take (i := 6) rfl (by kernel_rfl) (by kernel_rfl) (by kernel_rfl) (fun c a w h => hP284 c _ _ _ _ h) rfl (by decide) hR308 (want_n rfl) (fun x hx => r_assign (st_yield hR308 rfl (by decide)) hR308 rfl rfl rfl (by decide) (fun _ h => ⟨h.get _ _ rfl, rfl⟩)) hSw313 (fun a314 hR315 => ?_)
        refine wpAnyH_done (by kernel_rfl) (hN285 _ _ ?_) _
        refine x_then_n (hK277 _ _ ?_)
        refine c_region ?_
        refine r_move (st_listV rfl) hR315 rfl rfl rfl (by decide) (fun a316 hR317 => ?_)
        refine m_loadN (i := 3) (vs := [.int .i64 ((fromQ k (meas 0 st) (((meas 0 st).length) - (many (nth t k))) j)), .int .i64 ((deepQ (meas 0 st) (((meas 0 st).length) - (many (nth t k))) j))]) (st_listV rfl) hR317 hS312 rfl rfl rfl rfl rfl Tryd.underlying121 rfl sz121 (by decide) (fun a318 hR319 => ?_)
        refine m_buildSlice (ps := [(0, .tmp 65)]) (cs := [.int .i64 ((fromQ k (meas 0 st) (((meas 0 st).length) - (many (nth t k))) j)), .int .i64 ((deepQ (meas 0 st) (((meas 0 st).length) - (many (nth t k))) j))]) (st_listV rfl) hR319 hS312 rfl rfl rfl Tryd.underlying87 zi121 rfl rfl (by kernel_rfl) rfl (by decide) (fun a320 w321 g322 hR323 hS324 => ?_)
        refine m_appendF (f := encM) (i := 0) (allTs 0 st) ([(((fromQ k (meas 0 st) (((meas 0 st).length) - (many (nth t k))) j)), ((deepQ (meas 0 st) (((meas 0 st).length) - (many (nth t k))) j)))]) (st_listV rfl) hR323 hS324 rfl rfl rfl rfl rfl encM_len (encM_one _) Tryd.underlying87 zi121 rfl rfl (own_lnews (f := encM) (hS324.res (i := 4) rfl)) rfl (by first | omega | (simp only [List.length_cons, List.length_nil]; omega)) (by decide) (fun a325 w326 A327 c328 hc329 hR330 hS331 => ?_)
        have hl333 : ((allTs 0 st) ++ ([(((fromQ k (meas 0 st) (((meas 0 st).length) - (many (nth t k))) j)), ((deepQ (meas 0 st) (((meas 0 st).length) - (many (nth t k))) j)))]) : List (Int × Int)).length = (allTs 0 st).length + 1 := by first | (simp only [List.length_append, List.length_take, List.length_cons, List.length_nil]; done) | (simp only [List.length_append, List.length_take, List.length_cons, List.length_nil]; omega)
        have hS334 := hS331.erase 4
        refine r_assign (st_listV rfl) hR330 rfl rfl rfl (by decide) (fun a335 hR336 => ?_)
        refine wpList_nil ?_
        refine x_block_n ?_
        refine x_then_n (hK43 _ _ ?_)
        refine c_region ?_
        refine r_add (z := ((k + 1 : Nat) : Int)) (st_listV rfl) hR336 rfl rfl rfl rfl (by decide) (by omega) (by omega) (by omega) (fun a337 hR338 => ?_)
        refine r_move (st_listV rfl) hR338 rfl rfl rfl (by decide) (fun a339 hR340 => ?_)
        refine wpList_nil ?_
        obtain ⟨st', hp, hpl⟩ := push_some (st := st) (n := nth t k) (by assumption) (by omega)
        obtain ⟨hm1, hm2⟩ := push_meas hp hfl
        have hjq : j = many (nth t k) := by omega
        have he341 : (allTs 0 st) ++ ([(((fromQ k (meas 0 st) (((meas 0 st).length) - (many (nth t k))) j)), ((deepQ (meas 0 st) (((meas 0 st).length) - (many (nth t k))) j)))]) = allTs 0 st' := by rw [hm2, hjq]; try simp only [meas_length]
        have hR342 := hR340
        have hS343 := hS334
        rw [he341] at hR342 hS343
        have he344 : (meas 0 st).take (((meas 0 st).length) - (many (nth t k))) ++ ([(((fromQ k (meas 0 st) (((meas 0 st).length) - (many (nth t k))) j)), ((deepQ (meas 0 st) (((meas 0 st).length) - (many (nth t k))) j)))]) = meas 0 st' := by rw [hm1, hjq]; try simp only [meas_length]
        have hR345 := hR342
        have hS346 := hS343
        rw [he344] at hR345 hS346
        have hS347 := hS346.erase 3
        have hS348 := hS347.erase 2
        have hS349 := hS348.forget 2
        exact ⟨_, by omega, k + 1, st', A327, c328, A305, c306, (Reg.cons hR345 (Reg.cons hR345 (Reg.cons hR345 (Reg.cons hR345 (Reg.cons hR345 (hR345.nil) rfl) rfl) rfl) rfl) rfl), hS349, by omega, (scan_step hsc (by omega)).trans hp, rfl⟩
  · skip
    have hR350 := hR37.setb (d := 15) (b := false) rfl (decide_eq_false h40)
    refine wp_cond_false (hR350.ev rfl) ?_
    refine wp_exit ?_
    refine x_then_e ?_
    refine x_then_e ?_
    refine x_block_eq ?_
    refine x_then_n (hK17 _ _ ?_)
    refine wp_seq_k (fun K351 hK352 => ?_)
    refine c_region ?_
    refine r_move (st_listV rfl) hR350 rfl rfl rfl (by decide) (fun a353 hR354 => ?_)
    refine r_move (st_listV rfl) hR354 rfl rfl rfl (by decide) (fun a355 hR356 => ?_)
    refine r_len (st_listV rfl) hR356 rfl rfl rfl rfl Tryd.underlying87 (by decide) (fun a357 hR358 => ?_)
    refine r_eql (st_listV rfl) hR358 rfl rfl rfl rfl (by decide) (fun a359 hR360 => ?_)
    refine r_assign (st_listV rfl) hR360 rfl rfl rfl (by decide) (fun a361 hR362 => ?_)
    refine r_assign (st_listV rfl) hR362 rfl rfl rfl (by decide) (fun a363 hR364 => ?_)
    refine wpList_nil ?_
    refine x_then_n (hK352 _ _ ?_)
    refine wp_ret ?_
    refine e_ret2 hR364 rfl rfl rfl ?_
    have he365 : measL t = allTs 0 st := measL_end (by rw [← hsc, List.take_of_length_le (by omega)])
    rw [he365]
    have hc369 := own_cap (hS32.res (i := 0) rfl)
    obtain ⟨hS366, hrow367⟩ := hS32.row_data (i := 0) rfl (fun _ h => h)
    have hS368 := hS366.data (dRow 2 Aa ((allTs 0 st).length) ca (encMs (allTs 0 st))) ⟨hc369, hrow367⟩
    refine ⟨Aa, ca, ?_, hS368.fr, ⟨by have := (hS368.row (i := 2) rfl).1; exact this, ((hS368.row (i := 2) rfl).2.mono (fun _ hk => ⟨imm_nxt hk, rfl⟩))⟩⟩
    exact ret_t2 rfl (ret_b (by first | (rw [measB_end (by rw [← hsc, List.take_of_length_le (by omega)]), meas_length]; done) | (rw [measB_end (by rw [← hsc, List.take_of_length_le (by omega)]), meas_length]; simp [h40]; done)))

set_option maxRecDepth 100000 in
set_option maxHeartbeats 1000000 in
theorem look_calls (w0 : World) (Z : Nat → Prop) (hZ : ∀ k, Z k → k < w0.heap.size) (tA : Option Addr) (tc : Nat) (t : List Nd) (hShp : Shapes w0 Z) (ht : (dRow 4 tA t.length tc (encNs t)).φ w0 Z) (hsm : sml t) (hl : t.length ≤ 1000000) :
    Calls Tryd.prog 67 [.slice tA t.length tc].toArray w0 (fun e w' => ∃ (rA0 : Option Addr) (rc0 : Nat), e = .returned (.tuple #[.slice rA0 (lookL t).length rc0, .int .i64 (chk t)]) ∧ Fr none_ w0 w' ∧ (dRow 2 rA0 ((lookL t).length) rc0 (encMs (lookL t))).φ w' (nxt Z w0 w')) := by
  have hstart : ∀ k, Z k → imm Z w0 [] w0 k ∧ w0.heap[k]? = w0.heap[k]? := fun k hk => ⟨⟨hZ k hk, fun _ => hk, fun _ h => by cases h⟩, rfl⟩
  have hS3 : St w0 Z none_ w0 [] [dShapes, dRow 4 tA t.length tc (encNs t)] := St.start w0 Z none_ _ (by
    intro d hd
    simp only [List.mem_cons, List.not_mem_nil, or_false] at hd
    rcases hd with rfl | rfl
    · exact Dat.mono _ _ _ _ _ hShp hstart
    · exact Dat.mono _ _ _ _ _ ht hstart
    )
  refine c_enter Tryd.func67 rfl Tryd.ntmps67 rfl (fun a1 hR2 => ?_)
  refine wp_seq_k (fun K4 hK5 => ?_)
  refine c_region ?_
  refine r_assign (st_listV rfl) hR2 rfl rfl rfl (by decide) (fun a6 hR7 => ?_)
  refine r_assign (st_listV rfl) hR7 rfl rfl rfl (by decide) (fun a8 hR9 => ?_)
  refine wpList_nil ?_
  refine x_then_n (hK5 _ _ ?_)
  refine wp_seq_k (fun K10 hK11 => ?_)
  refine wp_seq_k (fun K12 hK13 => ?_)
  refine c_region ?_
  refine r_move (st_listV rfl) hR9 rfl rfl rfl (by decide) (fun a14 hR15 => ?_)
  refine r_len (st_listV rfl) hR15 rfl rfl rfl rfl Tryd.underlying22 (by decide) (fun a16 hR17 => ?_)
  refine r_gtr (st_listV rfl) hR17 rfl rfl rfl rfl (by decide) (fun a18 hR19 => ?_)
  refine wpList_nil ?_
  refine x_then_n (hK13 _ _ ?_)
  rcases Decidable.em (4000 < ((t.length : Nat) : Int)) with h20 | h20
  · skip
    have hR21 := hR19.setb (d := 8) (b := true) rfl (decide_eq_true h20)
    refine wp_cond_true (hR21.ev rfl) ?_
    refine wp_seq_k (fun K22 hK23 => ?_)
    refine c_region ?_
    refine r_assign (st_listV rfl) hR21 rfl rfl rfl (by decide) (fun a24 hR25 => ?_)
    refine r_assign (st_listV rfl) hR25 rfl rfl rfl (by decide) (fun a26 hR27 => ?_)
    refine wpList_nil ?_
    refine x_then_n (hK23 _ _ ?_)
    refine wp_ret ?_
    refine x_then_r ?_
    refine e_ret2 hR27 rfl rfl rfl ?_
    have he28 : lookL t = [] := lookL_bad (by first | rw [chk_size (by omega)]; omega | (rw [chk_form (by omega) (by assumption)]; omega) | (rw [chk_deep (by omega) (by assumption) (by assumption)]; omega))
    rw [he28]
    refine ⟨none, 0, ?_, hS3.fr, ⟨Nat.le_refl _, RowI.nil _ _ _ _⟩⟩
    exact ret_t2 rfl (ret_i (by first | exact (chk_size (by omega)).symm))
  · skip
    have hR29 := hR19.setb (d := 8) (b := false) rfl (decide_eq_false h20)
    refine wp_cond_false (hR29.ev rfl) ?_
    refine wp_skip ?_
    refine x_then_n (hK11 _ _ ?_)
    refine wp_seq_k (fun K30 hK31 => ?_)
    refine c_region ?_
    refine r_move (st_listV rfl) hR29 rfl rfl rfl (by decide) (fun a32 hR33 => ?_)
    have hS34 : St w0 Z none_ w0 [] [dShapes, dRow 4 tA t.length tc (encNs t)] := hS3
    refine k_call (xs := [.tmp 10]) (st_list rfl) hR33 rfl rfl rfl (by decide) ok106 (measured_calls _ (imm Z w0 [] _) (fun _ h => h.1) tA tc t (hS34.get (i := 0) rfl) (hS34.get (i := 1) rfl) (by first | assumption | omega | (simp; done) | (simp; omega)) (by first | assumption | omega | (simp; done) | (simp; omega))) ?_
    rintro e44 w36 ⟨A40, c41, rfl, hf39, hd42⟩
    have hS45 := hS34.below hf39.below
    have hS46 := hS45.data (dRow 2 A40 ((measL t).length) c41 (encMs (measL t))) ⟨hd42.1, hd42.2.mono (fun _ hk => ⟨nxt_imm hS34 hk, rfl⟩)⟩
    refine ⟨_, rfl, fun a35 hR37 => ?_⟩
    refine r_move (st_listV rfl) hR37 rfl rfl rfl (by decide) (fun a47 hR48 => ?_)
    refine r_extract (st_listV rfl) hR48 rfl rfl rfl rfl (by decide) (fun a49 hR50 => ?_)
    refine r_extract (st_listV rfl) hR50 rfl rfl rfl rfl (by decide) (fun a51 hR52 => ?_)
    refine r_assign (st_listV rfl) hR52 rfl rfl rfl (by decide) (fun a53 hR54 => ?_)
    refine r_assign (st_listV rfl) hR54 rfl rfl rfl (by decide) (fun a55 hR56 => ?_)
    refine wpList_nil ?_
    refine x_then_n (hK31 _ _ ?_)
    refine wp_seq_k (fun K57 hK58 => ?_)
    refine wp_block ?_
    refine wp_seq_k (fun K59 hK60 => ?_)
    refine c_region ?_
    refine r_move (st_listV rfl) hR56 rfl rfl rfl (by decide) (fun a61 hR62 => ?_)
    refine r_not (st_listV rfl) hR62 rfl rfl rfl (by decide) (fun a63 hR64 => ?_)
    refine r_assign (st_listV rfl) hR64 rfl rfl rfl (by decide) (fun a65 hR66 => ?_)
    refine wpList_nil ?_
    refine x_then_n (hK60 _ _ ?_)
    rcases Bool.eq_false_or_eq_true (measB t) with h67 | h67
    · skip
      have hpos := measL_pos h67
      have hml := measL_length h67
      have hR68 := hR66.setb (d := 14) (b := false) rfl (by rw [h67]; rfl)
      refine wp_cond_false (hR68.ev rfl) ?_
      refine wp_seq_k (fun K69 hK70 => ?_)
      refine c_region ?_
      refine r_move (st_listV rfl) hR68 rfl rfl rfl (by decide) (fun a71 hR72 => ?_)
      refine r_move (st_listV rfl) hR72 rfl rfl rfl (by decide) (fun a73 hR74 => ?_)
      refine r_len (st_listV rfl) hR74 rfl rfl rfl rfl Tryd.underlying87 (by decide) (fun a75 hR76 => ?_)
      refine r_sub (z := ((((measL t).length : Nat) : Int) - 1)) (st_listV rfl) hR76 rfl rfl rfl rfl (by decide) (by omega) (by omega) (by omega) (fun a77 hR78 => ?_)
      refine m_index (i := ((measL t).length) - (1)) (j := (((measL t).length) - (1)) * 2) (st_listV rfl) hR78 rfl rfl rfl rfl Tryd.underlying87 sz121 (by omega) (by omega) (ms_elem (t := measL t) (k := ((measL t).length) - (1)) (hS46.row (i := 2) rfl).2 (by omega)).some_ rfl (by decide) (fun a79 hR80 => ?_)
      refine m_fieldE (j' := (((measL t).length) - (1)) * 2 + 1) (st_listV rfl) hR80 rfl rfl rfl (ms_elem (t := measL t) (k := ((measL t).length) - (1)) (hS46.row (i := 2) rfl).2 (by omega)).some_ Tryd.underlying121 rfl sz3 rfl rfl (by decide) (fun a81 hR82 => ?_)
      refine m_loadE (st_listV rfl) hR82 rfl rfl rfl 1 ((((measL t).length) - (1)) * 2) (ms_elem (t := measL t) (k := ((measL t).length) - (1)) (hS46.row (i := 2) rfl).2 (by omega)) rfl rfl Tryd.underlying3 rfl (by decide) (fun a83 hR84 => ?_)
      refine r_gtr (st_listV rfl) hR84 rfl rfl rfl rfl (by decide) (fun a85 hR86 => ?_)
      refine r_assign (st_listV rfl) hR86 rfl rfl rfl (by decide) (fun a87 hR88 => ?_)
      refine wpList_nil ?_
      refine x_then_n (hK70 _ _ ?_)
      rcases Decidable.em (60 < (((nthM (measL t) (((measL t).length) - (1))).2))) with h89 | h89
      · skip
        have hR90 := hR88.setb (d := 17) (b := true) rfl (decide_eq_true h89)
        refine wp_cond_true (hR90.ev rfl) ?_
        refine wp_seq_k (fun K91 hK92 => ?_)
        refine c_region ?_
        refine r_assign (st_listV rfl) hR90 rfl rfl rfl (by decide) (fun a93 hR94 => ?_)
        refine r_assign (st_listV rfl) hR94 rfl rfl rfl (by decide) (fun a95 hR96 => ?_)
        refine wpList_nil ?_
        refine x_then_n (hK92 _ _ ?_)
        refine wp_ret ?_
        refine x_block_r ?_
        refine x_then_r ?_
        refine e_ret2 hR96 rfl rfl rfl ?_
        have he97 : lookL t = [] := lookL_bad (by first | rw [chk_size (by omega)]; omega | (rw [chk_form (by omega) (by assumption)]; omega) | (rw [chk_deep (by omega) (by assumption) (by assumption)]; omega))
        rw [he97]
        refine ⟨none, 0, ?_, hS46.fr, ⟨Nat.le_refl _, RowI.nil _ _ _ _⟩⟩
        exact ret_t2 rfl (ret_i (by first | exact (chk_deep (by omega) (by assumption) (by assumption)).symm))
      · skip
        have hR98 := hR88.setb (d := 17) (b := false) rfl (decide_eq_false h89)
        refine wp_cond_false (hR98.ev rfl) ?_
        refine wp_skip ?_
        refine x_block_n ?_
        refine x_then_n (hK58 _ _ ?_)
        refine wp_seq_k (fun K99 hK100 => ?_)
        refine c_region ?_
        refine r_move (st_listV rfl) hR98 rfl rfl rfl (by decide) (fun a101 hR102 => ?_)
        refine r_assign (st_listV rfl) hR102 rfl rfl rfl (by decide) (fun a103 hR104 => ?_)
        refine r_assign (st_listV rfl) hR104 rfl rfl rfl (by decide) (fun a105 hR106 => ?_)
        refine wpList_nil ?_
        refine x_then_n (hK100 _ _ ?_)
        refine wp_ret ?_
        refine e_ret2 hR106 rfl rfl rfl ?_
        have he107 : lookL t = measL t := lookL_good (chk_good (by omega) (by assumption) (by assumption))
        rw [he107]
        refine ⟨A40, c41, ?_, hS46.fr, ⟨by have := (hS46.row (i := 2) rfl).1; exact this, ((hS46.row (i := 2) rfl).2.mono (fun _ hk => ⟨imm_nxt hk, rfl⟩))⟩⟩
        exact ret_t2 rfl (ret_i (by first | exact (chk_good (by omega) (by assumption) (by assumption)).symm))
    · skip
      have hR108 := hR66.setb (d := 14) (b := true) rfl (by rw [h67]; rfl)
      refine wp_cond_true (hR108.ev rfl) ?_
      refine wp_seq_k (fun K109 hK110 => ?_)
      refine c_region ?_
      refine r_assign (st_listV rfl) hR108 rfl rfl rfl (by decide) (fun a111 hR112 => ?_)
      refine r_assign (st_listV rfl) hR112 rfl rfl rfl (by decide) (fun a113 hR114 => ?_)
      refine wpList_nil ?_
      refine x_then_n (hK110 _ _ ?_)
      refine wp_ret ?_
      refine x_block_r ?_
      refine x_then_r ?_
      refine e_ret2 hR114 rfl rfl rfl ?_
      have he115 : lookL t = [] := lookL_bad (by first | rw [chk_size (by omega)]; omega | (rw [chk_form (by omega) (by assumption)]; omega) | (rw [chk_deep (by omega) (by assumption) (by assumption)]; omega))
      rw [he115]
      refine ⟨none, 0, ?_, hS46.fr, ⟨Nat.le_refl _, RowI.nil _ _ _ _⟩⟩
      exact ret_t2 rfl (ret_i (by first | exact (chk_form (by omega) (by assumption)).symm))

set_option maxRecDepth 100000 in
set_option maxHeartbeats 1000000 in
theorem check_calls (w0 : World) (Z : Nat → Prop) (hZ : ∀ k, Z k → k < w0.heap.size) (tA : Option Addr) (tc : Nat) (t : List Nd) (hShp : Shapes w0 Z) (ht : (dRow 4 tA t.length tc (encNs t)).φ w0 Z) (hsm : sml t) (hl : t.length ≤ 1000000) :
    Calls Tryd.prog 44 [.slice tA t.length tc].toArray w0 (fun e w' => e = .returned (.int .i64 (chk t)) ∧ Fr none_ w0 w') := by
  have hstart : ∀ k, Z k → imm Z w0 [] w0 k ∧ w0.heap[k]? = w0.heap[k]? := fun k hk => ⟨⟨hZ k hk, fun _ => hk, fun _ h => by cases h⟩, rfl⟩
  have hS3 : St w0 Z none_ w0 [] [dShapes, dRow 4 tA t.length tc (encNs t)] := St.start w0 Z none_ _ (by
    intro d hd
    simp only [List.mem_cons, List.not_mem_nil, or_false] at hd
    rcases hd with rfl | rfl
    · exact Dat.mono _ _ _ _ _ hShp hstart
    · exact Dat.mono _ _ _ _ _ ht hstart
    )
  refine c_enter Tryd.func44 rfl Tryd.ntmps44 rfl (fun a1 hR2 => ?_)
  refine wp_seq_k (fun K4 hK5 => ?_)
  refine c_region ?_
  refine r_assign (st_listV rfl) hR2 rfl rfl rfl (by decide) (fun a6 hR7 => ?_)
  refine wpList_nil ?_
  refine x_then_n (hK5 _ _ ?_)
  refine wp_seq_k (fun K8 hK9 => ?_)
  refine c_region ?_
  refine r_move (st_listV rfl) hR7 rfl rfl rfl (by decide) (fun a10 hR11 => ?_)
  have hS12 : St w0 Z none_ w0 [] [dShapes, dRow 4 tA t.length tc (encNs t)] := hS3
  refine k_call (xs := [.tmp 6]) (st_list rfl) hR11 rfl rfl rfl (by decide) ok67 (look_calls _ (imm Z w0 [] _) (fun _ h => h.1) tA tc t (hS12.get (i := 0) rfl) (hS12.get (i := 1) rfl) (by first | assumption | omega | (simp; done) | (simp; omega)) (by first | assumption | omega | (simp; done) | (simp; omega))) ?_
  rintro e22 w14 ⟨A18, c19, rfl, hf17, hd20⟩
  have hS23 := hS12.below hf17.below
  have hS24 := hS23.data (dRow 2 A18 ((lookL t).length) c19 (encMs (lookL t))) ⟨hd20.1, hd20.2.mono (fun _ hk => ⟨nxt_imm hS12 hk, rfl⟩)⟩
  refine ⟨_, rfl, fun a13 hR15 => ?_⟩
  refine r_move (st_listV rfl) hR15 rfl rfl rfl (by decide) (fun a25 hR26 => ?_)
  refine r_extract (st_listV rfl) hR26 rfl rfl rfl rfl (by decide) (fun a27 hR28 => ?_)
  refine r_extract (st_listV rfl) hR28 rfl rfl rfl rfl (by decide) (fun a29 hR30 => ?_)
  refine r_assign (st_listV rfl) hR30 rfl rfl rfl (by decide) (fun a31 hR32 => ?_)
  refine r_assign (st_listV rfl) hR32 rfl rfl rfl (by decide) (fun a33 hR34 => ?_)
  refine wpList_nil ?_
  refine x_then_n (hK9 _ _ ?_)
  refine wp_seq_k (fun K35 hK36 => ?_)
  refine c_region ?_
  refine r_move (st_listV rfl) hR34 rfl rfl rfl (by decide) (fun a37 hR38 => ?_)
  refine r_assign (st_listV rfl) hR38 rfl rfl rfl (by decide) (fun a39 hR40 => ?_)
  refine wpList_nil ?_
  refine x_then_n (hK36 _ _ ?_)
  refine wp_ret ?_
  refine e_ret1 hR40 rfl rfl ?_
  refine ⟨?_, hS24.fr⟩
  exact congrArg Ending.returned (ret_i (by first | rfl | omega | ( omega) | (simp []; done) | (simp [] at *; done) | (simp [] <;> omega) | (rw [Bool.eq_iff_iff]; simp [] <;> omega) | (rw [Bool.eq_iff_iff]; simp [] at * <;> omega)))
end Go.Proofs.YtobgdeffhdefeaaDoor
