import Derived.Test.YtobgdeffhdefeaaDoorZuc
/- Contracts of functions, one theorem each: what the call returns, and that nothing old is changed. Printed by gen.py. -/
namespace Go.Proofs.YtobgdeffhdefeaaDoor
open Go Go.RowKit
set_option linter.unusedSimpArgs false
set_option linter.unusedVariables false

set_option maxRecDepth 100000 in
set_option maxHeartbeats 1000000 in
theorem measured_calls (w0 : World) (Z : Nat → Prop) (hZ : ∀ k, Z k → k < w0.heap.size) (tA : Option Addr) (tc : Nat) (t : List Nd) (hShp : Shapes w0 Z) (ht : (dRow 4 tA t.length tc (encNs t)).φ w0 Z) (hl : t.length ≤ 4000) (hsm : sml t) :
    Calls Tryd.prog 106 [.slice tA t.length tc].toArray w0 (fun e w' => ∃ (rA0 : Option Addr) (rc0 : Nat), e = .returned (.tuple #[.slice rA0 (measL t).length rc0, .bool (measB t)]) ∧ Fr none_ w0 w' ∧ (dRow 2 rA0 ((measL t).length) rc0 (encMs (measL t))).φ w' (nxt Z w0 w')) := by
  have hstart : ∀ k, Z k → imm Z w0 [] w0 k ∧ w0.heap[k]? = w0.heap[k]? := fun k hk => ⟨⟨hZ k hk, fun _ => hk, fun _ h => by cases h⟩, rfl⟩
  have hS3 : St w0 Z none_ w0 [] [dShapes, dRow 4 tA t.length tc (encNs t)] := St.start w0 Z none_ _ (by
    intro d hd
    simp only [List.mem_cons, List.not_mem_nil, or_false] at hd
    rcases hd with rfl | rfl
    · exact Dat.mono _ _ _ _ _ (Nat.le_refl _) hShp hstart
    · exact Dat.mono _ _ _ _ _ (Nat.le_refl _) ht hstart
    )
  refine c_enter Tryd.func106 rfl Tryd.ntmps106 rfl (fun a1 hR2 => ?_)
  refine wp_seq_k (fun K4 hK5 => ?_)
  refine c_region ?_
  refine r_assign (st_listV rfl) hR2 rfl rfl rfl (by decide) (fun a6 hR7 => ?_)
  refine r_assign (st_listV rfl) hR7 rfl rfl rfl (by decide) (fun a8 hR9 => ?_)
  refine wpList_nil ?_
  refine x_then_n (hK5 _ _ ?_)
  refine wp_seq_k (fun K10 hK11 => ?_)
  refine c_region ?_
  refine r_assign (st_listV rfl) hR9 rfl rfl rfl (by decide) (fun a12 hR13 => ?_)
  refine r_assign (st_listV rfl) hR13 rfl rfl rfl (by decide) (fun a14 hR15 => ?_)
  refine wpList_nil ?_
  refine x_then_n (hK11 _ _ ?_)
  refine wp_seq_k (fun K16 hK17 => ?_)
  refine wp_seq_k (fun K18 hK19 => ?_)
  refine c_region ?_
  refine r_move (st_listV rfl) hR15 rfl rfl rfl (by decide) (fun a20 hR21 => ?_)
  refine r_len (st_listV rfl) hR21 rfl rfl rfl rfl Tryd.underlying22 (by decide) (fun a22 hR23 => ?_)
  refine r_move (st_listV rfl) hR23 rfl rfl rfl (by decide) (fun a24 hR25 => ?_)
  refine wpList_nil ?_
  refine x_then_n (hK19 _ _ ?_)
  refine wp_block ?_
  have hS26 := hS3.nilrow 121 2
  have hS27 := hS26.nilrow 121 2
  refine wp_loop_ghost (fun gn ga gw => ∃ k : Nat, ∃ st : List T, ∃ Aa : Option Addr, ∃ ca : Nat, ∃ Ao : Option Addr, ∃ co : Nat, (Reg ga 73 [(1000000, .bool false), (12, .slice tA t.length tc), (13, .int .i64 ((t.length : Nat) : Int)), (14, .int .i64 ((k : Nat) : Int)), (4, .slice Aa ((allTs 0 st).length) ca), (5, .slice Ao ((meas 0 st).length) co)]) ∧ (St w0 Z none_ gw [.row Aa ((allTs 0 st).length) ca 121 2 (encMs (allTs 0 st)), .row Ao ((meas 0 st).length) co 121 2 (encMs (meas 0 st))] [dShapes, dRow 4 tA t.length tc (encNs t)]) ∧ (k ≤ t.length) ∧ (scanT [] (t.take k) = some st) ∧ (t.length - k) = gn) _ ⟨0, [], none, 0, none, 0, (Reg.cons hR25 (Reg.cons hR25 (Reg.cons hR25 (Reg.cons hR25 (Reg.cons hR25 (Reg.cons hR25 (hR25.nil) rfl) rfl) rfl) rfl) rfl) rfl), hS27, by omega, rfl, rfl⟩ ?_
  rintro r28 a29 w30 ⟨k, st, Aa, ca, Ao, co, hR31, hS32, hk, hsc, hn33⟩
  have hfl := scan_flats hsc hk
  have hml := meas_length 0 st
  have hal := allTs_length 0 st
  have hsl := flats_len_ge st
  refine wp_seq_k (fun K34 hK35 => ?_)
  refine c_region ?_
  refine r_lss (st_listV rfl) hR31 rfl rfl rfl rfl (by decide) (fun a36 hR37 => ?_)
  refine wpList_nil ?_
  refine x_then_n (hK35 _ _ ?_)
  refine wp_seq_k (fun K38 hK39 => ?_)
  rcases Decidable.em (((k : Nat) : Int) < ((t.length : Nat) : Int)) with h40 | h40
  · skip
    have hR41 := hR37.setb (d := 15) (b := true) rfl (decide_eq_true h40)
    refine wp_cond_true (hR41.ev rfl) ?_
    refine wp_skip ?_
    refine x_then_n (hK39 _ _ ?_)
    refine wp_seq_k (fun K42 hK43 => ?_)
    refine wp_block ?_
    refine wp_seq_k (fun K44 hK45 => ?_)
    refine c_region ?_
    refine r_move (st_listV rfl) hR41 rfl rfl rfl (by decide) (fun a46 hR47 => ?_)
    refine m_index (i := k) (j := k * 4) (st_listV rfl) hR47 rfl rfl rfl rfl Tryd.underlying22 sz32 (by omega) (by omega) (nds_elem (t := t) (k := k) (hS32.row (i := 1) rfl).2 (by omega)).some_ rfl (by decide) (fun a48 hR49 => ?_)
    refine m_loadEN (st_listV rfl) hR49 rfl rfl rfl (nds_elem (t := t) (k := k) (hS32.row (i := 1) rfl).2 (by omega)) Tryd.underlying32 rfl sz32 (by decide) (fun a50 hR51 => ?_)
    refine m_alloc (cs := [.int .i64 0, .int .i64 0, .int .i64 0, .string (⟨#[]⟩ : ByteArray)]) (st_listV rfl) hR51 hS32 rfl rfl ze32 rfl (by decide) (fun a52 w53 g54 hR55 hS56 => ?_)
    refine r_assign (st_listV rfl) hR55 rfl rfl rfl (by decide) (fun a57 hR58 => ?_)
    refine m_store (i := 2) (cs' := [.int .i64 (((nth t k).K)), .int .i64 (((nth t k).N)), .int .i64 (((nth t k).M)), .string ((nth t k).S)]) (st_list rfl) hR58 hS56 rfl rfl rfl rfl rfl sz32 rfl rfl rfl (fun a59 w60 hR61 hS62 => ?_)
    refine wpList_nil ?_
    refine x_then_n (hK45 _ _ ?_)
    refine wp_seq_k (fun K63 hK64 => ?_)
    refine wp_seq_k (fun K65 hK66 => ?_)
    refine c_region ?_
    refine m_loadN (i := 2) (vs := [.int .i64 (((nth t k).K)), .int .i64 (((nth t k).N)), .int .i64 (((nth t k).M)), .string ((nth t k).S)]) (st_listV rfl) hR61 hS62 rfl rfl rfl rfl rfl Tryd.underlying32 rfl sz32 (by decide) (fun a67 hR68 => ?_)
    have hS69 : St w0 Z none_ w60 [.row Aa ((allTs 0 st).length) ca 121 2 (encMs (allTs 0 st)), .row Ao ((meas 0 st).length) co 121 2 (encMs (meas 0 st)), .box g54 32 [.int .i64 (((nth t k).K)), .int .i64 (((nth t k).N)), .int .i64 (((nth t k).M)), .string ((nth t k).S)]] [dShapes, dRow 4 tA t.length tc (encNs t)] := hS62
    refine k_call (xs := [.tmp 19]) (st_list rfl) hR68 rfl rfl rfl (by decide) ok112 (right_calls _ (imm Z w0 [.row Aa ((allTs 0 st).length) ca 121 2 (encMs (allTs 0 st)), .row Ao ((meas 0 st).length) co 121 2 (encMs (meas 0 st)), .box g54 32 [.int .i64 (((nth t k).K)), .int .i64 (((nth t k).N)), .int .i64 (((nth t k).M)), .string ((nth t k).S)]] _) (fun _ h => h.1) (nth t k) (hS69.get (i := 0) rfl) (hsm _ (by omega))) ?_
    rintro e76 w71 ⟨rfl, hf74⟩
    have hS77 := hS69.below hf74.below
    refine ⟨_, rfl, fun a70 hR72 => ?_⟩
    refine r_not (st_listV rfl) hR72 rfl rfl rfl (by decide) (fun a78 hR79 => ?_)
    refine r_move (st_listV rfl) hR79 rfl rfl rfl (by decide) (fun a80 hR81 => ?_)
    refine l_join (fun ga gw => Reg ga 73 [(4, .slice Aa ((allTs 0 st).length) ca), (5, .slice Ao ((meas 0 st).length) co), (6, .int .i64 ((k : Nat) : Int)), (7, .pointer (some ⟨g54, 0, none⟩)), (12, .slice tA t.length tc), (13, .int .i64 ((t.length : Nat) : Int)), (14, .int .i64 ((k : Nat) : Int)), (28, .bool ((!(right (nth t k))) || (decide ((((meas 0 st).length : Nat) : Int) < ((many (nth t k) : Nat) : Int))))), (1000000, .bool false)] ∧ St w0 Z none_ gw [.row Aa ((allTs 0 st).length) ca 121 2 (encMs (allTs 0 st)), .row Ao ((meas 0 st).length) co 121 2 (encMs (meas 0 st)), .box g54 32 [.int .i64 (((nth t k).K)), .int .i64 (((nth t k).N)), .int .i64 (((nth t k).M)), .string ((nth t k).S)]] [dShapes, dRow 4 tA t.length tc (encNs t)]) 6 ?_ ?_
    · skip
      rcases Bool.eq_false_or_eq_true (right (nth t k)) with h82 | h82
      · skip
        have hR83 := hR81.setb (d := 22) (b := false) rfl (by rw [h82]; rfl)
        refine m_loadN (i := 2) (vs := [.int .i64 (((nth t k).K)), .int .i64 (((nth t k).N)), .int .i64 (((nth t k).M)), .string ((nth t k).S)]) (st_listV_w (want_t hR83 rfl rfl rfl (by decide) rfl)) hR83 hS77 rfl rfl rfl rfl rfl Tryd.underlying32 rfl sz32 (by decide) (fun a84 hR85 => ?_)
        have hS86 : St w0 Z none_ w71 [.row Aa ((allTs 0 st).length) ca 121 2 (encMs (allTs 0 st)), .row Ao ((meas 0 st).length) co 121 2 (encMs (meas 0 st)), .box g54 32 [.int .i64 (((nth t k).K)), .int .i64 (((nth t k).N)), .int .i64 (((nth t k).M)), .string ((nth t k).S)]] [dShapes, dRow 4 tA t.length tc (encNs t)] := hS77
        refine k_call (xs := [.tmp 23]) (st_list_w (want_t hR85 rfl rfl rfl (by decide) rfl)) hR85 rfl rfl rfl (by decide) ok126 (many_calls _ (imm Z w0 [.row Aa ((allTs 0 st).length) ca 121 2 (encMs (allTs 0 st)), .row Ao ((meas 0 st).length) co 121 2 (encMs (meas 0 st)), .box g54 32 [.int .i64 (((nth t k).K)), .int .i64 (((nth t k).N)), .int .i64 (((nth t k).M)), .string ((nth t k).S)]] _) (fun _ h => h.1) (nth t k) (hS86.get (i := 0) rfl) (by first | assumption | omega | (simp; done) | (simp; omega))) ?_
        rintro e93 w88 ⟨rfl, hf91⟩
        have hS94 := hS86.below hf91.below
        refine ⟨_, rfl, fun a87 hR89 => ?_⟩
        refine r_move (st_listV_w (want_t hR89 rfl rfl rfl (by decide) rfl)) hR89 rfl rfl rfl (by decide) (fun a95 hR96 => ?_)
        refine r_len (st_listV_w (want_t hR96 rfl rfl rfl (by decide) rfl)) hR96 rfl rfl rfl rfl Tryd.underlying87 (by decide) (fun a97 hR98 => ?_)
        refine r_gtr (st_listV_w (want_t hR98 rfl rfl rfl (by decide) rfl)) hR98 rfl rfl rfl rfl (by decide) (fun a99 hR100 => ?_)
        refine r_pick_f (st_listV rfl) hR100 rfl rfl rfl rfl (by decide) (fun a101 hR102 => ?_)
        refine wpList_nil ?_
        exact x_then_n ⟨(Reg.cons hR102 (Reg.cons hR102 (Reg.cons hR102 (Reg.cons hR102 (Reg.cons hR102 (Reg.cons hR102 (Reg.cons hR102 (Reg.consb hR102 (Reg.cons hR102 (hR102.nil) rfl) rfl (by first | rfl | (simp only [h82, Bool.true_and, Bool.and_true, Bool.false_and, Bool.and_false, Bool.true_or, Bool.or_true, Bool.false_or, Bool.or_false, Bool.not_true, Bool.not_false, if_true, ite_true, ite_false, Bool.false_eq_true]; done) | (simp [h82]; done) | (simp [h82]; omega))) rfl) rfl) rfl) rfl) rfl) rfl) rfl), hS94⟩
      · skip
        have hR103 := hR81.setb (d := 22) (b := true) rfl (by rw [h82]; rfl)
        refine s_pass hR103 rfl (by decide) (want_f hR103 rfl rfl rfl (by decide) rfl rfl) (fun a104 hR105 => ?_)
        refine s_pass hR105 rfl (by decide) (want_f hR105 rfl rfl rfl (by decide) rfl rfl) (fun a106 hR107 => ?_)
        refine s_pass hR107 rfl (by decide) (want_f hR107 rfl rfl rfl (by decide) rfl rfl) (fun a108 hR109 => ?_)
        refine s_pass hR109 rfl (by decide) (want_f hR109 rfl rfl rfl (by decide) rfl rfl) (fun a110 hR111 => ?_)
        refine s_pass hR111 rfl (by decide) (want_f hR111 rfl rfl rfl (by decide) rfl rfl) (fun a112 hR113 => ?_)
        refine r_pick_t (st_listV rfl) hR113 rfl rfl rfl rfl (by decide) (fun a114 hR115 => ?_)
        refine wpList_nil ?_
        exact x_then_n ⟨(Reg.cons hR115 (Reg.cons hR115 (Reg.cons hR115 (Reg.cons hR115 (Reg.cons hR115 (Reg.cons hR115 (Reg.cons hR115 (Reg.consb hR115 (Reg.cons hR115 (hR115.nil) rfl) rfl (by first | rfl | (simp only [h82, Bool.true_and, Bool.and_true, Bool.false_and, Bool.and_false, Bool.true_or, Bool.or_true, Bool.false_or, Bool.or_false, Bool.not_true, Bool.not_false, if_true, ite_true, ite_false, Bool.false_eq_true]; done) | (simp [h82]; done) | (simp [h82]; omega))) rfl) rfl) rfl) rfl) rfl) rfl) rfl), hS77⟩
    rintro a116 w117 ⟨hR118, hS119⟩
    refine wpList_nil ?_
    refine x_then_n (hK66 _ _ ?_)
    rcases Bool.eq_false_or_eq_true (((!(right (nth t k))) || (decide ((((meas 0 st).length : Nat) : Int) < ((many (nth t k) : Nat) : Int))))) with h120 | h120
    · skip
      have hq121 := h120
      try simp only [Bool.or_eq_true, Bool.and_eq_true, Bool.not_eq_true', Bool.not_eq_false', decide_eq_true_eq, decide_eq_false_iff_not, Bool.or_eq_false_iff, Bool.and_eq_false_iff] at hq121
      have hR122 := hR118.setb (d := 28) (b := true) rfl h120
      refine wp_cond_true (hR122.ev rfl) ?_
      refine wp_seq_k (fun K123 hK124 => ?_)
      refine c_region ?_
      refine r_assign (st_listV rfl) hR122 rfl rfl rfl (by decide) (fun a125 hR126 => ?_)
      refine r_assign (st_listV rfl) hR126 rfl rfl rfl (by decide) (fun a127 hR128 => ?_)
      refine wpList_nil ?_
      refine x_then_n (hK124 _ _ ?_)
      refine wp_ret ?_
      refine x_then_r ?_
      refine x_block_r ?_
      refine x_then_r ?_
      refine x_then_r ?_
      refine x_block_r ?_
      refine x_then_r ?_
      refine e_ret2 hR128 rfl rfl rfl rfl ?_
      have he129 : measL t = [] := (meas_bad (scan_none hsc (by omega) (push_none (by rcases hq121 with h | h; exact .inl h; exact .inr (by omega))))).1
      rw [he129]
      refine ⟨none, 0, ?_, hS119.fr, ⟨Nat.le_refl _, RowI.nil _ _ _ _⟩⟩
      exact ret_t2 rfl (ret_b (by exact (meas_bad (scan_none hsc (by omega) (push_none (by rcases hq121 with h | h; exact .inl h; exact .inr (by omega))))).2.symm))
    · skip
      have h130 := or_fl h120
      have h131 := not_f h130
      have h132 := or_fr h120
      have h133 := of_decide_eq_false h132
      have hR134 := hR118.setb (d := 28) (b := false) rfl h120
      refine wp_cond_false (hR134.ev rfl) ?_
      refine wp_skip ?_
      refine x_then_n (hK64 _ _ ?_)
      refine wp_seq_k (fun K135 hK136 => ?_)
      refine c_region ?_
      refine r_move (st_listV rfl) hR134 rfl rfl rfl (by decide) (fun a137 hR138 => ?_)
      refine r_len (st_listV rfl) hR138 rfl rfl rfl rfl Tryd.underlying87 (by decide) (fun a139 hR140 => ?_)
      refine m_loadN (i := 2) (vs := [.int .i64 (((nth t k).K)), .int .i64 (((nth t k).N)), .int .i64 (((nth t k).M)), .string ((nth t k).S)]) (st_listV rfl) hR140 hS119 rfl rfl rfl rfl rfl Tryd.underlying32 rfl sz32 (by decide) (fun a141 hR142 => ?_)
      have hS143 : St w0 Z none_ w117 [.row Aa ((allTs 0 st).length) ca 121 2 (encMs (allTs 0 st)), .row Ao ((meas 0 st).length) co 121 2 (encMs (meas 0 st)), .box g54 32 [.int .i64 (((nth t k).K)), .int .i64 (((nth t k).N)), .int .i64 (((nth t k).M)), .string ((nth t k).S)]] [dShapes, dRow 4 tA t.length tc (encNs t)] := hS119
      refine k_call (xs := [.tmp 31]) (st_list rfl) hR142 rfl rfl rfl (by decide) ok126 (many_calls _ (imm Z w0 [.row Aa ((allTs 0 st).length) ca 121 2 (encMs (allTs 0 st)), .row Ao ((meas 0 st).length) co 121 2 (encMs (meas 0 st)), .box g54 32 [.int .i64 (((nth t k).K)), .int .i64 (((nth t k).N)), .int .i64 (((nth t k).M)), .string ((nth t k).S)]] _) (fun _ h => h.1) (nth t k) (hS143.get (i := 0) rfl) (by first | assumption | omega | (simp; done) | (simp; omega))) ?_
      rintro e150 w145 ⟨rfl, hf148⟩
      have hS151 := hS143.below hf148.below
      refine ⟨_, rfl, fun a144 hR146 => ?_⟩
      refine r_sub (z := ((((meas 0 st).length : Nat) : Int) - ((many (nth t k) : Nat) : Int))) (st_listV rfl) hR146 rfl rfl rfl rfl (by decide) (by omega) (by omega) (by omega) (fun a152 hR153 => ?_)
      refine r_assign (st_listV rfl) hR153 rfl rfl rfl (by decide) (fun a154 hR155 => ?_)
      refine wpList_nil ?_
      refine x_then_n (hK136 _ _ ?_)
      refine wp_seq_k (fun K156 hK157 => ?_)
      refine c_region ?_
      refine r_move (st_listV rfl) hR155 rfl rfl rfl (by decide) (fun a158 hR159 => ?_)
      refine m_build (ps := [(0, .tmp 34), (1, .const (.int .i64 1))]) (v := .agg #[.int .i64 ((k : Nat) : Int), .int .i64 1]) (st_listV rfl) hR159 rfl rfl rfl (fun _ => by kernel_rfl) (by decide) (fun a160 hR161 => ?_)
      refine m_alloc (cs := [.int .i64 0, .int .i64 0]) (st_listV rfl) hR161 hS151 rfl rfl ze121 rfl (by decide) (fun a162 w163 g164 hR165 hS166 => ?_)
      refine m_store (i := 3) (cs' := [.int .i64 ((k : Nat) : Int), .int .i64 1]) (st_list rfl) hR165 hS166 rfl rfl rfl rfl rfl sz121 rfl rfl rfl (fun a167 w168 hR169 hS170 => ?_)
      refine wpList_nil ?_
      refine x_then_n (hK157 _ _ ?_)
      refine wp_seq_k (fun K171 hK172 => ?_)
      refine wp_seq_k (fun K173 hK174 => ?_)
      refine c_region ?_
      refine r_move (st_listV rfl) hR169 rfl rfl rfl (by decide) (fun a175 hR176 => ?_)
      refine r_move (st_listV rfl) hR176 rfl rfl rfl (by decide) (fun a177 hR178 => ?_)
      have hcap185 := own_cap (hS170.res (i := 1) rfl)
      refine m_sliceV (lo := some (.tmp 37)) (hi := none) (vlo := (some (.int .i64 ((((meas 0 st).length : Nat) : Int) - ((many (nth t k) : Nat) : Int))))) (vhi := none) (kd := .i64) (kd' := .i64) (st_listV rfl) hR178 rfl rfl rfl rfl rfl (((meas 0 st).length) - (many (nth t k))) (many (nth t k)) (.inl (by first | rfl | (congr 2; omega))) (.inr ⟨rfl, by omega⟩) Tryd.underlying87 sz121 (by omega) (by decide) (fun a179 A181 c182 hc183 hv184 hR180 => ?_)
      refine r_len (st_listV rfl) hR180 rfl rfl rfl rfl Tryd.underlying87 (by decide) (fun a186 hR187 => ?_)
      refine r_move (st_listV rfl) hR187 rfl rfl rfl (by decide) (fun a188 hR189 => ?_)
      refine wpList_nil ?_
      refine x_then_n (hK174 _ _ ?_)
      refine wp_block ?_
      refine wp_loop_ghost (fun gn ga gw => ∃ j : Nat, (Reg ga 73 [(4, .slice Aa ((allTs 0 st).length) ca), (5, .slice Ao ((meas 0 st).length) co), (12, .slice tA t.length tc), (13, .int .i64 ((t.length : Nat) : Int)), (14, .int .i64 ((k : Nat) : Int)), (1000000, .bool false), (8, .int .i64 ((((meas 0 st).length : Nat) : Int) - ((many (nth t k) : Nat) : Int))), (9, .pointer (some ⟨g164, 0, none⟩)), (38, .slice A181 (many (nth t k)) c182), (39, .int .i64 ((many (nth t k) : Nat) : Int)), (40, .int .i64 ((j : Nat) : Int))]) ∧ (St w0 Z none_ gw [.row Aa ((allTs 0 st).length) ca 121 2 (encMs (allTs 0 st)), .row Ao ((meas 0 st).length) co 121 2 (encMs (meas 0 st)), .box g54 32 [.int .i64 (((nth t k).K)), .int .i64 (((nth t k).N)), .int .i64 (((nth t k).M)), .string ((nth t k).S)], .box g164 121 [.int .i64 ((fromQ k (meas 0 st) (((meas 0 st).length) - (many (nth t k))) j)), .int .i64 ((deepQ (meas 0 st) (((meas 0 st).length) - (many (nth t k))) j))]] [dShapes, dRow 4 tA t.length tc (encNs t)]) ∧ (j ≤ many (nth t k)) ∧ (many (nth t k) - j) = gn) _ ⟨0, (Reg.cons hR189 (Reg.cons hR189 (Reg.cons hR189 (Reg.cons hR189 (Reg.cons hR189 (Reg.cons hR189 (Reg.cons hR189 (Reg.cons hR189 (Reg.cons hR189 (Reg.cons hR189 (Reg.cons hR189 (hR189.nil) rfl) rfl) rfl) rfl) rfl) rfl) rfl) rfl) rfl) rfl) rfl), hS170, by omega, rfl⟩ ?_
      rintro r190 a191 w192 ⟨j, hR193, hS194, hj, hn195⟩
      obtain ⟨hd1, hd2⟩ := deepQ_le (st := st) (b := ((meas 0 st).length) - (many (nth t k))) (q := j)
      obtain ⟨hd3, hd4⟩ := meas_deep_le (st := st) (i := (((meas 0 st).length) - (many (nth t k))) + j)
      refine wp_seq_k (fun K196 hK197 => ?_)
      refine c_region ?_
      refine r_lss (st_listV rfl) hR193 rfl rfl rfl rfl (by decide) (fun a198 hR199 => ?_)
      refine wpList_nil ?_
      refine x_then_n (hK197 _ _ ?_)
      refine wp_seq_k (fun K200 hK201 => ?_)
      rcases Decidable.em (((j : Nat) : Int) < ((many (nth t k) : Nat) : Int)) with h202 | h202
      · skip
        have hR203 := hR199.setb (d := 41) (b := true) rfl (decide_eq_true h202)
        refine wp_cond_true (hR203.ev rfl) ?_
        refine wp_skip ?_
        refine x_then_n (hK201 _ _ ?_)
        refine wp_seq_k (fun K204 hK205 => ?_)
        refine wp_block ?_
        refine wp_seq_k (fun K206 hK207 => ?_)
        refine c_region ?_
        refine r_move (st_listV rfl) hR203 rfl rfl rfl (by decide) (fun a208 hR209 => ?_)
        refine m_index (i := j) (j := j * 2) (st_listV rfl) hR209 rfl rfl rfl rfl Tryd.underlying87 sz121 (by omega) (by omega) (Cut.elem hv184 (by omega) (own_ms (t := meas 0 st) (k := (((meas 0 st).length) - (many (nth t k))) + j) (hS194.res (i := 1) rfl) (by omega))).some_ rfl (by decide) (fun a210 hR211 => ?_)
        refine m_loadEN (st_listV rfl) hR211 rfl rfl rfl (Cut.elem hv184 (by omega) (own_ms (t := meas 0 st) (k := (((meas 0 st).length) - (many (nth t k))) + j) (hS194.res (i := 1) rfl) (by omega))) Tryd.underlying121 rfl sz121 (by decide) (fun a212 hR213 => ?_)
        refine m_alloc (cs := [.int .i64 0, .int .i64 0]) (st_listV rfl) hR213 hS194 rfl rfl ze121 rfl (by decide) (fun a214 w215 g216 hR217 hS218 => ?_)
        refine r_assign (st_listV rfl) hR217 rfl rfl rfl (by decide) (fun a219 hR220 => ?_)
        refine m_store (i := 4) (cs' := [.int .i64 (((nthM (meas 0 st) ((((meas 0 st).length) - (many (nth t k))) + j)).1)), .int .i64 (((nthM (meas 0 st) ((((meas 0 st).length) - (many (nth t k))) + j)).2))]) (st_list rfl) hR220 hS218 rfl rfl rfl rfl rfl sz121 rfl rfl rfl (fun a221 w222 hR223 hS224 => ?_)
        refine wpList_nil ?_
        refine x_then_n (hK207 _ _ ?_)
        refine c_join (fun ga gw => Reg ga 73 [(4, .slice Aa ((allTs 0 st).length) ca), (5, .slice Ao ((meas 0 st).length) co), (8, .int .i64 ((((meas 0 st).length : Nat) : Int) - ((many (nth t k) : Nat) : Int))), (9, .pointer (some ⟨g164, 0, none⟩)), (11, .pointer (some ⟨g216, 0, none⟩)), (12, .slice tA t.length tc), (13, .int .i64 ((t.length : Nat) : Int)), (14, .int .i64 ((k : Nat) : Int)), (38, .slice A181 (many (nth t k)) c182), (39, .int .i64 ((many (nth t k) : Nat) : Int)), (40, .int .i64 ((j : Nat) : Int)), (1000000, .bool false)] ∧ St w0 Z none_ gw [.row Aa ((allTs 0 st).length) ca 121 2 (encMs (allTs 0 st)), .row Ao ((meas 0 st).length) co 121 2 (encMs (meas 0 st)), .box g54 32 [.int .i64 (((nth t k).K)), .int .i64 (((nth t k).N)), .int .i64 (((nth t k).M)), .string ((nth t k).S)], .box g164 121 [.int .i64 ((if (((j : Nat) : Int) = 0) then (((nthM (meas 0 st) ((((meas 0 st).length) - (many (nth t k))) + j)).1)) else ((fromQ k (meas 0 st) (((meas 0 st).length) - (many (nth t k))) j)))), .int .i64 ((deepQ (meas 0 st) (((meas 0 st).length) - (many (nth t k))) j))], .box g216 121 [.int .i64 (((nthM (meas 0 st) ((((meas 0 st).length) - (many (nth t k))) + j)).1)), .int .i64 (((nthM (meas 0 st) ((((meas 0 st).length) - (many (nth t k))) + j)).2))]] [dShapes, dRow 4 tA t.length tc (encNs t)]) ?_ ?_
        · skip
          refine wp_seq_k (fun K225 hK226 => ?_)
          refine c_region ?_
          refine r_move (st_listV rfl) hR223 rfl rfl rfl (by decide) (fun a227 hR228 => ?_)
          refine r_eql (st_listV rfl) hR228 rfl rfl rfl rfl (by decide) (fun a229 hR230 => ?_)
          refine wpList_nil ?_
          refine x_then_n (hK226 _ _ ?_)
          rcases Decidable.em (((j : Nat) : Int) = 0) with h231 | h231
          · skip
            have hR232 := hR230.setb (d := 46) (b := true) rfl (decide_eq_true h231)
            refine wp_cond_true (hR232.ev rfl) ?_
            refine c_region ?_
            refine m_field (j' := 0) (st_listV rfl) hR232 rfl rfl rfl Tryd.underlying121 rfl sz3 rfl rfl (by decide) (fun a233 hR234 => ?_)
            refine m_load (i := 4) (st_listV rfl) hR234 hS224 rfl rfl rfl rfl rfl Tryd.underlying3 rfl (by decide) (fun a235 hR236 => ?_)
            refine m_field (j' := 0) (st_listV rfl) hR236 rfl rfl rfl Tryd.underlying121 rfl sz3 rfl rfl (by decide) (fun a237 hR238 => ?_)
            refine m_store (i := 3) (cs' := [.int .i64 (((nthM (meas 0 st) ((((meas 0 st).length) - (many (nth t k))) + j)).1)), .int .i64 ((deepQ (meas 0 st) (((meas 0 st).length) - (many (nth t k))) j))]) (st_list rfl) hR238 hS224 rfl rfl rfl rfl rfl sz3 rfl rfl rfl (fun a239 w240 hR241 hS242 => ?_)
            refine wpList_nil ?_
            have hSj := hS242
            exact x_then_n ⟨(Reg.cons hR241 (Reg.cons hR241 (Reg.cons hR241 (Reg.cons hR241 (Reg.cons hR241 (Reg.cons hR241 (Reg.cons hR241 (Reg.cons hR241 (Reg.cons hR241 (Reg.cons hR241 (Reg.cons hR241 (Reg.cons hR241 (hR241.nil) rfl) rfl) rfl) rfl) rfl) rfl) rfl) rfl) rfl) rfl) rfl) rfl), by rw [(show (((if (((j : Nat) : Int) = 0) then (((nthM (meas 0 st) ((((meas 0 st).length) - (many (nth t k))) + j)).1)) else ((fromQ k (meas 0 st) (((meas 0 st).length) - (many (nth t k))) j)))) : Int) = (((nthM (meas 0 st) ((((meas 0 st).length) - (many (nth t k))) + j)).1)) by first | rfl | (simp only [decide_eq_true h231, if_pos h231, Bool.true_and, Bool.and_true, Bool.false_and, Bool.and_false, Bool.true_or, Bool.or_true, Bool.false_or, Bool.or_false, Bool.not_true, Bool.not_false, if_true, ite_true, ite_false, Bool.false_eq_true]; done) | (simp [h231]; done) | (simp [h231]; omega))]; exact hSj⟩
          · skip
            have hR243 := hR230.setb (d := 46) (b := false) rfl (decide_eq_false h231)
            refine wp_cond_false (hR243.ev rfl) ?_
            refine wp_skip ?_
            have hSj := hS224
            exact x_then_n ⟨(Reg.cons hR243 (Reg.cons hR243 (Reg.cons hR243 (Reg.cons hR243 (Reg.cons hR243 (Reg.cons hR243 (Reg.cons hR243 (Reg.cons hR243 (Reg.cons hR243 (Reg.cons hR243 (Reg.cons hR243 (Reg.cons hR243 (hR243.nil) rfl) rfl) rfl) rfl) rfl) rfl) rfl) rfl) rfl) rfl) rfl) rfl), by rw [(show (((if (((j : Nat) : Int) = 0) then (((nthM (meas 0 st) ((((meas 0 st).length) - (many (nth t k))) + j)).1)) else ((fromQ k (meas 0 st) (((meas 0 st).length) - (many (nth t k))) j)))) : Int) = ((fromQ k (meas 0 st) (((meas 0 st).length) - (many (nth t k))) j)) by first | rfl | (simp only [decide_eq_false h231, if_neg h231, Bool.true_and, Bool.and_true, Bool.false_and, Bool.and_false, Bool.true_or, Bool.or_true, Bool.false_or, Bool.or_false, Bool.not_true, Bool.not_false, if_true, ite_true, ite_false, Bool.false_eq_true]; done) | (simp [h231]; done) | (simp [h231]; omega))]; exact hSj⟩
        rintro a244 w245 ⟨hR246, hS247⟩
        refine c_region ?_
        refine m_field (j' := 1) (st_listV rfl) hR246 rfl rfl rfl Tryd.underlying121 rfl sz3 rfl rfl (by decide) (fun a248 hR249 => ?_)
        refine m_load (i := 3) (st_listV rfl) hR249 hS247 rfl rfl rfl rfl rfl Tryd.underlying3 rfl (by decide) (fun a250 hR251 => ?_)
        refine m_field (j' := 1) (st_listV rfl) hR251 rfl rfl rfl Tryd.underlying121 rfl sz3 rfl rfl (by decide) (fun a252 hR253 => ?_)
        refine m_load (i := 4) (st_listV rfl) hR253 hS247 rfl rfl rfl rfl rfl Tryd.underlying3 rfl (by decide) (fun a254 hR255 => ?_)
        refine r_add (z := (((nthM (meas 0 st) ((((meas 0 st).length) - (many (nth t k))) + j)).2) + 1)) (st_listV rfl) hR255 rfl rfl rfl rfl (by decide) (by omega) (by omega) (by omega) (fun a256 hR257 => ?_)
        refine r_max (st_listV rfl) hR257 rfl rfl rfl rfl rfl (by decide) (fun a258 hR259 => ?_)
        refine m_field (j' := 1) (st_listV rfl) hR259 rfl rfl rfl Tryd.underlying121 rfl sz3 rfl rfl (by decide) (fun a260 hR261 => ?_)
        refine m_store (i := 3) (cs' := [.int .i64 ((if (((j : Nat) : Int) = 0) then (((nthM (meas 0 st) ((((meas 0 st).length) - (many (nth t k))) + j)).1)) else ((fromQ k (meas 0 st) (((meas 0 st).length) - (many (nth t k))) j)))), .int .i64 ((max ((deepQ (meas 0 st) (((meas 0 st).length) - (many (nth t k))) j)) (((nthM (meas 0 st) ((((meas 0 st).length) - (many (nth t k))) + j)).2) + 1)))]) (st_list rfl) hR261 hS247 rfl rfl rfl rfl rfl sz3 rfl rfl rfl (fun a262 w263 hR264 hS265 => ?_)
        refine wpList_nil ?_
        refine x_block_n ?_
        refine x_then_n (hK205 _ _ ?_)
        refine c_region ?_
        refine r_add (z := ((j + 1 : Nat) : Int)) (st_listV rfl) hR264 rfl rfl rfl rfl (by decide) (by omega) (by omega) (by omega) (fun a266 hR267 => ?_)
        refine r_move (st_listV rfl) hR267 rfl rfl rfl (by decide) (fun a268 hR269 => ?_)
        refine wpList_nil ?_
        have he270 : ((if (((j : Nat) : Int) = 0) then (((nthM (meas 0 st) ((((meas 0 st).length) - (many (nth t k))) + j)).1)) else ((fromQ k (meas 0 st) (((meas 0 st).length) - (many (nth t k))) j)))) = ((fromQ k (meas 0 st) (((meas 0 st).length) - (many (nth t k))) (j + 1))) := by unfold fromQ; (repeat' split) <;> first | rfl | omega | (congr 2; omega) | (congr 3; omega)
        have hS271 := hS265
        rw [he270] at hS271
        have he272 : ((max ((deepQ (meas 0 st) (((meas 0 st).length) - (many (nth t k))) j)) (((nthM (meas 0 st) ((((meas 0 st).length) - (many (nth t k))) + j)).2) + 1))) = ((deepQ (meas 0 st) (((meas 0 st).length) - (many (nth t k))) (j + 1))) := rfl
        have hS273 := hS271
        rw [he272] at hS273
        have hS274 := hS273.erase 4
        exact ⟨_, by omega, j + 1, (Reg.cons hR269 (Reg.cons hR269 (Reg.cons hR269 (Reg.cons hR269 (Reg.cons hR269 (Reg.cons hR269 (Reg.cons hR269 (Reg.cons hR269 (Reg.cons hR269 (Reg.cons hR269 (Reg.cons hR269 (hR269.nil) rfl) rfl) rfl) rfl) rfl) rfl) rfl) rfl) rfl) rfl) rfl), hS274, by omega, rfl⟩
      · skip
        have hR275 := hR199.setb (d := 41) (b := false) rfl (decide_eq_false h202)
        refine wp_cond_false (hR275.ev rfl) ?_
        refine wp_exit ?_
        refine x_then_e ?_
        refine x_then_e ?_
        refine x_block_eq ?_
        refine x_then_n (hK172 _ _ ?_)
        refine wp_seq_k (fun K276 hK277 => ?_)
        obtain ⟨J278, hJ279, hS280⟩ := hS194.agree
        refine d_region2 (S := (fun x => (w192.heap.size ≤ x.heap.size ∧ ∀ k, J278 k → x.heap[k]? = w192.heap[k]?) ∧ (x.cell? ⟨g164, 0, none⟩ = some (.int .i64 ((fromQ k (meas 0 st) (((meas 0 st).length) - (many (nth t k))) j)))) ∧ (x.cell? ⟨g164, 1, none⟩ = some (.int .i64 ((deepQ (meas 0 st) (((meas 0 st).length) - (many (nth t k))) j)))) ∧ (True))) (n := 7) mixed rfl hS280 (pan_then (pan_block (pan_then (pan_then (pan_block (pan_then pan_body)))))) (fun Q283 hP284 hN285 w281 hS282 => ?_)
        have hSw286 : (w192.heap.size ≤ w281.heap.size ∧ ∀ k, J278 k → w281.heap[k]? = w192.heap[k]?) ∧ (w281.cell? ⟨g164, 0, none⟩ = some (.int .i64 ((fromQ k (meas 0 st) (((meas 0 st).length) - (many (nth t k))) j)))) ∧ (w281.cell? ⟨g164, 1, none⟩ = some (.int .i64 ((deepQ (meas 0 st) (((meas 0 st).length) - (many (nth t k))) j)))) ∧ (True) := ⟨⟨(hS282.get (i := 2) rfl).1, fun k hk => ((hS282.get (i := 2) rfl).2 k hk).2⟩, (box_cell (hS282.res (i := 3) rfl) rfl), (box_cell (hS282.res (i := 3) rfl) rfl), trivial⟩
        refine d_take (i := 0) rfl (by kernel_rfl) (by kernel_rfl) (by kernel_rfl) (fun c a w h => hP284 c _ _ _ _ h) rfl (by decide) hR275 (want_n rfl) (fun x hx => r_move (st_yield hR275 rfl (by decide)) hR275 rfl rfl rfl (by decide) (fun _ h => ⟨h.get _ _ (by decide) rfl, rfl⟩)) hSw286 (fun a287 hR288 => ?_)
        refine d_take (i := 1) rfl (by kernel_rfl) (by kernel_rfl) (by kernel_rfl) (fun c a w h => hP284 c _ _ _ _ h) rfl (by decide) hR288 (want_n rfl) (fun x hx => r_move (st_yield hR288 rfl (by decide)) hR288 rfl rfl rfl (by decide) (fun _ h => ⟨h.get _ _ (by decide) rfl, rfl⟩)) hSw286 (fun a289 hR290 => ?_)
        refine d_take (i := 2) rfl (by kernel_rfl) (by kernel_rfl) (by kernel_rfl) (fun c a w h => hP284 c _ _ _ _ h) rfl (by decide) hR290 (want_n rfl) (fun x hx => m_sliceP (q := ((meas 0 st).length) - (many (nth t k))) (st_yield hR290 rfl (by decide)) hR290 rfl rfl rfl rfl (by omega) Tryd.underlying87 sz121 (by omega) (by decide) (fun _ h => ⟨h.get _ _ (by decide) rfl, rfl⟩)) hSw286 (fun a293 hR294 => ?_)
        refine d_take (i := 3) rfl (by kernel_rfl) (by kernel_rfl) (by kernel_rfl) (fun c a w h => hP284 c _ _ _ _ h) rfl (by decide) hR294 (want_n rfl) (fun x hx => m_loadCN (st_yield hR294 rfl (by decide)) hR294 rfl rfl rfl (CellsAt.cons_ hx.2.1 (CellsAt.cons_ hx.2.2.1 (CellsAt.nil _ _))) Tryd.underlying121 rfl sz121 (by decide) (fun _ h => ⟨h.get _ _ (by decide) rfl, rfl⟩)) hSw286 (fun a295 hR296 => ?_)
        refine d_one (i := 4) (by kernel_rfl) ?_
        refine m_buildSlice (ps := [(0, .tmp 61)]) (cs := [.int .i64 ((fromQ k (meas 0 st) (((meas 0 st).length) - (many (nth t k))) j)), .int .i64 ((deepQ (meas 0 st) (((meas 0 st).length) - (many (nth t k))) j))]) (st_opV rfl (want_n rfl)) hR296 hS282 rfl rfl rfl Tryd.underlying87 zi121 rfl rfl (by kernel_rfl) rfl (by decide) (fun a297 w298 g299 hR300 hS301 => ?_)
        have hSw302 : (w192.heap.size ≤ w298.heap.size ∧ ∀ k, J278 k → w298.heap[k]? = w192.heap[k]?) ∧ (w298.cell? ⟨g164, 0, none⟩ = some (.int .i64 ((fromQ k (meas 0 st) (((meas 0 st).length) - (many (nth t k))) j)))) ∧ (w298.cell? ⟨g164, 1, none⟩ = some (.int .i64 ((deepQ (meas 0 st) (((meas 0 st).length) - (many (nth t k))) j)))) ∧ (True) := ⟨⟨(hS301.get (i := 2) rfl).1, fun k hk => ((hS301.get (i := 2) rfl).2 k hk).2⟩, (box_cell (hS301.res (i := 3) rfl) rfl), (box_cell (hS301.res (i := 3) rfl) rfl), trivial⟩
        refine ⟨hSw302, ?_⟩
        refine d_one (i := 5) (by kernel_rfl) ?_
        refine m_appendC (f := encM) (i := 1) (meas 0 st) ([(((fromQ k (meas 0 st) (((meas 0 st).length) - (many (nth t k))) j)), ((deepQ (meas 0 st) (((meas 0 st).length) - (many (nth t k))) j)))]) (st_opV rfl (want_n rfl)) hR300 hS301 rfl rfl rfl rfl rfl (by omega) encM_len (encM_one _) Tryd.underlying87 zi121 rfl rfl (own_lnews (f := encM) (hS301.res (i := 4) rfl)) rfl (by first | omega | (simp only [List.length_cons, List.length_nil]; omega)) (by decide) (fun a303 w304 A305 c306 hc307 hR308 hS309 => ?_)
        have hl311 : ((meas 0 st).take (((meas 0 st).length) - (many (nth t k))) ++ ([(((fromQ k (meas 0 st) (((meas 0 st).length) - (many (nth t k))) j)), ((deepQ (meas 0 st) (((meas 0 st).length) - (many (nth t k))) j)))]) : List (Int × Int)).length = ((meas 0 st).length + 1) - (many (nth t k)) := by first | (simp only [List.length_append, List.length_take, List.length_cons, List.length_nil]; done) | (simp only [List.length_append, List.length_take, List.length_cons, List.length_nil]; omega)
        have hS312 := hS309.erase 4
        have hSw313 : (w192.heap.size ≤ w304.heap.size ∧ ∀ k, J278 k → w304.heap[k]? = w192.heap[k]?) ∧ (w304.cell? ⟨g164, 0, none⟩ = some (.int .i64 ((fromQ k (meas 0 st) (((meas 0 st).length) - (many (nth t k))) j)))) ∧ (w304.cell? ⟨g164, 1, none⟩ = some (.int .i64 ((deepQ (meas 0 st) (((meas 0 st).length) - (many (nth t k))) j)))) ∧ (True) := ⟨⟨(hS312.get (i := 2) rfl).1, fun k hk => ((hS312.get (i := 2) rfl).2 k hk).2⟩, (box_cell (hS312.res (i := 3) rfl) rfl), (box_cell (hS312.res (i := 3) rfl) rfl), trivial⟩
        refine ⟨hSw313, ?_⟩
        refine d_take (i := 6) rfl (by kernel_rfl) (by kernel_rfl) (by kernel_rfl) (fun c a w h => hP284 c _ _ _ _ h) rfl (by decide) hR308 (want_n rfl) (fun x hx => r_assign (st_yield hR308 rfl (by decide)) hR308 rfl rfl rfl (by decide) (fun _ h => ⟨h.get _ _ (by decide) rfl, rfl⟩)) hSw313 (fun a314 hR315 => ?_)
        refine wpAnyH_done (by kernel_rfl) (hN285 _ _ ?_) _
        refine x_then_n (hK277 _ _ ?_)
        refine c_region ?_
        refine r_move (st_listV rfl) hR315 rfl rfl rfl (by decide) (fun a316 hR317 => ?_)
        refine m_loadN (i := 3) (vs := [.int .i64 ((fromQ k (meas 0 st) (((meas 0 st).length) - (many (nth t k))) j)), .int .i64 ((deepQ (meas 0 st) (((meas 0 st).length) - (many (nth t k))) j))]) (st_listV rfl) hR317 hS312 rfl rfl rfl rfl rfl Tryd.underlying121 rfl sz121 (by decide) (fun a318 hR319 => ?_)
        refine m_buildSlice (ps := [(0, .tmp 65)]) (cs := [.int .i64 ((fromQ k (meas 0 st) (((meas 0 st).length) - (many (nth t k))) j)), .int .i64 ((deepQ (meas 0 st) (((meas 0 st).length) - (many (nth t k))) j))]) (st_listV rfl) hR319 hS312 rfl rfl rfl Tryd.underlying87 zi121 rfl rfl (by kernel_rfl) rfl (by decide) (fun a320 w321 g322 hR323 hS324 => ?_)
        refine m_appendF (f := encM) (i := 0) (allTs 0 st) ([(((fromQ k (meas 0 st) (((meas 0 st).length) - (many (nth t k))) j)), ((deepQ (meas 0 st) (((meas 0 st).length) - (many (nth t k))) j)))]) (st_listV rfl) hR323 hS324 rfl rfl rfl rfl rfl encM_len (encM_one _) Tryd.underlying87 zi121 rfl rfl (own_lnews (f := encM) (hS324.res (i := 4) rfl)) rfl (by first | omega | (simp only [List.length_cons, List.length_nil]; omega)) (by decide) (fun a325 w326 A327 c328 hc329 hR330 hS331 => ?_)
        have hl333 : ((allTs 0 st) ++ ([(((fromQ k (meas 0 st) (((meas 0 st).length) - (many (nth t k))) j)), ((deepQ (meas 0 st) (((meas 0 st).length) - (many (nth t k))) j)))]) : List (Int × Int)).length = (allTs 0 st).length + 1 := by first | (simp only [List.length_append, List.length_take, List.length_cons, List.length_nil]; done) | (simp only [List.length_append, List.length_take, List.length_cons, List.length_nil]; omega)
        have hS334 := hS331.erase 4
        refine r_assign (st_listV rfl) hR330 rfl rfl rfl (by decide) (fun a335 hR336 => ?_)
        refine wpList_nil ?_
        refine x_block_n ?_
        refine x_then_n (hK43 _ _ ?_)
        refine c_region ?_
        refine r_add (z := ((k + 1 : Nat) : Int)) (st_listV rfl) hR336 rfl rfl rfl rfl (by decide) (by omega) (by omega) (by omega) (fun a337 hR338 => ?_)
        refine r_move (st_listV rfl) hR338 rfl rfl rfl (by decide) (fun a339 hR340 => ?_)
        refine wpList_nil ?_
        obtain ⟨st', hp, hpl⟩ := push_some (st := st) (n := nth t k) (by assumption) (by omega)
        obtain ⟨hm1, hm2⟩ := push_meas hp hfl
        have hjq : j = many (nth t k) := by omega
        have he341 : (allTs 0 st) ++ ([(((fromQ k (meas 0 st) (((meas 0 st).length) - (many (nth t k))) j)), ((deepQ (meas 0 st) (((meas 0 st).length) - (many (nth t k))) j)))]) = allTs 0 st' := by rw [hm2, hjq]; try simp only [meas_length]
        have hR342 := hR340
        have hS343 := hS334
        rw [he341] at hR342 hS343
        have he344 : (meas 0 st).take (((meas 0 st).length) - (many (nth t k))) ++ ([(((fromQ k (meas 0 st) (((meas 0 st).length) - (many (nth t k))) j)), ((deepQ (meas 0 st) (((meas 0 st).length) - (many (nth t k))) j)))]) = meas 0 st' := by rw [hm1, hjq]; try simp only [meas_length]
        have hR345 := hR342
        have hS346 := hS343
        rw [he344] at hR345 hS346
        have hS347 := hS346.erase 3
        have hS348 := hS347.erase 2
        have hS349 := hS348.forget 2
        exact ⟨_, by omega, k + 1, st', A327, c328, A305, c306, (Reg.cons hR345 (Reg.cons hR345 (Reg.cons hR345 (Reg.cons hR345 (Reg.cons hR345 (Reg.cons hR345 (hR345.nil) rfl) rfl) rfl) rfl) rfl) rfl), hS349, by omega, (scan_step hsc (by omega)).trans hp, rfl⟩
  · skip
    have hR350 := hR37.setb (d := 15) (b := false) rfl (decide_eq_false h40)
    refine wp_cond_false (hR350.ev rfl) ?_
    refine wp_exit ?_
    refine x_then_e ?_
    refine x_then_e ?_
    refine x_block_eq ?_
    refine x_then_n (hK17 _ _ ?_)
    refine wp_seq_k (fun K351 hK352 => ?_)
    refine c_region ?_
    refine r_move (st_listV rfl) hR350 rfl rfl rfl (by decide) (fun a353 hR354 => ?_)
    refine r_move (st_listV rfl) hR354 rfl rfl rfl (by decide) (fun a355 hR356 => ?_)
    refine r_len (st_listV rfl) hR356 rfl rfl rfl rfl Tryd.underlying87 (by decide) (fun a357 hR358 => ?_)
    refine r_eql (st_listV rfl) hR358 rfl rfl rfl rfl (by decide) (fun a359 hR360 => ?_)
    refine r_assign (st_listV rfl) hR360 rfl rfl rfl (by decide) (fun a361 hR362 => ?_)
    refine r_assign (st_listV rfl) hR362 rfl rfl rfl (by decide) (fun a363 hR364 => ?_)
    refine wpList_nil ?_
    refine x_then_n (hK352 _ _ ?_)
    refine wp_ret ?_
    refine e_ret2 hR364 rfl rfl rfl rfl ?_
    have he365 : measL t = allTs 0 st := measL_end (by rw [← hsc, List.take_of_length_le (by omega)])
    rw [he365]
    have hc369 := own_cap (hS32.res (i := 0) rfl)
    obtain ⟨hS366, hrow367⟩ := hS32.row_data (i := 0) rfl (fun _ h => h)
    have hS368 := hS366.data (dRow 2 Aa ((allTs 0 st).length) ca (encMs (allTs 0 st))) ⟨hc369, hrow367⟩
    refine ⟨Aa, ca, ?_, hS368.fr, ⟨by have := (hS368.row (i := 2) rfl).1; exact this, ((hS368.row (i := 2) rfl).2.mono (fun _ hk => ⟨imm_nxt hk, rfl⟩))⟩⟩
    exact ret_t2 rfl (ret_b (by first | (rw [measB_end (by rw [← hsc, List.take_of_length_le (by omega)]), meas_length]; done) | (rw [measB_end (by rw [← hsc, List.take_of_length_le (by omega)]), meas_length]; simp [h40]; done)))

set_option maxRecDepth 100000 in
set_option maxHeartbeats 1000000 in
theorem look_calls (w0 : World) (Z : Nat → Prop) (hZ : ∀ k, Z k → k < w0.heap.size) (tA : Option Addr) (tc : Nat) (t : List Nd) (hShp : Shapes w0 Z) (ht : (dRow 4 tA t.length tc (encNs t)).φ w0 Z) (hsm : sml t) (hl : t.length ≤ 1000000) :
    Calls Tryd.prog 67 [.slice tA t.length tc].toArray w0 (fun e w' => ∃ (rA0 : Option Addr) (rc0 : Nat), e = .returned (.tuple #[.slice rA0 (lookL t).length rc0, .int .i64 (chk t)]) ∧ Fr none_ w0 w' ∧ (dRow 2 rA0 ((lookL t).length) rc0 (encMs (lookL t))).φ w' (nxt Z w0 w')) := by
  have hstart : ∀ k, Z k → imm Z w0 [] w0 k ∧ w0.heap[k]? = w0.heap[k]? := fun k hk => ⟨⟨hZ k hk, fun _ => hk, fun _ h => by cases h⟩, rfl⟩
  have hS3 : St w0 Z none_ w0 [] [dShapes, dRow 4 tA t.length tc (encNs t)] := St.start w0 Z none_ _ (by
    intro d hd
    simp only [List.mem_cons, List.not_mem_nil, or_false] at hd
    rcases hd with rfl | rfl
    · exact Dat.mono _ _ _ _ _ (Nat.le_refl _) hShp hstart
    · exact Dat.mono _ _ _ _ _ (Nat.le_refl _) ht hstart
    )
  refine c_enter Tryd.func67 rfl Tryd.ntmps67 rfl (fun a1 hR2 => ?_)
  refine wp_seq_k (fun K4 hK5 => ?_)
  refine c_region ?_
  refine r_assign (st_listV rfl) hR2 rfl rfl rfl (by decide) (fun a6 hR7 => ?_)
  refine r_assign (st_listV rfl) hR7 rfl rfl rfl (by decide) (fun a8 hR9 => ?_)
  refine wpList_nil ?_
  refine x_then_n (hK5 _ _ ?_)
  refine wp_seq_k (fun K10 hK11 => ?_)
  refine wp_seq_k (fun K12 hK13 => ?_)
  refine c_region ?_
  refine r_move (st_listV rfl) hR9 rfl rfl rfl (by decide) (fun a14 hR15 => ?_)
  refine r_len (st_listV rfl) hR15 rfl rfl rfl rfl Tryd.underlying22 (by decide) (fun a16 hR17 => ?_)
  refine r_gtr (st_listV rfl) hR17 rfl rfl rfl rfl (by decide) (fun a18 hR19 => ?_)
  refine wpList_nil ?_
  refine x_then_n (hK13 _ _ ?_)
  rcases Decidable.em (4000 < ((t.length : Nat) : Int)) with h20 | h20
  · skip
    have hR21 := hR19.setb (d := 8) (b := true) rfl (decide_eq_true h20)
    refine wp_cond_true (hR21.ev rfl) ?_
    refine wp_seq_k (fun K22 hK23 => ?_)
    refine c_region ?_
    refine r_assign (st_listV rfl) hR21 rfl rfl rfl (by decide) (fun a24 hR25 => ?_)
    refine r_assign (st_listV rfl) hR25 rfl rfl rfl (by decide) (fun a26 hR27 => ?_)
    refine wpList_nil ?_
    refine x_then_n (hK23 _ _ ?_)
    refine wp_ret ?_
    refine x_then_r ?_
    refine e_ret2 hR27 rfl rfl rfl rfl ?_
    have he28 : lookL t = [] := lookL_bad (by first | rw [chk_size (by omega)]; omega | (rw [chk_form (by omega) (by assumption)]; omega) | (rw [chk_deep (by omega) (by assumption) (by assumption)]; omega))
    rw [he28]
    refine ⟨none, 0, ?_, hS3.fr, ⟨Nat.le_refl _, RowI.nil _ _ _ _⟩⟩
    exact ret_t2 rfl (ret_i (by first | exact (chk_size (by omega)).symm))
  · skip
    have hR29 := hR19.setb (d := 8) (b := false) rfl (decide_eq_false h20)
    refine wp_cond_false (hR29.ev rfl) ?_
    refine wp_skip ?_
    refine x_then_n (hK11 _ _ ?_)
    refine wp_seq_k (fun K30 hK31 => ?_)
    refine c_region ?_
    refine r_move (st_listV rfl) hR29 rfl rfl rfl (by decide) (fun a32 hR33 => ?_)
    have hS34 : St w0 Z none_ w0 [] [dShapes, dRow 4 tA t.length tc (encNs t)] := hS3
    refine k_call (xs := [.tmp 10]) (st_list rfl) hR33 rfl rfl rfl (by decide) ok106 (measured_calls _ (imm Z w0 [] _) (fun _ h => h.1) tA tc t (hS34.get (i := 0) rfl) (hS34.get (i := 1) rfl) (by first | assumption | omega | (simp; done) | (simp; omega)) (by first | assumption | omega | (simp; done) | (simp; omega))) ?_
    rintro e44 w36 ⟨A40, c41, rfl, hf39, hd42⟩
    have hS45 := hS34.below hf39.below
    have hS46 := hS45.data (dRow 2 A40 ((measL t).length) c41 (encMs (measL t))) ⟨hd42.1, hd42.2.mono (fun _ hk => ⟨nxt_imm hS34 hk, rfl⟩)⟩
    refine ⟨_, rfl, fun a35 hR37 => ?_⟩
    refine r_move (st_listV rfl) hR37 rfl rfl rfl (by decide) (fun a47 hR48 => ?_)
    refine r_extract (st_listV rfl) hR48 rfl rfl rfl rfl (by decide) (fun a49 hR50 => ?_)
    refine r_extract (st_listV rfl) hR50 rfl rfl rfl rfl (by decide) (fun a51 hR52 => ?_)
    refine r_assign (st_listV rfl) hR52 rfl rfl rfl (by decide) (fun a53 hR54 => ?_)
    refine r_assign (st_listV rfl) hR54 rfl rfl rfl (by decide) (fun a55 hR56 => ?_)
    refine wpList_nil ?_
    refine x_then_n (hK31 _ _ ?_)
    refine wp_seq_k (fun K57 hK58 => ?_)
    refine wp_block ?_
    refine wp_seq_k (fun K59 hK60 => ?_)
    refine c_region ?_
    refine r_move (st_listV rfl) hR56 rfl rfl rfl (by decide) (fun a61 hR62 => ?_)
    refine r_not (st_listV rfl) hR62 rfl rfl rfl (by decide) (fun a63 hR64 => ?_)
    refine r_assign (st_listV rfl) hR64 rfl rfl rfl (by decide) (fun a65 hR66 => ?_)
    refine wpList_nil ?_
    refine x_then_n (hK60 _ _ ?_)
    rcases Bool.eq_false_or_eq_true (measB t) with h67 | h67
    · skip
      have hpos := measL_pos h67
      have hml := measL_length h67
      have hR68 := hR66.setb (d := 14) (b := false) rfl (by rw [h67]; rfl)
      refine wp_cond_false (hR68.ev rfl) ?_
      refine wp_seq_k (fun K69 hK70 => ?_)
      refine c_region ?_
      refine r_move (st_listV rfl) hR68 rfl rfl rfl (by decide) (fun a71 hR72 => ?_)
      refine r_move (st_listV rfl) hR72 rfl rfl rfl (by decide) (fun a73 hR74 => ?_)
      refine r_len (st_listV rfl) hR74 rfl rfl rfl rfl Tryd.underlying87 (by decide) (fun a75 hR76 => ?_)
      refine r_sub (z := ((((measL t).length : Nat) : Int) - 1)) (st_listV rfl) hR76 rfl rfl rfl rfl (by decide) (by omega) (by omega) (by omega) (fun a77 hR78 => ?_)
      refine m_index (i := ((measL t).length) - (1)) (j := (((measL t).length) - (1)) * 2) (st_listV rfl) hR78 rfl rfl rfl rfl Tryd.underlying87 sz121 (by omega) (by omega) (ms_elem (t := measL t) (k := ((measL t).length) - (1)) (hS46.row (i := 2) rfl).2 (by omega)).some_ rfl (by decide) (fun a79 hR80 => ?_)
      refine m_fieldE (j' := (((measL t).length) - (1)) * 2 + 1) (st_listV rfl) hR80 rfl rfl rfl (ms_elem (t := measL t) (k := ((measL t).length) - (1)) (hS46.row (i := 2) rfl).2 (by omega)).some_ Tryd.underlying121 rfl sz3 rfl rfl (by decide) (fun a81 hR82 => ?_)
      refine m_loadE (st_listV rfl) hR82 rfl rfl rfl 1 ((((measL t).length) - (1)) * 2) (ms_elem (t := measL t) (k := ((measL t).length) - (1)) (hS46.row (i := 2) rfl).2 (by omega)) rfl rfl Tryd.underlying3 rfl (by decide) (fun a83 hR84 => ?_)
      refine r_gtr (st_listV rfl) hR84 rfl rfl rfl rfl (by decide) (fun a85 hR86 => ?_)
      refine r_assign (st_listV rfl) hR86 rfl rfl rfl (by decide) (fun a87 hR88 => ?_)
      refine wpList_nil ?_
      refine x_then_n (hK70 _ _ ?_)
      rcases Decidable.em (60 < (((nthM (measL t) (((measL t).length) - (1))).2))) with h89 | h89
      · skip
        have hR90 := hR88.setb (d := 17) (b := true) rfl (decide_eq_true h89)
        refine wp_cond_true (hR90.ev rfl) ?_
        refine wp_seq_k (fun K91 hK92 => ?_)
        refine c_region ?_
        refine r_assign (st_listV rfl) hR90 rfl rfl rfl (by decide) (fun a93 hR94 => ?_)
        refine r_assign (st_listV rfl) hR94 rfl rfl rfl (by decide) (fun a95 hR96 => ?_)
        refine wpList_nil ?_
        refine x_then_n (hK92 _ _ ?_)
        refine wp_ret ?_
        refine x_block_r ?_
        refine x_then_r ?_
        refine e_ret2 hR96 rfl rfl rfl rfl ?_
        have he97 : lookL t = [] := lookL_bad (by first | rw [chk_size (by omega)]; omega | (rw [chk_form (by omega) (by assumption)]; omega) | (rw [chk_deep (by omega) (by assumption) (by assumption)]; omega))
        rw [he97]
        refine ⟨none, 0, ?_, hS46.fr, ⟨Nat.le_refl _, RowI.nil _ _ _ _⟩⟩
        exact ret_t2 rfl (ret_i (by first | exact (chk_deep (by omega) (by assumption) (by assumption)).symm))
      · skip
        have hR98 := hR88.setb (d := 17) (b := false) rfl (decide_eq_false h89)
        refine wp_cond_false (hR98.ev rfl) ?_
        refine wp_skip ?_
        refine x_block_n ?_
        refine x_then_n (hK58 _ _ ?_)
        refine wp_seq_k (fun K99 hK100 => ?_)
        refine c_region ?_
        refine r_move (st_listV rfl) hR98 rfl rfl rfl (by decide) (fun a101 hR102 => ?_)
        refine r_assign (st_listV rfl) hR102 rfl rfl rfl (by decide) (fun a103 hR104 => ?_)
        refine r_assign (st_listV rfl) hR104 rfl rfl rfl (by decide) (fun a105 hR106 => ?_)
        refine wpList_nil ?_
        refine x_then_n (hK100 _ _ ?_)
        refine wp_ret ?_
        refine e_ret2 hR106 rfl rfl rfl rfl ?_
        have he107 : lookL t = measL t := lookL_good (chk_good (by omega) (by assumption) (by assumption))
        rw [he107]
        refine ⟨A40, c41, ?_, hS46.fr, ⟨by have := (hS46.row (i := 2) rfl).1; exact this, ((hS46.row (i := 2) rfl).2.mono (fun _ hk => ⟨imm_nxt hk, rfl⟩))⟩⟩
        exact ret_t2 rfl (ret_i (by first | exact (chk_good (by omega) (by assumption) (by assumption)).symm))
    · skip
      have hR108 := hR66.setb (d := 14) (b := true) rfl (by rw [h67]; rfl)
      refine wp_cond_true (hR108.ev rfl) ?_
      refine wp_seq_k (fun K109 hK110 => ?_)
      refine c_region ?_
      refine r_assign (st_listV rfl) hR108 rfl rfl rfl (by decide) (fun a111 hR112 => ?_)
      refine r_assign (st_listV rfl) hR112 rfl rfl rfl (by decide) (fun a113 hR114 => ?_)
      refine wpList_nil ?_
      refine x_then_n (hK110 _ _ ?_)
      refine wp_ret ?_
      refine x_block_r ?_
      refine x_then_r ?_
      refine e_ret2 hR114 rfl rfl rfl rfl ?_
      have he115 : lookL t = [] := lookL_bad (by first | rw [chk_size (by omega)]; omega | (rw [chk_form (by omega) (by assumption)]; omega) | (rw [chk_deep (by omega) (by assumption) (by assumption)]; omega))
      rw [he115]
      refine ⟨none, 0, ?_, hS46.fr, ⟨Nat.le_refl _, RowI.nil _ _ _ _⟩⟩
      exact ret_t2 rfl (ret_i (by first | exact (chk_form (by omega) (by assumption)).symm))

set_option maxRecDepth 100000 in
set_option maxHeartbeats 1000000 in
theorem check_calls (w0 : World) (Z : Nat → Prop) (hZ : ∀ k, Z k → k < w0.heap.size) (tA : Option Addr) (tc : Nat) (t : List Nd) (hShp : Shapes w0 Z) (ht : (dRow 4 tA t.length tc (encNs t)).φ w0 Z) (hsm : sml t) (hl : t.length ≤ 1000000) :
    Calls Tryd.prog 44 [.slice tA t.length tc].toArray w0 (fun e w' => e = .returned (.int .i64 (chk t)) ∧ Fr none_ w0 w') := by
  have hstart : ∀ k, Z k → imm Z w0 [] w0 k ∧ w0.heap[k]? = w0.heap[k]? := fun k hk => ⟨⟨hZ k hk, fun _ => hk, fun _ h => by cases h⟩, rfl⟩
  have hS3 : St w0 Z none_ w0 [] [dShapes, dRow 4 tA t.length tc (encNs t)] := St.start w0 Z none_ _ (by
    intro d hd
    simp only [List.mem_cons, List.not_mem_nil, or_false] at hd
    rcases hd with rfl | rfl
    · exact Dat.mono _ _ _ _ _ (Nat.le_refl _) hShp hstart
    · exact Dat.mono _ _ _ _ _ (Nat.le_refl _) ht hstart
    )
  refine c_enter Tryd.func44 rfl Tryd.ntmps44 rfl (fun a1 hR2 => ?_)
  refine wp_seq_k (fun K4 hK5 => ?_)
  refine c_region ?_
  refine r_assign (st_listV rfl) hR2 rfl rfl rfl (by decide) (fun a6 hR7 => ?_)
  refine wpList_nil ?_
  refine x_then_n (hK5 _ _ ?_)
  refine wp_seq_k (fun K8 hK9 => ?_)
  refine c_region ?_
  refine r_move (st_listV rfl) hR7 rfl rfl rfl (by decide) (fun a10 hR11 => ?_)
  have hS12 : St w0 Z none_ w0 [] [dShapes, dRow 4 tA t.length tc (encNs t)] := hS3
  refine k_call (xs := [.tmp 6]) (st_list rfl) hR11 rfl rfl rfl (by decide) ok67 (look_calls _ (imm Z w0 [] _) (fun _ h => h.1) tA tc t (hS12.get (i := 0) rfl) (hS12.get (i := 1) rfl) (by first | assumption | omega | (simp; done) | (simp; omega)) (by first | assumption | omega | (simp; done) | (simp; omega))) ?_
  rintro e22 w14 ⟨A18, c19, rfl, hf17, hd20⟩
  have hS23 := hS12.below hf17.below
  have hS24 := hS23.data (dRow 2 A18 ((lookL t).length) c19 (encMs (lookL t))) ⟨hd20.1, hd20.2.mono (fun _ hk => ⟨nxt_imm hS12 hk, rfl⟩)⟩
  refine ⟨_, rfl, fun a13 hR15 => ?_⟩
  refine r_move (st_listV rfl) hR15 rfl rfl rfl (by decide) (fun a25 hR26 => ?_)
  refine r_extract (st_listV rfl) hR26 rfl rfl rfl rfl (by decide) (fun a27 hR28 => ?_)
  refine r_extract (st_listV rfl) hR28 rfl rfl rfl rfl (by decide) (fun a29 hR30 => ?_)
  refine r_assign (st_listV rfl) hR30 rfl rfl rfl (by decide) (fun a31 hR32 => ?_)
  refine r_assign (st_listV rfl) hR32 rfl rfl rfl (by decide) (fun a33 hR34 => ?_)
  refine wpList_nil ?_
  refine x_then_n (hK9 _ _ ?_)
  refine wp_seq_k (fun K35 hK36 => ?_)
  refine c_region ?_
  refine r_move (st_listV rfl) hR34 rfl rfl rfl (by decide) (fun a37 hR38 => ?_)
  refine r_assign (st_listV rfl) hR38 rfl rfl rfl (by decide) (fun a39 hR40 => ?_)
  refine wpList_nil ?_
  refine x_then_n (hK36 _ _ ?_)
  refine wp_ret ?_
  refine e_ret1 hR40 rfl rfl rfl ?_
  refine ⟨?_, hS24.fr⟩
  exact congrArg Ending.returned (ret_i (by first | rfl | omega | ( omega) | (simp []; done) | (simp [] at *; done) | (simp [] <;> omega) | (rw [Bool.eq_iff_iff]; simp [] <;> omega) | (rw [Bool.eq_iff_iff]; simp [] at * <;> omega)))
end Go.Proofs.YtobgdeffhdefeaaDoor
/- Contracts of functions, one theorem each: what the call returns, and that nothing old is changed. Printed by gen.py. -/
namespace Go.Proofs.YtobgdeffhdefeaaDoor
open Go Go.RowKit
set_option linter.unusedSimpArgs false
set_option linter.unusedVariables false

set_option maxRecDepth 100000 in
set_option maxHeartbeats 1000000 in
theorem cloneI_calls (w0 : World) (Z : Nat → Prop) (hZ : ∀ k, Z k → k < w0.heap.size) (tA : Option Addr) (tc : Nat) (t : List Int) (ht : (dRow 1 tA t.length tc (encIs t)).φ w0 Z) (hl : t.length ≤ 1000000) :
    Calls Tryd.prog 113 [.slice tA t.length tc].toArray w0 (fun e w' => ∃ (rA0 : Option Addr) (rc0 : Nat), e = .returned (.slice rA0 (t).length rc0) ∧ Fr none_ w0 w' ∧ (dRow 1 rA0 ((t).length) rc0 (encIs t)).φ w' (nxt Z w0 w')) := by
  have hstart : ∀ k, Z k → imm Z w0 [] w0 k ∧ w0.heap[k]? = w0.heap[k]? := fun k hk => ⟨⟨hZ k hk, fun _ => hk, fun _ h => by cases h⟩, rfl⟩
  have hS3 : St w0 Z none_ w0 [] [dRow 1 tA t.length tc (encIs t)] := St.start w0 Z none_ _ (by
    intro d hd
    simp only [List.mem_cons, List.not_mem_nil, or_false] at hd
    rcases hd with rfl
    · exact Dat.mono _ _ _ _ _ (Nat.le_refl _) ht hstart
    )
  refine c_enter Tryd.func113 rfl Tryd.ntmps113 rfl (fun a1 hR2 => ?_)
  refine wp_seq_k (fun K4 hK5 => ?_)
  refine c_region ?_
  refine r_assign (st_listV rfl) hR2 rfl rfl rfl (by decide) (fun a6 hR7 => ?_)
  refine wpList_nil ?_
  refine x_then_n (hK5 _ _ ?_)
  refine wp_seq_k (fun K8 hK9 => ?_)
  refine wp_seq_k (fun K10 hK11 => ?_)
  refine c_region ?_
  refine r_move (st_listV rfl) hR7 rfl rfl rfl (by decide) (fun a12 hR13 => ?_)
  refine r_eqlNil (st_listV rfl) hR13 rfl rfl rfl rfl Tryd.underlying66 (by decide) (fun a14 hR15 => ?_)
  refine wpList_nil ?_
  refine x_then_n (hK11 _ _ ?_)
  rcases Bool.eq_false_or_eq_true (Option.isNone tA) with h16 | h16
  · skip
    have hR17 := hR15.setb (d := 4) (b := true) rfl h16
    refine wp_cond_true (hR17.ev rfl) ?_
    refine wp_seq_k (fun K18 hK19 => ?_)
    refine c_region ?_
    refine r_assign (st_listV rfl) hR17 rfl rfl rfl (by decide) (fun a20 hR21 => ?_)
    refine wpList_nil ?_
    refine x_then_n (hK19 _ _ ?_)
    refine wp_ret ?_
    refine x_then_r ?_
    refine e_ret1 hR21 rfl rfl rfl ?_
    have he22 : t = [] := List.eq_nil_of_length_eq_zero (nil_len ht (by assumption))
    rw [he22]
    refine ⟨none, 0, ?_, hS3.fr, ⟨Nat.le_refl _, RowI.nil _ _ _ _⟩⟩
    exact congrArg Ending.returned rfl
  · skip
    have hR23 := hR15.setb (d := 4) (b := false) rfl h16
    refine wp_cond_false (hR23.ev rfl) ?_
    refine wp_skip ?_
    refine x_then_n (hK9 _ _ ?_)
    refine wp_seq_k (fun K24 hK25 => ?_)
    refine c_region ?_
    refine m_buildSlice (ps := []) (cs := []) (st_listV rfl) hR23 hS3 rfl rfl rfl Tryd.underlying66 zi3 rfl rfl (by kernel_rfl) rfl (by decide) (fun a26 w27 g28 hR29 hS30 => ?_)
    refine r_move (st_listV rfl) hR29 rfl rfl rfl (by decide) (fun a31 hR32 => ?_)
    refine m_appendF (f := encI) (i := 0) ([]) (t) (st_listV rfl) hR32 hS30 rfl rfl rfl rfl rfl encI_len (encI_one _) Tryd.underlying66 zi3 rfl rfl (hS30.row (i := 0) rfl).2.news rfl (by first | omega | (simp only [List.length_cons, List.length_nil]; omega)) (by decide) (fun a33 w34 A35 c36 hc37 hR38 hS39 => ?_)
    have hl41 : (([]) ++ t : List Int).length = t.length := by first | (simp only [List.length_append, List.length_take, List.length_cons, List.length_nil]; done) | (simp only [List.length_append, List.length_take, List.length_cons, List.length_nil]; omega)
    refine r_assign (st_listV rfl) hR38 rfl rfl rfl (by decide) (fun a42 hR43 => ?_)
    refine wpList_nil ?_
    refine x_then_n (hK25 _ _ ?_)
    refine wp_ret ?_
    refine e_ret1 hR43 rfl rfl rfl ?_
    have he44 : t = ([]) ++ t := by simp
    rw [he44]
    have hc48 := own_cap (hS39.res (i := 0) rfl)
    obtain ⟨hS45, hrow46⟩ := hS39.row_data (i := 0) rfl (fun _ h => h)
    have hS47 := hS45.data (dRow 1 A35 ((([]) ++ t : List Int).length) c36 (encIs (([]) ++ t))) ⟨hc48, hrow46⟩
    refine ⟨A35, c36, ?_, hS47.fr, ⟨by have := (hS47.row (i := 1) rfl).1; exact this, ((hS47.row (i := 1) rfl).2.mono (fun _ hk => ⟨imm_nxt hk, rfl⟩))⟩⟩
    exact congrArg Ending.returned rfl

set_option maxRecDepth 100000 in
set_option maxHeartbeats 1000000 in
theorem cloneN_calls (w0 : World) (Z : Nat → Prop) (hZ : ∀ k, Z k → k < w0.heap.size) (tA : Option Addr) (tc : Nat) (t : List Nd) (ht : (dRow 4 tA t.length tc (encNs t)).φ w0 Z) (hl : t.length ≤ 1000000) :
    Calls Tryd.prog 51 [.slice tA t.length tc].toArray w0 (fun e w' => ∃ (rA0 : Option Addr) (rc0 : Nat), e = .returned (.slice rA0 (t).length rc0) ∧ Fr none_ w0 w' ∧ (Res.row rA0 (t).length rc0 32 4 (encNs t)).holds w' ∧ (∀ k, (Res.row rA0 (t).length rc0 32 4 (encNs t)).blk = some k → w0.heap.size ≤ k)) := by
  have hstart : ∀ k, Z k → imm Z w0 [] w0 k ∧ w0.heap[k]? = w0.heap[k]? := fun k hk => ⟨⟨hZ k hk, fun _ => hk, fun _ h => by cases h⟩, rfl⟩
  have hS3 : St w0 Z none_ w0 [] [dRow 4 tA t.length tc (encNs t)] := St.start w0 Z none_ _ (by
    intro d hd
    simp only [List.mem_cons, List.not_mem_nil, or_false] at hd
    rcases hd with rfl
    · exact Dat.mono _ _ _ _ _ (Nat.le_refl _) ht hstart
    )
  refine c_enter Tryd.func51 rfl Tryd.ntmps51 rfl (fun a1 hR2 => ?_)
  refine wp_seq_k (fun K4 hK5 => ?_)
  refine c_region ?_
  refine r_assign (st_listV rfl) hR2 rfl rfl rfl (by decide) (fun a6 hR7 => ?_)
  refine wpList_nil ?_
  refine x_then_n (hK5 _ _ ?_)
  refine wp_seq_k (fun K8 hK9 => ?_)
  refine wp_seq_k (fun K10 hK11 => ?_)
  refine c_region ?_
  refine r_move (st_listV rfl) hR7 rfl rfl rfl (by decide) (fun a12 hR13 => ?_)
  refine r_eqlNil (st_listV rfl) hR13 rfl rfl rfl rfl Tryd.underlying22 (by decide) (fun a14 hR15 => ?_)
  refine wpList_nil ?_
  refine x_then_n (hK11 _ _ ?_)
  rcases Bool.eq_false_or_eq_true (Option.isNone tA) with h16 | h16
  · skip
    have hR17 := hR15.setb (d := 4) (b := true) rfl h16
    refine wp_cond_true (hR17.ev rfl) ?_
    refine wp_seq_k (fun K18 hK19 => ?_)
    refine c_region ?_
    refine r_assign (st_listV rfl) hR17 rfl rfl rfl (by decide) (fun a20 hR21 => ?_)
    refine wpList_nil ?_
    refine x_then_n (hK19 _ _ ?_)
    refine wp_ret ?_
    refine x_then_r ?_
    refine e_ret1 hR21 rfl rfl rfl ?_
    have he22 : t = [] := List.eq_nil_of_length_eq_zero (nil_len ht (by assumption))
    rw [he22]
    refine ⟨none, 0, ?_, hS3.fr, nil_row1, nil_row2⟩
    exact congrArg Ending.returned rfl
  · skip
    have hR23 := hR15.setb (d := 4) (b := false) rfl h16
    refine wp_cond_false (hR23.ev rfl) ?_
    refine wp_skip ?_
    refine x_then_n (hK9 _ _ ?_)
    refine wp_seq_k (fun K24 hK25 => ?_)
    refine c_region ?_
    refine m_buildSlice (ps := []) (cs := []) (st_listV rfl) hR23 hS3 rfl rfl rfl Tryd.underlying22 zi32 rfl rfl (by kernel_rfl) rfl (by decide) (fun a26 w27 g28 hR29 hS30 => ?_)
    refine r_move (st_listV rfl) hR29 rfl rfl rfl (by decide) (fun a31 hR32 => ?_)
    refine m_appendF (f := encN) (i := 0) ([]) (t) (st_listV rfl) hR32 hS30 rfl rfl rfl rfl rfl encN_len (encN_one _) Tryd.underlying22 zi32 rfl rfl (hS30.row (i := 0) rfl).2.news rfl (by first | omega | (simp only [List.length_cons, List.length_nil]; omega)) (by decide) (fun a33 w34 A35 c36 hc37 hR38 hS39 => ?_)
    have hl41 : (([]) ++ t : List Nd).length = t.length := by first | (simp only [List.length_append, List.length_take, List.length_cons, List.length_nil]; done) | (simp only [List.length_append, List.length_take, List.length_cons, List.length_nil]; omega)
    refine r_assign (st_listV rfl) hR38 rfl rfl rfl (by decide) (fun a42 hR43 => ?_)
    refine wpList_nil ?_
    refine x_then_n (hK25 _ _ ?_)
    refine wp_ret ?_
    refine e_ret1 hR43 rfl rfl rfl ?_
    have he44 : t = ([]) ++ t := by simp
    rw [he44]
    refine ⟨A35, c36, ?_, hS39.fr, (hS39.res (i := 0) rfl), (hS39.fresh (i := 0) rfl)⟩
    exact congrArg Ending.returned rfl
end Go.Proofs.YtobgdeffhdefeaaDoor
/- Contracts of functions, one theorem each: what the call returns, and that nothing old is changed. Printed by gen.py. -/
namespace Go.Proofs.YtobgdeffhdefeaaDoor
open Go Go.RowKit
set_option linter.unusedSimpArgs false
set_option linter.unusedVariables false

set_option maxRecDepth 100000 in
set_option maxHeartbeats 1000000 in
theorem binds_calls (w0 : World) (Z : Nat → Prop) (hZ : ∀ k, Z k → k < w0.heap.size) (n : Nd) (hShp : Shapes w0 Z) (hs : n.S.size < 1000000) :
    Calls Tryd.prog 71 [.agg #[.int .i64 (n.K), .int .i64 (n.N), .int .i64 (n.M), .string n.S]].toArray w0 (fun e w' => ∃ (rA0 : Option Addr) (rc0 : Nat), e = .returned (.tuple #[.slice rA0 (bindsR n).length rc0, .bool (right n)]) ∧ Fr none_ w0 w' ∧ (dRow 1 rA0 ((bindsR n).length) rc0 (encIs (bindsR n))).φ w' (nxt Z w0 w')) := by
  have hstart : ∀ k, Z k → imm Z w0 [] w0 k ∧ w0.heap[k]? = w0.heap[k]? := fun k hk => ⟨⟨hZ k hk, fun _ => hk, fun _ h => by cases h⟩, rfl⟩
  have hS3 : St w0 Z none_ w0 [] [dShapes] := St.start w0 Z none_ _ (by
    intro d hd
    simp only [List.mem_cons, List.not_mem_nil, or_false] at hd
    rcases hd with rfl
    · exact Dat.mono _ _ _ _ _ (Nat.le_refl _) hShp hstart
    )
  refine c_enter Tryd.func71 rfl Tryd.ntmps71 rfl (fun a1 hR2 => ?_)
  refine wp_seq_k (fun K4 hK5 => ?_)
  refine c_region ?_
  refine m_box (cs := [.int .i64 (n.K), .int .i64 (n.N), .int .i64 (n.M), .string n.S]) (st_listV rfl) hR2 hS3 rfl rfl rfl rfl (by decide) (fun a6 w7 g8 hR9 hS10 => ?_)
  refine r_assign (st_listV rfl) hR9 rfl rfl rfl (by decide) (fun a11 hR12 => ?_)
  refine r_assign (st_listV rfl) hR12 rfl rfl rfl (by decide) (fun a13 hR14 => ?_)
  refine wpList_nil ?_
  refine x_then_n (hK5 _ _ ?_)
  refine wp_seq_k (fun K15 hK16 => ?_)
  refine wp_seq_k (fun K17 hK18 => ?_)
  refine c_region ?_
  refine m_loadN (i := 0) (vs := [.int .i64 (n.K), .int .i64 (n.N), .int .i64 (n.M), .string n.S]) (st_listV rfl) hR14 hS10 rfl rfl rfl rfl rfl Tryd.underlying32 rfl sz32 (by decide) (fun a19 hR20 => ?_)
  have hS21 : St w0 Z none_ w7 [.box g8 32 [.int .i64 (n.K), .int .i64 (n.N), .int .i64 (n.M), .string n.S]] [dShapes] := hS10
  refine k_call (xs := [.tmp 4]) (st_list rfl) hR20 rfl rfl rfl (by decide) ok112 (right_calls _ (imm Z w0 [.box g8 32 [.int .i64 (n.K), .int .i64 (n.N), .int .i64 (n.M), .string n.S]] _) (fun _ h => h.1) n (hS21.get (i := 0) rfl) (by first | assumption | omega | (simp; done) | (simp; omega))) ?_
  rintro e28 w23 ⟨rfl, hf26⟩
  have hS29 := hS21.below hf26.below
  refine ⟨_, rfl, fun a22 hR24 => ?_⟩
  refine r_not (st_listV rfl) hR24 rfl rfl rfl (by decide) (fun a30 hR31 => ?_)
  refine wpList_nil ?_
  refine x_then_n (hK18 _ _ ?_)
  rcases Bool.eq_false_or_eq_true (right n) with h32 | h32
  · skip
    have hk := right_K h32
    have hR33 := hR31.setb (d := 6) (b := false) rfl (by rw [h32]; rfl)
    refine wp_cond_false (hR33.ev rfl) ?_
    refine wp_skip ?_
    refine x_then_n (hK16 _ _ ?_)
    refine wp_seq_k (fun K34 hK35 => ?_)
    refine wp_seq_k (fun K36 hK37 => ?_)
    refine c_region ?_
    refine m_field (j' := 0) (st_listV rfl) hR33 rfl rfl rfl Tryd.underlying32 rfl sz3 rfl rfl (by decide) (fun a38 hR39 => ?_)
    refine m_load (i := 0) (st_listV rfl) hR39 hS29 rfl rfl rfl rfl rfl Tryd.underlying3 rfl (by decide) (fun a40 hR41 => ?_)
    refine wpList_nil ?_
    refine x_then_n (hK37 _ _ ?_)
    refine wp_block ?_
    refine wp_seq_k (fun K42 hK43 => ?_)
    refine c_region ?_
    refine r_eql (st_listV rfl) hR41 rfl rfl rfl rfl (by decide) (fun a44 hR45 => ?_)
    refine r_assign (st_listV rfl) hR45 rfl rfl rfl (by decide) (fun a46 hR47 => ?_)
    refine wpList_nil ?_
    refine x_then_n (hK43 _ _ ?_)
    rcases Decidable.em ((n.K) = 26) with h48 | h48
    · skip
      have hcn := right_con (by assumption) (by omega)
      have hR49 := hR47.setb (d := 9) (b := true) rfl (decide_eq_true h48)
      refine wp_cond_true (hR49.ev rfl) ?_
      refine wp_seq_k (fun K50 hK51 => ?_)
      refine c_region ?_
      refine m_field (j' := 2) (st_listV rfl) hR49 rfl rfl rfl Tryd.underlying32 rfl sz3 rfl rfl (by decide) (fun a52 hR53 => ?_)
      refine m_load (i := 0) (st_listV rfl) hR53 hS29 rfl rfl rfl rfl rfl Tryd.underlying3 rfl (by decide) (fun a54 hR55 => ?_)
      have hn56 : (n.M) = ((n.M.toNat : Nat) : Int) := by omega
      refine m_makeInts (n := n.M.toNat) (st_listV rfl) hR55 hS29 rfl rfl rfl rfl hn56 hn56 Tryd.underlying66 zi3 (by omega) (by decide) (fun a57 w58 g59 hR60 hS61 => ?_)
      have hl62 : (List.replicate (n.M.toNat) (0 : Int)).length = n.M.toNat := by simp
      refine r_assign (st_listV rfl) hR60 rfl rfl rfl (by decide) (fun a63 hR64 => ?_)
      refine r_assign (st_listV rfl) hR64 rfl rfl rfl (by decide) (fun a65 hR66 => ?_)
      refine wpList_nil ?_
      refine x_then_n (hK51 _ _ ?_)
      refine wp_ret ?_
      refine x_block_r ?_
      refine x_then_r ?_
      refine e_ret2 hR66 rfl rfl rfl rfl ?_
      have he67 : bindsR n = List.replicate (n.M.toNat) (0 : Int) := by unfold bindsR; rw [if_pos (by assumption)]; simp [binds, h48]
      rw [he67]
      have hc71 := own_cap (hS61.res (i := 1) rfl)
      obtain ⟨hS68, hrow69⟩ := hS61.row_data (i := 1) rfl (fun _ h => h)
      have hS70 := hS68.data (dRow 1 (some ⟨g59, 0, none⟩) ((List.replicate (n.M.toNat) (0 : Int) : List Int).length) ((List.replicate (n.M.toNat) (0 : Int) : List Int).length) (encIs (List.replicate (n.M.toNat) (0 : Int)))) ⟨hc71, hrow69⟩
      refine ⟨(some ⟨g59, 0, none⟩), ((List.replicate (n.M.toNat) (0 : Int) : List Int).length), ?_, hS70.fr, ⟨by have := (hS70.row (i := 1) rfl).1; exact this, ((hS70.row (i := 1) rfl).2.mono (fun _ hk => ⟨imm_nxt hk, rfl⟩))⟩⟩
      exact ret_t2 rfl (ret_b (by first | rfl | omega | (have q0 := h32; (try simp at q0); have q1 := h48; (try simp at q1);  omega) | (simp [h32, h48]; done) | (simp [] at *; done) | (simp [h32, h48] <;> omega) | (rw [Bool.eq_iff_iff]; simp [h32, h48] <;> omega) | (rw [Bool.eq_iff_iff]; simp [h32, h48] at * <;> omega)))
    · skip
      have hR72 := hR47.setb (d := 9) (b := false) rfl (decide_eq_false h48)
      refine wp_cond_false (hR72.ev rfl) ?_
      refine wp_seq_k (fun K73 hK74 => ?_)
      refine c_region ?_
      refine r_eql (st_listV rfl) hR72 rfl rfl rfl rfl (by decide) (fun a75 hR76 => ?_)
      refine r_assign (st_listV rfl) hR76 rfl rfl rfl (by decide) (fun a77 hR78 => ?_)
      refine wpList_nil ?_
      refine x_then_n (hK74 _ _ ?_)
      rcases Decidable.em ((n.K) = 27) with h79 | h79
      · skip
        have hel := right_elim (by assumption) (by omega)
        have hR80 := hR78.setb (d := 14) (b := true) rfl (decide_eq_true h79)
        refine wp_cond_true (hR80.ev rfl) ?_
        refine wp_seq_k (fun K81 hK82 => ?_)
        refine c_region ?_
        refine m_buildSlice (ps := [(0, .const (.int .i64 1))]) (cs := [.int .i64 1]) (st_listV rfl) hR80 hS29 rfl rfl rfl Tryd.underlying66 zi3 rfl rfl (by kernel_rfl) rfl (by decide) (fun a83 w84 g85 hR86 hS87 => ?_)
        refine m_field (j' := 2) (st_listV rfl) hR86 rfl rfl rfl Tryd.underlying32 rfl sz3 rfl rfl (by decide) (fun a88 hR89 => ?_)
        refine m_load (i := 0) (st_listV rfl) hR89 hS87 rfl rfl rfl rfl rfl Tryd.underlying3 rfl (by decide) (fun a90 hR91 => ?_)
        refine r_add (z := (n.M + 1)) (st_listV rfl) hR91 rfl rfl rfl rfl (by decide) (by omega) (by omega) (by omega) (fun a92 hR93 => ?_)
        have hn94 : (n.M + 1) = ((n.M.toNat + 1 : Nat) : Int) := by omega
        refine m_appendZ (i := 1) ([1]) (n.M.toNat + 1) (st_listV rfl) hR93 hS87 rfl rfl rfl rfl rfl hn94 (by omega) (by simp) (by simp; omega) Tryd.underlying66 Tryd.underlying3 zi3 (by decide) (fun a95 w96 A97 c98 hc99 hR100 hS101 => ?_)
        refine r_assign (st_listV rfl) hR100 rfl rfl rfl (by decide) (fun a102 hR103 => ?_)
        refine r_assign (st_listV rfl) hR103 rfl rfl rfl (by decide) (fun a104 hR105 => ?_)
        refine wpList_nil ?_
        refine x_then_n (hK82 _ _ ?_)
        refine wp_ret ?_
        refine x_block_r ?_
        refine x_then_r ?_
        refine e_ret2 hR105 rfl rfl rfl rfl ?_
        have he106 : bindsR n = ([1]) ++ List.replicate (n.M.toNat + 1) 0 := by unfold bindsR; rw [if_pos (by assumption)]; simp [binds, h48, h79]
        rw [he106]
        have hc110 := own_cap (hS101.res (i := 1) rfl)
        obtain ⟨hS107, hrow108⟩ := hS101.row_data (i := 1) rfl (fun _ h => h)
        have hS109 := hS107.data (dRow 1 A97 ((([1]) ++ List.replicate (n.M.toNat + 1) 0 : List Int).length) c98 (encIs (([1]) ++ List.replicate (n.M.toNat + 1) 0))) ⟨hc110, hrow108⟩
        refine ⟨A97, c98, ?_, hS109.fr, ⟨by have := (hS109.row (i := 1) rfl).1; exact this, ((hS109.row (i := 1) rfl).2.mono (fun _ hk => ⟨imm_nxt hk, rfl⟩))⟩⟩
        exact ret_t2 rfl (ret_b (by first | rfl | omega | (have q0 := h32; (try simp at q0); have q1 := h48; (try simp at q1); have q2 := h79; (try simp at q2);  omega) | (simp [h32, h48, h79]; done) | (simp [] at *; done) | (simp [h32, h48, h79] <;> omega) | (rw [Bool.eq_iff_iff]; simp [h32, h48, h79] <;> omega) | (rw [Bool.eq_iff_iff]; simp [h32, h48, h79] at * <;> omega)))
      · skip
        have hR111 := hR78.setb (d := 14) (b := false) rfl (decide_eq_false h79)
        refine wp_cond_false (hR111.ev rfl) ?_
        refine wp_skip ?_
        refine x_block_n ?_
        refine x_then_n (hK35 _ _ ?_)
        refine wp_seq_k (fun K112 hK113 => ?_)
        refine c_region ?_
        refine m_field (j' := 0) (st_listV rfl) hR111 rfl rfl rfl Tryd.underlying32 rfl sz3 rfl rfl (by decide) (fun a114 hR115 => ?_)
        refine m_load (i := 0) (st_listV rfl) hR115 hS29 rfl rfl rfl rfl rfl Tryd.underlying3 rfl (by decide) (fun a116 hR117 => ?_)
        refine m_indexA (i := ((n.K)).toNat) (j := (((n.K)).toNat) * 4) (st_listV rfl) hR117 rfl rfl rfl rfl Tryd.underlying130 sz129 (by omega) (by omega) rfl (by decide) (fun a118 hR119 => ?_)
        refine m_fieldE (j' := (((n.K)).toNat) * 4) (st_listV rfl) hR119 rfl rfl rfl rfl Tryd.underlying129 rfl sz66 rfl rfl (by decide) (fun a120 hR121 => ?_)
        obtain ⟨A122, c123, hd124, he125⟩ := shapes_at (hS29.get (i := 0) rfl) (((n.K)).toNat) (by omega)
        have hS126 := hS29.data (dRow 1 A122 (shp (((n.K)).toNat)).b.length c123 (encIs (shp (((n.K)).toNat)).b)) hd124
        refine m_loadE (st_listV rfl) hR121 rfl rfl rfl 0 ((((n.K)).toNat) * 4) he125 rfl rfl Tryd.underlying66 rfl (by decide) (fun a127 hR128 => ?_)
        have hS129 : St w0 Z none_ w23 [.box g8 32 [.int .i64 (n.K), .int .i64 (n.N), .int .i64 (n.M), .string n.S]] [dShapes, dRow 1 A122 (shp (((n.K)).toNat)).b.length c123 (encIs (shp (((n.K)).toNat)).b)] := hS126
        refine k_call (xs := [.tmp 25]) (st_list rfl) hR128 rfl rfl rfl (by decide) ok113 (cloneI_calls _ (imm Z w0 [.box g8 32 [.int .i64 (n.K), .int .i64 (n.N), .int .i64 (n.M), .string n.S]] _) (fun _ h => h.1) A122 c123 ((shp (((n.K)).toNat)).b) (hS129.get (i := 1) rfl) (Nat.le_trans (shp_le _) (by omega))) ?_
        rintro e139 w131 ⟨A135, c136, rfl, hf134, hd137⟩
        have hS140 := hS129.below hf134.below
        have hS141 := hS140.data (dRow 1 A135 (((shp (((n.K)).toNat)).b).length) c136 (encIs ((shp (((n.K)).toNat)).b))) ⟨hd137.1, hd137.2.mono (fun _ hk => ⟨nxt_imm hS129 hk, rfl⟩)⟩
        refine ⟨_, rfl, fun a130 hR132 => ?_⟩
        refine r_assign (st_listV rfl) hR132 rfl rfl rfl (by decide) (fun a142 hR143 => ?_)
        refine r_assign (st_listV rfl) hR143 rfl rfl rfl (by decide) (fun a144 hR145 => ?_)
        refine wpList_nil ?_
        refine x_then_n (hK113 _ _ ?_)
        refine wp_ret ?_
        refine e_ret2 hR145 rfl rfl rfl rfl ?_
        have he146 : bindsR n = ((shp (((n.K)).toNat)).b) := by unfold bindsR; rw [if_pos (by assumption)]; simp [binds, h48, h79]
        rw [he146]
        refine ⟨A135, c136, ?_, hS141.fr, ⟨by have := (hS141.row (i := 2) rfl).1; exact this, ((hS141.row (i := 2) rfl).2.mono (fun _ hk => ⟨imm_nxt hk, rfl⟩))⟩⟩
        exact ret_t2 rfl (ret_b (by first | rfl | omega | (have q0 := h32; (try simp at q0); have q1 := h48; (try simp at q1); have q2 := h79; (try simp at q2);  omega) | (simp [h32, h48, h79]; done) | (simp [] at *; done) | (simp [h32, h48, h79] <;> omega) | (rw [Bool.eq_iff_iff]; simp [h32, h48, h79] <;> omega) | (rw [Bool.eq_iff_iff]; simp [h32, h48, h79] at * <;> omega)))
  · skip
    have hR147 := hR31.setb (d := 6) (b := true) rfl (by rw [h32]; rfl)
    refine wp_cond_true (hR147.ev rfl) ?_
    refine wp_seq_k (fun K148 hK149 => ?_)
    refine c_region ?_
    refine r_assign (st_listV rfl) hR147 rfl rfl rfl (by decide) (fun a150 hR151 => ?_)
    refine r_assign (st_listV rfl) hR151 rfl rfl rfl (by decide) (fun a152 hR153 => ?_)
    refine wpList_nil ?_
    refine x_then_n (hK149 _ _ ?_)
    refine wp_ret ?_
    refine x_then_r ?_
    refine e_ret2 hR153 rfl rfl rfl rfl ?_
    have he154 : bindsR n = [] := by unfold bindsR; rw [if_neg (by simp [h32])]
    rw [he154]
    refine ⟨none, 0, ?_, hS29.fr, ⟨Nat.le_refl _, RowI.nil _ _ _ _⟩⟩
    exact ret_t2 rfl (ret_b (by first | rfl | omega | (have q0 := h32; (try simp at q0);  omega) | (simp [h32]; done) | (simp [] at *; done) | (simp [h32] <;> omega) | (rw [Bool.eq_iff_iff]; simp [h32] <;> omega) | (rw [Bool.eq_iff_iff]; simp [h32] at * <;> omega)))
end Go.Proofs.YtobgdeffhdefeaaDoor
/- Contracts of functions, one theorem each: what the call returns, and that nothing old is changed. Printed by gen.py. -/
namespace Go.Proofs.YtobgdeffhdefeaaDoor
open Go Go.RowKit
set_option linter.unusedSimpArgs false
set_option linter.unusedVariables false

set_option maxRecDepth 100000 in
set_option maxHeartbeats 1000000 in
theorem backward_yields (w0 : World) (Z : Nat → Prop) (tg : Nat) (tA : Option Addr) (tc : Nat) (t : List Nd) (ht : (dRow 4 tA t.length tc (encNs t)).φ w0 Z) (htb : (dBox tg [.slice tA t.length tc]).φ w0 Z) (hl : t.length ≤ 1000000) :
    Yields Tryd.prog 151 [.pointer (some ⟨tg, 0, none⟩)].toArray (fun x : Int × Nd => #[.int .i64 x.1, .agg (encN x.2).toArray]) (bwL t) Z w0 := by
  refine yields_of Tryd.func151 rfl Tryd.ntmps151 rfl [dRow 4 tA t.length tc (encNs t), dBox tg [.slice tA t.length tc]] (by
    intro d hd
    simp only [List.mem_cons, List.not_mem_nil, or_false] at hd
    rcases hd with rfl | rfl
    · exact ht
    · exact htb
    ) (fun lp jf jx w0 C0 M0 hY hds a1 hR2 hS3 => ?_)
  refine wp_seq_k (fun K4 hK5 => ?_)
  refine c_region ?_
  refine m_loadC (st_listV rfl) hR2 rfl rfl rfl (dbox_cell (hS3.get (i := 2) rfl) rfl) Tryd.underlying22 rfl (by decide) (fun a6 hR7 => ?_)
  refine r_len (st_listV rfl) hR7 rfl rfl rfl rfl Tryd.underlying22 (by decide) (fun a8 hR9 => ?_)
  refine r_sub (z := (((t.length : Nat) : Int) - 1)) (st_listV rfl) hR9 rfl rfl rfl rfl (by decide) (by omega) (by omega) (by omega) (fun a10 hR11 => ?_)
  refine r_assign (st_listV rfl) hR11 rfl rfl rfl (by decide) (fun a12 hR13 => ?_)
  refine wpList_nil ?_
  refine x_then_n (hK5 _ _ ?_)
  refine wp_block ?_
  refine wp_loop_ghost (fun gn ga gw => ∃ k : Nat, (Reg ga 19 [(1000000, .bool false), (0, .func (.yield lp) #[] #[]), (1, .pointer (some ⟨tg, 0, none⟩)), (3, .int .i64 (((t.length : Nat) : Int) - ((k : Nat) : Int) - 1))]) ∧ (St w0 (oldB w0) M0 gw [] [dJ jf ((bwL t).take k) C0 M0 w0.heap.size, dRow 4 tA t.length tc (encNs t), dBox tg [.slice tA t.length tc]]) ∧ (k ≤ t.length) ∧ (t.length - k) = gn) _ ⟨0, (Reg.cons hR13 (Reg.cons hR13 (Reg.cons hR13 (Reg.cons hR13 (hR13.nil) rfl) rfl) rfl) rfl), hS3, by omega, rfl⟩ ?_
  rintro r14 a15 w16 ⟨k, hR17, hS18, hk, hn19⟩
  refine wp_seq_k (fun K20 hK21 => ?_)
  refine wp_seq_k (fun K22 hK23 => ?_)
  refine c_region ?_
  refine r_move (st_listV rfl) hR17 rfl rfl rfl (by decide) (fun a24 hR25 => ?_)
  refine r_geq (st_listV rfl) hR25 rfl rfl rfl rfl (by decide) (fun a26 hR27 => ?_)
  refine wpList_nil ?_
  refine x_then_n (hK23 _ _ ?_)
  rcases Decidable.em (0 ≤ (((t.length : Nat) : Int) - ((k : Nat) : Int) - 1)) with h28 | h28
  · skip
    have hR29 := hR27.setb (d := 8) (b := true) rfl (decide_eq_true h28)
    refine wp_cond_true (hR29.ev rfl) ?_
    refine wp_skip ?_
    refine x_then_n (hK21 _ _ ?_)
    refine wp_seq_k (fun K30 hK31 => ?_)
    refine wp_block ?_
    refine wp_seq_k (fun K32 hK33 => ?_)
    refine cy_region ?_
    refine r_move (st_listInV rfl rfl) hR29 rfl rfl rfl (by decide) (fun a34 hR35 => ?_)
    refine r_move (st_listInV rfl rfl) hR35 rfl rfl rfl (by decide) (fun a36 hR37 => ?_)
    refine m_loadC (st_listInV rfl rfl) hR37 rfl rfl rfl (dbox_cell (hS18.get (i := 2) rfl) rfl) Tryd.underlying22 rfl (by decide) (fun a38 hR39 => ?_)
    refine r_move (st_listInV rfl rfl) hR39 rfl rfl rfl (by decide) (fun a40 hR41 => ?_)
    refine m_index (i := (t.length) - (k + 1)) (j := ((t.length) - (k + 1)) * 4) (st_listInV rfl rfl) hR41 rfl rfl rfl rfl Tryd.underlying22 sz32 (by omega) (by omega) (nds_elem (t := t) (k := (t.length) - (k + 1)) (hS18.row (i := 1) rfl).2 (by omega)).some_ rfl (by decide) (fun a42 hR43 => ?_)
    refine m_loadEN (st_listInV rfl rfl) hR43 rfl rfl rfl (nds_elem (t := t) (k := (t.length) - (k + 1)) (hS18.row (i := 1) rfl).2 (by omega)) Tryd.underlying32 rfl sz32 (by decide) (fun a44 hR45 => ?_)
    have hS46 : St w0 (oldB w0) M0 w16 [] [dJ jf ((bwL t).take k) C0 M0 w0.heap.size, dRow 4 tA t.length tc (encNs t), dBox tg [.slice tA t.length tc]] := hS18
    refine y_call (t := .tmp 11) (xs := [.tmp 12, .tmp 16]) (pre := (bwL t).take k) (i := 0) (ds0 := [dRow 4 tA t.length tc (encNs t), dBox tg [.slice tA t.length tc]]) hY rfl hR45 hS46 rfl rfl rfl rfl (by decide) ((((((t.length : Nat) : Int) - ((k : Nat) : Int) - 1), (nth t ((t.length) - (k + 1)))) : Int × Nd)) rfl rfl (bwL_prefix (by omega)) hds (fun a47 w48 hR49 hS50 => ?_) (fun a47 w48 hR49 hS50 => ?_)
    · skip
      refine r_not (st_listInV rfl rfl) hR49 rfl rfl rfl (by decide) (fun a51 hR52 => ?_)
      refine li_nil ?_
      refine x_then_n (hK33 _ _ ?_)
      refine wp_cond_false (hR52.ev rfl) ?_
      refine wp_skip ?_
      refine x_block_n ?_
      refine x_then_n (hK31 _ _ ?_)
      refine c_region ?_
      refine r_move (st_listV rfl) hR52 rfl rfl rfl (by decide) (fun a53 hR54 => ?_)
      refine r_sub (z := (((t.length : Nat) : Int) - ((k : Nat) : Int) - 2)) (st_listV rfl) hR54 rfl rfl rfl rfl (by decide) (by omega) (by omega) (by omega) (fun a55 hR56 => ?_)
      refine r_assign (st_listV rfl) hR56 rfl rfl rfl (by decide) (fun a57 hR58 => ?_)
      refine wpList_nil ?_
      have he59 : (bwL t).take k ++ [((((((t.length : Nat) : Int) - ((k : Nat) : Int) - 1), (nth t ((t.length) - (k + 1)))) : Int × Nd))] = (bwL t).take (k + 1) := bwL_step (by omega)
      have hS60 := hS50
      rw [he59] at hS60
      exact ⟨_, by omega, k + 1, (Reg.cons hR58 (Reg.cons hR58 (Reg.cons hR58 (Reg.consi hR58 (hR58.nil) rfl (by omega)) rfl) rfl) rfl), hS60, by omega, rfl⟩
    · skip
      refine r_not (st_listInV rfl rfl) hR49 rfl rfl rfl (by decide) (fun a61 hR62 => ?_)
      refine li_nil ?_
      refine x_then_n (hK33 _ _ ?_)
      refine wp_cond_true (hR62.ev rfl) ?_
      refine wp_ret ?_
      refine x_block_r ?_
      refine x_then_r ?_
      refine x_then_r ?_
      refine x_block_r ?_
      refine e_ret0 hR62 rfl rfl ?_
      exact it_stop hS50 (i := 0) rfl (bwL_prefix (by omega))
  · skip
    have hR63 := hR27.setb (d := 8) (b := false) rfl (decide_eq_false h28)
    refine wp_cond_false (hR63.ev rfl) ?_
    refine wp_exit ?_
    refine x_then_e ?_
    refine x_then_e ?_
    refine x_block_eq ?_
    refine e_end0 hR63 rfl rfl ?_
    exact it_all hS18 (i := 0) rfl (bwL_all (by omega))
end Go.Proofs.YtobgdeffhdefeaaDoor
/- Contracts of functions, one theorem each: what the call returns, and that nothing old is changed. Printed by gen.py. -/
namespace Go.Proofs.YtobgdeffhdefeaaDoor
open Go Go.RowKit
set_option linter.unusedSimpArgs false
set_option linter.unusedVariables false

set_option maxRecDepth 100000 in
set_option maxHeartbeats 1000000 in
theorem proofs_yields (w0 : World) (Z : Nat → Prop) (tg : Nat) (tA : Option Addr) (tc : Nat) (t : List Nd) (hShp : Shapes w0 Z) (ht : (dRow 4 tA t.length tc (encNs t)).φ w0 Z) (htb : (dBox tg [.slice tA t.length tc]).φ w0 Z) (hl : t.length ≤ 1000000) (hsm : sml t) :
    Yields Tryd.prog 70 [.pointer (some ⟨tg, 0, none⟩)].toArray (fun x : Int × Int => #[.int .i64 x.1, .int .i64 x.2]) (prfL t) Z w0 := by
  refine yields_of Tryd.func70 rfl Tryd.ntmps70 rfl [dShapes, dRow 4 tA t.length tc (encNs t), dBox tg [.slice tA t.length tc]] (by
    intro d hd
    simp only [List.mem_cons, List.not_mem_nil, or_false] at hd
    rcases hd with rfl | rfl | rfl
    · exact hShp
    · exact ht
    · exact htb
    ) (fun lp jf jx w0 C0 M0 hY hds a1 hR2 hS3 => ?_)
  refine wp_scope_straight ?_
  refine wp_seq_k (fun K4 hK5 => ?_)
  refine c_region ?_
  refine r_assign (st_listV rfl) hR2 rfl rfl rfl (by decide) (fun a6 hR7 => ?_)
  refine wpList_nil ?_
  refine x_then_n (hK5 _ _ ?_)
  refine wp_seq_k (fun K8 hK9 => ?_)
  refine c_region ?_
  refine r_assign (st_listV rfl) hR7 rfl rfl rfl (by decide) (fun a10 hR11 => ?_)
  refine wpList_nil ?_
  refine x_then_n (hK9 _ _ ?_)
  refine wp_seq_k (fun K12 hK13 => ?_)
  refine wp_label ?_
  refine x_then_n (hK13 _ _ ?_)
  refine wp_seq_k (fun K14 hK15 => ?_)
  refine c_region ?_
  refine m_loadC (st_listV rfl) hR11 rfl rfl rfl (dbox_cell (hS3.get (i := 3) rfl) rfl) Tryd.underlying22 rfl (by decide) (fun a16 hR17 => ?_)
  refine r_len (st_listV rfl) hR17 rfl rfl rfl rfl Tryd.underlying22 (by decide) (fun a18 hR19 => ?_)
  refine r_sub (z := (((t.length : Nat) : Int) - 1)) (st_listV rfl) hR19 rfl rfl rfl rfl (by decide) (by omega) (by omega) (by omega) (fun a20 hR21 => ?_)
  refine r_assign (st_listV rfl) hR21 rfl rfl rfl (by decide) (fun a22 hR23 => ?_)
  refine wpList_nil ?_
  refine x_then_n (hK15 _ _ ?_)
  refine wp_block ?_
  refine wp_loop_ghost (fun gn ga gw => ∃ k : Nat, (Reg ga 44 [(1000000, .bool false), (0, .func (.yield lp) #[] #[]), (1, .pointer (some ⟨tg, 0, none⟩)), (3, .int .i64 (((prS t k).2.2))), (4, .int .i64 (((prS t k).2.1))), (5, .int .i64 (((t.length : Nat) : Int) - ((k : Nat) : Int) - 1))]) ∧ (St w0 (oldB w0) M0 gw [] [dJ jf ((prS t k).1) C0 M0 w0.heap.size, dShapes, dRow 4 tA t.length tc (encNs t), dBox tg [.slice tA t.length tc]]) ∧ (k ≤ t.length) ∧ (t.length - k) = gn) _ ⟨0, (Reg.cons hR23 (Reg.cons hR23 (Reg.cons hR23 (Reg.cons hR23 (Reg.cons hR23 (Reg.cons hR23 (hR23.nil) rfl) rfl) rfl) rfl) rfl) rfl), hS3, by omega, rfl⟩ ?_
  rintro r24 a25 w26 ⟨k, hR27, hS28, hk, hn29⟩
  obtain ⟨hpb1, hpb2, hpb3, hpb4⟩ := prS_bound t k (by omega)
  have hbl := bindsR_le (nth t (t.length - (k + 1)))
  refine wp_seq_k (fun K30 hK31 => ?_)
  refine wp_seq_k (fun K32 hK33 => ?_)
  refine c_region ?_
  refine r_move (st_listV rfl) hR27 rfl rfl rfl (by decide) (fun a34 hR35 => ?_)
  refine r_geq (st_listV rfl) hR35 rfl rfl rfl rfl (by decide) (fun a36 hR37 => ?_)
  refine wpList_nil ?_
  refine x_then_n (hK33 _ _ ?_)
  rcases Decidable.em (0 ≤ (((t.length : Nat) : Int) - ((k : Nat) : Int) - 1)) with h38 | h38
  · skip
    have hR39 := hR37.setb (d := 12) (b := true) rfl (decide_eq_true h38)
    refine wp_cond_true (hR39.ev rfl) ?_
    refine wp_skip ?_
    refine x_then_n (hK31 _ _ ?_)
    refine wp_seq_k (fun K40 hK41 => ?_)
    refine wp_block ?_
    refine wp_seq_k (fun K42 hK43 => ?_)
    refine wp_seq_k (fun K44 hK45 => ?_)
    refine c_region ?_
    refine r_move (st_listV rfl) hR39 rfl rfl rfl (by decide) (fun a46 hR47 => ?_)
    refine r_lss (st_listV rfl) hR47 rfl rfl rfl rfl (by decide) (fun a48 hR49 => ?_)
    refine wpList_nil ?_
    refine x_then_n (hK45 _ _ ?_)
    rcases Decidable.em ((((prS t k).2.1)) < 0) with h50 | h50
    · skip
      have hR51 := hR49.setb (d := 16) (b := true) rfl (decide_eq_true h50)
      refine wp_cond_true (hR51.ev rfl) ?_
      refine wp_seq_k (fun K52 hK53 => ?_)
      refine wp_seq_k (fun K54 hK55 => ?_)
      refine c_region ?_
      refine m_loadC (st_listV rfl) hR51 rfl rfl rfl (dbox_cell (hS28.get (i := 3) rfl) rfl) Tryd.underlying22 rfl (by decide) (fun a56 hR57 => ?_)
      refine r_move (st_listV rfl) hR57 rfl rfl rfl (by decide) (fun a58 hR59 => ?_)
      refine m_index (i := (t.length) - (k + 1)) (j := ((t.length) - (k + 1)) * 4) (st_listV rfl) hR59 rfl rfl rfl rfl Tryd.underlying22 sz32 (by omega) (by omega) (nds_elem (t := t) (k := (t.length) - (k + 1)) (hS28.row (i := 2) rfl).2 (by omega)).some_ rfl (by decide) (fun a60 hR61 => ?_)
      refine m_fieldE (j' := ((t.length) - (k + 1)) * 4) (st_listV rfl) hR61 rfl rfl rfl (nds_elem (t := t) (k := (t.length) - (k + 1)) (hS28.row (i := 2) rfl).2 (by omega)).some_ Tryd.underlying32 rfl sz3 rfl rfl (by decide) (fun a62 hR63 => ?_)
      refine m_loadE (st_listV rfl) hR63 rfl rfl rfl 0 (((t.length) - (k + 1)) * 4) (nds_elem (t := t) (k := (t.length) - (k + 1)) (hS28.row (i := 2) rfl).2 (by omega)) rfl rfl Tryd.underlying3 rfl (by decide) (fun a64 hR65 => ?_)
      refine r_neq (st_listV rfl) hR65 rfl rfl rfl rfl (by decide) (fun a66 hR67 => ?_)
      refine wpList_nil ?_
      refine x_then_n (hK55 _ _ ?_)
      rcases Decidable.em ((((nth t ((t.length) - (k + 1))).K)) = 28) with h68 | h68
      · skip
        have hR69 := hR67.setb (d := 22) (b := false) rfl (by rw [(decide_eq_true h68)]; rfl)
        refine wp_cond_false (hR69.ev rfl) ?_
        refine wp_skip ?_
        refine x_then_n (hK53 _ _ ?_)
        refine c_region ?_
        refine r_move (st_listV rfl) hR69 rfl rfl rfl (by decide) (fun a70 hR71 => ?_)
        refine r_assign (st_listV rfl) hR71 rfl rfl rfl (by decide) (fun a72 hR73 => ?_)
        refine r_assign (st_listV rfl) hR73 rfl rfl rfl (by decide) (fun a74 hR75 => ?_)
        refine wpList_nil ?_
        refine x_then_n (hK43 _ _ ?_)
        refine wp_seq_k (fun K76 hK77 => ?_)
        refine c_region ?_
        refine m_loadC (st_listV rfl) hR75 rfl rfl rfl (dbox_cell (hS28.get (i := 3) rfl) rfl) Tryd.underlying22 rfl (by decide) (fun a78 hR79 => ?_)
        refine r_move (st_listV rfl) hR79 rfl rfl rfl (by decide) (fun a80 hR81 => ?_)
        refine m_index (i := (t.length) - (k + 1)) (j := ((t.length) - (k + 1)) * 4) (st_listV rfl) hR81 rfl rfl rfl rfl Tryd.underlying22 sz32 (by omega) (by omega) (nds_elem (t := t) (k := (t.length) - (k + 1)) (hS28.row (i := 2) rfl).2 (by omega)).some_ rfl (by decide) (fun a82 hR83 => ?_)
        refine m_loadEN (st_listV rfl) hR83 rfl rfl rfl (nds_elem (t := t) (k := (t.length) - (k + 1)) (hS28.row (i := 2) rfl).2 (by omega)) Tryd.underlying32 rfl sz32 (by decide) (fun a84 hR85 => ?_)
        have hS86 : St w0 (oldB w0) M0 w26 [] [dJ jf ((prS t k).1) C0 M0 w0.heap.size, dShapes, dRow 4 tA t.length tc (encNs t), dBox tg [.slice tA t.length tc]] := hS28
        refine k_call (xs := [.tmp 28]) (st_list rfl) hR85 rfl rfl rfl (by decide) ok71 (binds_calls _ (imm (oldB w0) w0 [] _) (fun _ h => h.1) (nth t ((t.length) - (k + 1))) (hS86.get (i := 1) rfl) (hsm _ (by omega))) ?_
        rintro e96 w88 ⟨A92, c93, rfl, hf91, hd94⟩
        have hS97 := hS86.below hf91.below
        have hS98 := hS97.data (dRow 1 A92 ((bindsR (nth t ((t.length) - (k + 1)))).length) c93 (encIs (bindsR (nth t ((t.length) - (k + 1)))))) ⟨hd94.1, hd94.2.mono (fun _ hk => ⟨nxt_imm hS86 hk, rfl⟩)⟩
        refine ⟨_, rfl, fun a87 hR89 => ?_⟩
        refine r_move (st_listV rfl) hR89 rfl rfl rfl (by decide) (fun a99 hR100 => ?_)
        refine r_extract (st_listV rfl) hR100 rfl rfl rfl rfl (by decide) (fun a101 hR102 => ?_)
        refine r_extract (st_listV rfl) hR102 rfl rfl rfl rfl (by decide) (fun a103 hR104 => ?_)
        refine r_assign (st_listV rfl) hR104 rfl rfl rfl (by decide) (fun a105 hR106 => ?_)
        refine r_assign (st_listV rfl) hR106 rfl rfl rfl (by decide) (fun a107 hR108 => ?_)
        refine wpList_nil ?_
        refine x_then_n (hK77 _ _ ?_)
        refine wp_seq_k (fun K109 hK110 => ?_)
        refine wp_seq_k (fun K111 hK112 => ?_)
        refine c_region ?_
        refine r_move (st_listV rfl) hR108 rfl rfl rfl (by decide) (fun a113 hR114 => ?_)
        refine r_move (st_listV rfl) hR114 rfl rfl rfl (by decide) (fun a115 hR116 => ?_)
        refine r_len (st_listV rfl) hR116 rfl rfl rfl rfl Tryd.underlying66 (by decide) (fun a117 hR118 => ?_)
        refine r_sub (z := ((((bindsR (nth t ((t.length) - (k + 1)))).length : Nat) : Int) - 1)) (st_listV rfl) hR118 rfl rfl rfl rfl (by decide) (by omega) (by omega) (by omega) (fun a119 hR120 => ?_)
        refine r_add (z := (((bindsR (nth t ((t.length) - (k + 1)))).length : Nat) : Int)) (st_listV rfl) hR120 rfl rfl rfl rfl (by decide) (by omega) (by omega) (by omega) (fun a121 hR122 => ?_)
        refine r_assign (st_listV rfl) hR122 rfl rfl rfl (by decide) (fun a123 hR124 => ?_)
        refine wpList_nil ?_
        refine x_then_n (hK112 _ _ ?_)
        refine wp_seq_k (fun K125 hK126 => ?_)
        refine c_region ?_
        refine r_move (st_listV rfl) hR124 rfl rfl rfl (by decide) (fun a127 hR128 => ?_)
        refine r_gtr (st_listV rfl) hR128 rfl rfl rfl rfl (by decide) (fun a129 hR130 => ?_)
        refine wpList_nil ?_
        refine x_then_n (hK126 _ _ ?_)
        rcases Decidable.em (0 < (((bindsR (nth t ((t.length) - (k + 1)))).length : Nat) : Int)) with h131 | h131
        · skip
          have hR132 := hR130.setb (d := 38) (b := true) rfl (decide_eq_true h131)
          refine wp_cond_true (hR132.ev rfl) ?_
          refine wp_exit ?_
          refine x_then_e ?_
          refine x_block_eq ?_
          refine x_then_n (hK41 _ _ ?_)
          refine c_region ?_
          refine r_move (st_listV rfl) hR132 rfl rfl rfl (by decide) (fun a133 hR134 => ?_)
          refine r_sub (z := (((t.length : Nat) : Int) - ((k : Nat) : Int) - 2)) (st_listV rfl) hR134 rfl rfl rfl rfl (by decide) (by omega) (by omega) (by omega) (fun a135 hR136 => ?_)
          refine r_assign (st_listV rfl) hR136 rfl rfl rfl (by decide) (fun a137 hR138 => ?_)
          refine wpList_nil ?_
          have hst := prS_new1 (t := t) (k := k) (n := (((bindsR (nth t ((t.length) - (k + 1)))).length : Nat) : Int)) (r := ((t.length : Nat) : Int) - ((k : Nat) : Int) - 1) (by omega) (by omega) (by omega) (by omega) (by omega)
          have he139 : (prS t k).1 = (prS t (k + 1)).1 := by rw [hst]
          have hS140 := hS98
          rw [he139] at hS140
          have hS141 := hS140.forget 4
          exact ⟨_, by omega, k + 1, (Reg.cons hR138 (Reg.cons hR138 (Reg.cons hR138 (Reg.consi hR138 (Reg.consi hR138 (Reg.consi hR138 (hR138.nil) rfl (by omega)) rfl (by simp only [hst])) rfl (by simp only [hst])) rfl) rfl) rfl), hS141, by omega, rfl⟩
        · skip
          have hR142 := hR130.setb (d := 38) (b := false) rfl (decide_eq_false h131)
          refine wp_cond_false (hR142.ev rfl) ?_
          refine wp_skip ?_
          refine x_then_n (hK110 _ _ ?_)
          refine wp_seq_k (fun K143 hK144 => ?_)
          refine wp_seq_k (fun K145 hK146 => ?_)
          refine cy_region ?_
          refine r_move (st_listInV rfl rfl) hR142 rfl rfl rfl (by decide) (fun a147 hR148 => ?_)
          refine r_move (st_listInV rfl rfl) hR148 rfl rfl rfl (by decide) (fun a149 hR150 => ?_)
          refine r_move (st_listInV rfl rfl) hR150 rfl rfl rfl (by decide) (fun a151 hR152 => ?_)
          have hS153 : St w0 (oldB w0) M0 w88 [] [dJ jf ((prS t k).1) C0 M0 w0.heap.size, dShapes, dRow 4 tA t.length tc (encNs t), dBox tg [.slice tA t.length tc], dRow 1 A92 ((bindsR (nth t ((t.length) - (k + 1)))).length) c93 (encIs (bindsR (nth t ((t.length) - (k + 1)))))] := hS98
          refine y_call (t := .tmp 39) (xs := [.tmp 40, .tmp 41]) (pre := (prS t k).1) (i := 0) (ds0 := [dShapes, dRow 4 tA t.length tc (encNs t), dBox tg [.slice tA t.length tc]]) hY rfl hR152 hS153 rfl rfl rfl rfl (by decide) ((((((t.length : Nat) : Int) - ((k : Nat) : Int) - 1), (((t.length : Nat) : Int) - ((k : Nat) : Int) - 1)) : Int × Int)) rfl rfl ((by have hst := prS_new0 (t := t) (k := k) (n := (((bindsR (nth t ((t.length) - (k + 1)))).length : Nat) : Int)) (r := ((t.length : Nat) : Int) - ((k : Nat) : Int) - 1) (by omega) (by omega) (by omega) (by omega) (by omega); have hpp := prS_prfL (t := t) (k := k + 1) (by omega); rw [hst] at hpp; exact hpp)) hds (fun a154 w155 hR156 hS157 => ?_) (fun a154 w155 hR156 hS157 => ?_)
          · skip
            refine r_not (st_listInV rfl rfl) hR156 rfl rfl rfl (by decide) (fun a158 hR159 => ?_)
            refine li_nil ?_
            refine x_then_n (hK146 _ _ ?_)
            refine wp_cond_false (hR159.ev rfl) ?_
            refine wp_skip ?_
            refine x_then_n (hK144 _ _ ?_)
            refine c_region ?_
            refine r_assign (st_listV rfl) hR159 rfl rfl rfl (by decide) (fun a160 hR161 => ?_)
            refine wpList_nil ?_
            refine x_block_n ?_
            refine x_then_n (hK41 _ _ ?_)
            refine c_region ?_
            refine r_move (st_listV rfl) hR161 rfl rfl rfl (by decide) (fun a162 hR163 => ?_)
            refine r_sub (z := (((t.length : Nat) : Int) - ((k : Nat) : Int) - 2)) (st_listV rfl) hR163 rfl rfl rfl rfl (by decide) (by omega) (by omega) (by omega) (fun a164 hR165 => ?_)
            refine r_assign (st_listV rfl) hR165 rfl rfl rfl (by decide) (fun a166 hR167 => ?_)
            refine wpList_nil ?_
            have hst := prS_new0 (t := t) (k := k) (n := (((bindsR (nth t ((t.length) - (k + 1)))).length : Nat) : Int)) (r := ((t.length : Nat) : Int) - ((k : Nat) : Int) - 1) (by omega) (by omega) (by omega) (by omega) (by omega)
            have he168 : (prS t k).1 ++ [((((((t.length : Nat) : Int) - ((k : Nat) : Int) - 1), (((t.length : Nat) : Int) - ((k : Nat) : Int) - 1)) : Int × Int))] = (prS t (k + 1)).1 := by rw [hst]
            have hS169 := hS157
            rw [he168] at hS169
            exact ⟨_, by omega, k + 1, (Reg.cons hR167 (Reg.cons hR167 (Reg.cons hR167 (Reg.consi hR167 (Reg.consi hR167 (Reg.consi hR167 (hR167.nil) rfl (by omega)) rfl (by simp only [hst])) rfl (by simp only [hst])) rfl) rfl) rfl), hS169, by omega, rfl⟩
          · skip
            refine r_not (st_listInV rfl rfl) hR156 rfl rfl rfl (by decide) (fun a170 hR171 => ?_)
            refine li_nil ?_
            refine x_then_n (hK146 _ _ ?_)
            refine wp_cond_true (hR171.ev rfl) ?_
            refine wp_ret ?_
            refine x_then_r ?_
            refine x_block_r ?_
            refine x_then_r ?_
            refine x_then_r ?_
            refine x_block_r ?_
            refine x_scope_r ?_
            refine e_ret0 hR171 rfl rfl ?_
            exact it_stop hS157 (i := 0) rfl ((by have hst := prS_new0 (t := t) (k := k) (n := (((bindsR (nth t ((t.length) - (k + 1)))).length : Nat) : Int)) (r := ((t.length : Nat) : Int) - ((k : Nat) : Int) - 1) (by omega) (by omega) (by omega) (by omega) (by omega); have hpp := prS_prfL (t := t) (k := k + 1) (by omega); rw [hst] at hpp; exact hpp))
      · skip
        have hR172 := hR67.setb (d := 22) (b := true) rfl (by rw [(decide_eq_false h68)]; rfl)
        refine wp_cond_true (hR172.ev rfl) ?_
        refine wp_exit ?_
        refine x_then_e ?_
        refine x_then_e ?_
        refine x_block_eq ?_
        refine x_then_n (hK41 _ _ ?_)
        refine c_region ?_
        refine r_move (st_listV rfl) hR172 rfl rfl rfl (by decide) (fun a173 hR174 => ?_)
        refine r_sub (z := (((t.length : Nat) : Int) - ((k : Nat) : Int) - 2)) (st_listV rfl) hR174 rfl rfl rfl rfl (by decide) (by omega) (by omega) (by omega) (fun a175 hR176 => ?_)
        refine r_assign (st_listV rfl) hR176 rfl rfl rfl (by decide) (fun a177 hR178 => ?_)
        refine wpList_nil ?_
        have hst := prS_same (t := t) (k := k) (by omega) (by omega)
        have he179 : (prS t k).1 = (prS t (k + 1)).1 := by rw [hst]
        have hS180 := hS28
        rw [he179] at hS180
        exact ⟨_, by omega, k + 1, (Reg.cons hR178 (Reg.cons hR178 (Reg.cons hR178 (Reg.consi hR178 (Reg.consi hR178 (Reg.consi hR178 (hR178.nil) rfl (by omega)) rfl (by simp only [hst])) rfl (by simp only [hst])) rfl) rfl) rfl), hS180, by omega, rfl⟩
    · skip
      have hR181 := hR49.setb (d := 16) (b := false) rfl (decide_eq_false h50)
      refine wp_cond_false (hR181.ev rfl) ?_
      refine wp_skip ?_
      refine x_then_n (hK43 _ _ ?_)
      refine wp_seq_k (fun K182 hK183 => ?_)
      refine c_region ?_
      refine m_loadC (st_listV rfl) hR181 rfl rfl rfl (dbox_cell (hS28.get (i := 3) rfl) rfl) Tryd.underlying22 rfl (by decide) (fun a184 hR185 => ?_)
      refine r_move (st_listV rfl) hR185 rfl rfl rfl (by decide) (fun a186 hR187 => ?_)
      refine m_index (i := (t.length) - (k + 1)) (j := ((t.length) - (k + 1)) * 4) (st_listV rfl) hR187 rfl rfl rfl rfl Tryd.underlying22 sz32 (by omega) (by omega) (nds_elem (t := t) (k := (t.length) - (k + 1)) (hS28.row (i := 2) rfl).2 (by omega)).some_ rfl (by decide) (fun a188 hR189 => ?_)
      refine m_loadEN (st_listV rfl) hR189 rfl rfl rfl (nds_elem (t := t) (k := (t.length) - (k + 1)) (hS28.row (i := 2) rfl).2 (by omega)) Tryd.underlying32 rfl sz32 (by decide) (fun a190 hR191 => ?_)
      have hS192 : St w0 (oldB w0) M0 w26 [] [dJ jf ((prS t k).1) C0 M0 w0.heap.size, dShapes, dRow 4 tA t.length tc (encNs t), dBox tg [.slice tA t.length tc]] := hS28
      refine k_call (xs := [.tmp 28]) (st_list rfl) hR191 rfl rfl rfl (by decide) ok71 (binds_calls _ (imm (oldB w0) w0 [] _) (fun _ h => h.1) (nth t ((t.length) - (k + 1))) (hS192.get (i := 1) rfl) (hsm _ (by omega))) ?_
      rintro e202 w194 ⟨A198, c199, rfl, hf197, hd200⟩
      have hS203 := hS192.below hf197.below
      have hS204 := hS203.data (dRow 1 A198 ((bindsR (nth t ((t.length) - (k + 1)))).length) c199 (encIs (bindsR (nth t ((t.length) - (k + 1)))))) ⟨hd200.1, hd200.2.mono (fun _ hk => ⟨nxt_imm hS192 hk, rfl⟩)⟩
      refine ⟨_, rfl, fun a193 hR195 => ?_⟩
      refine r_move (st_listV rfl) hR195 rfl rfl rfl (by decide) (fun a205 hR206 => ?_)
      refine r_extract (st_listV rfl) hR206 rfl rfl rfl rfl (by decide) (fun a207 hR208 => ?_)
      refine r_extract (st_listV rfl) hR208 rfl rfl rfl rfl (by decide) (fun a209 hR210 => ?_)
      refine r_assign (st_listV rfl) hR210 rfl rfl rfl (by decide) (fun a211 hR212 => ?_)
      refine r_assign (st_listV rfl) hR212 rfl rfl rfl (by decide) (fun a213 hR214 => ?_)
      refine wpList_nil ?_
      refine x_then_n (hK183 _ _ ?_)
      refine wp_seq_k (fun K215 hK216 => ?_)
      refine wp_seq_k (fun K217 hK218 => ?_)
      refine c_region ?_
      refine r_move (st_listV rfl) hR214 rfl rfl rfl (by decide) (fun a219 hR220 => ?_)
      refine r_move (st_listV rfl) hR220 rfl rfl rfl (by decide) (fun a221 hR222 => ?_)
      refine r_len (st_listV rfl) hR222 rfl rfl rfl rfl Tryd.underlying66 (by decide) (fun a223 hR224 => ?_)
      refine r_sub (z := ((((bindsR (nth t ((t.length) - (k + 1)))).length : Nat) : Int) - 1)) (st_listV rfl) hR224 rfl rfl rfl rfl (by decide) (by omega) (by omega) (by omega) (fun a225 hR226 => ?_)
      refine r_add (z := (((prS t k).2.2) + (((bindsR (nth t ((t.length) - (k + 1)))).length : Nat) : Int) - 1)) (st_listV rfl) hR226 rfl rfl rfl rfl (by decide) (by omega) (by omega) (by omega) (fun a227 hR228 => ?_)
      refine r_assign (st_listV rfl) hR228 rfl rfl rfl (by decide) (fun a229 hR230 => ?_)
      refine wpList_nil ?_
      refine x_then_n (hK218 _ _ ?_)
      refine wp_seq_k (fun K231 hK232 => ?_)
      refine c_region ?_
      refine r_move (st_listV rfl) hR230 rfl rfl rfl (by decide) (fun a233 hR234 => ?_)
      refine r_gtr (st_listV rfl) hR234 rfl rfl rfl rfl (by decide) (fun a235 hR236 => ?_)
      refine wpList_nil ?_
      refine x_then_n (hK232 _ _ ?_)
      rcases Decidable.em (0 < (((prS t k).2.2) + (((bindsR (nth t ((t.length) - (k + 1)))).length : Nat) : Int) - 1)) with h237 | h237
      · skip
        have hR238 := hR236.setb (d := 38) (b := true) rfl (decide_eq_true h237)
        refine wp_cond_true (hR238.ev rfl) ?_
        refine wp_exit ?_
        refine x_then_e ?_
        refine x_block_eq ?_
        refine x_then_n (hK41 _ _ ?_)
        refine c_region ?_
        refine r_move (st_listV rfl) hR238 rfl rfl rfl (by decide) (fun a239 hR240 => ?_)
        refine r_sub (z := (((t.length : Nat) : Int) - ((k : Nat) : Int) - 2)) (st_listV rfl) hR240 rfl rfl rfl rfl (by decide) (by omega) (by omega) (by omega) (fun a241 hR242 => ?_)
        refine r_assign (st_listV rfl) hR242 rfl rfl rfl (by decide) (fun a243 hR244 => ?_)
        refine wpList_nil ?_
        have hst := prS_on (t := t) (k := k) (n := (((prS t k).2.2) + (((bindsR (nth t ((t.length) - (k + 1)))).length : Nat) : Int) - 1)) (by omega) (by omega) (by omega)
        have he245 : (prS t k).1 = (prS t (k + 1)).1 := by rw [hst]
        have hS246 := hS204
        rw [he245] at hS246
        have hS247 := hS246.forget 4
        exact ⟨_, by omega, k + 1, (Reg.cons hR244 (Reg.cons hR244 (Reg.cons hR244 (Reg.consi hR244 (Reg.consi hR244 (Reg.consi hR244 (hR244.nil) rfl (by omega)) rfl (by simp only [hst])) rfl (by simp only [hst])) rfl) rfl) rfl), hS247, by omega, rfl⟩
      · skip
        have hR248 := hR236.setb (d := 38) (b := false) rfl (decide_eq_false h237)
        refine wp_cond_false (hR248.ev rfl) ?_
        refine wp_skip ?_
        refine x_then_n (hK216 _ _ ?_)
        refine wp_seq_k (fun K249 hK250 => ?_)
        refine wp_seq_k (fun K251 hK252 => ?_)
        refine cy_region ?_
        refine r_move (st_listInV rfl rfl) hR248 rfl rfl rfl (by decide) (fun a253 hR254 => ?_)
        refine r_move (st_listInV rfl rfl) hR254 rfl rfl rfl (by decide) (fun a255 hR256 => ?_)
        refine r_move (st_listInV rfl rfl) hR256 rfl rfl rfl (by decide) (fun a257 hR258 => ?_)
        have hS259 : St w0 (oldB w0) M0 w194 [] [dJ jf ((prS t k).1) C0 M0 w0.heap.size, dShapes, dRow 4 tA t.length tc (encNs t), dBox tg [.slice tA t.length tc], dRow 1 A198 ((bindsR (nth t ((t.length) - (k + 1)))).length) c199 (encIs (bindsR (nth t ((t.length) - (k + 1)))))] := hS204
        refine y_call (t := .tmp 39) (xs := [.tmp 40, .tmp 41]) (pre := (prS t k).1) (i := 0) (ds0 := [dShapes, dRow 4 tA t.length tc (encNs t), dBox tg [.slice tA t.length tc]]) hY rfl hR258 hS259 rfl rfl rfl rfl (by decide) ((((((t.length : Nat) : Int) - ((k : Nat) : Int) - 1), (((prS t k).2.1))) : Int × Int)) rfl rfl ((by have hst := prS_end (t := t) (k := k) (n := (((prS t k).2.2) + (((bindsR (nth t ((t.length) - (k + 1)))).length : Nat) : Int) - 1)) (i := ((t.length : Nat) : Int) - ((k : Nat) : Int) - 1) (by omega) (by omega) (by omega) (by omega); have hpp := prS_prfL (t := t) (k := k + 1) (by omega); rw [hst] at hpp; exact hpp)) hds (fun a260 w261 hR262 hS263 => ?_) (fun a260 w261 hR262 hS263 => ?_)
        · skip
          refine r_not (st_listInV rfl rfl) hR262 rfl rfl rfl (by decide) (fun a264 hR265 => ?_)
          refine li_nil ?_
          refine x_then_n (hK252 _ _ ?_)
          refine wp_cond_false (hR265.ev rfl) ?_
          refine wp_skip ?_
          refine x_then_n (hK250 _ _ ?_)
          refine c_region ?_
          refine r_assign (st_listV rfl) hR265 rfl rfl rfl (by decide) (fun a266 hR267 => ?_)
          refine wpList_nil ?_
          refine x_block_n ?_
          refine x_then_n (hK41 _ _ ?_)
          refine c_region ?_
          refine r_move (st_listV rfl) hR267 rfl rfl rfl (by decide) (fun a268 hR269 => ?_)
          refine r_sub (z := (((t.length : Nat) : Int) - ((k : Nat) : Int) - 2)) (st_listV rfl) hR269 rfl rfl rfl rfl (by decide) (by omega) (by omega) (by omega) (fun a270 hR271 => ?_)
          refine r_assign (st_listV rfl) hR271 rfl rfl rfl (by decide) (fun a272 hR273 => ?_)
          refine wpList_nil ?_
          have hst := prS_end (t := t) (k := k) (n := (((prS t k).2.2) + (((bindsR (nth t ((t.length) - (k + 1)))).length : Nat) : Int) - 1)) (i := ((t.length : Nat) : Int) - ((k : Nat) : Int) - 1) (by omega) (by omega) (by omega) (by omega)
          have he274 : (prS t k).1 ++ [((((((t.length : Nat) : Int) - ((k : Nat) : Int) - 1), (((prS t k).2.1))) : Int × Int))] = (prS t (k + 1)).1 := by rw [hst]
          have hS275 := hS263
          rw [he274] at hS275
          exact ⟨_, by omega, k + 1, (Reg.cons hR273 (Reg.cons hR273 (Reg.cons hR273 (Reg.consi hR273 (Reg.consi hR273 (Reg.consi hR273 (hR273.nil) rfl (by omega)) rfl (by simp only [hst])) rfl (by simp only [hst])) rfl) rfl) rfl), hS275, by omega, rfl⟩
        · skip
          refine r_not (st_listInV rfl rfl) hR262 rfl rfl rfl (by decide) (fun a276 hR277 => ?_)
          refine li_nil ?_
          refine x_then_n (hK252 _ _ ?_)
          refine wp_cond_true (hR277.ev rfl) ?_
          refine wp_ret ?_
          refine x_then_r ?_
          refine x_block_r ?_
          refine x_then_r ?_
          refine x_then_r ?_
          refine x_block_r ?_
          refine x_scope_r ?_
          refine e_ret0 hR277 rfl rfl ?_
          exact it_stop hS263 (i := 0) rfl ((by have hst := prS_end (t := t) (k := k) (n := (((prS t k).2.2) + (((bindsR (nth t ((t.length) - (k + 1)))).length : Nat) : Int) - 1)) (i := ((t.length : Nat) : Int) - ((k : Nat) : Int) - 1) (by omega) (by omega) (by omega) (by omega); have hpp := prS_prfL (t := t) (k := k + 1) (by omega); rw [hst] at hpp; exact hpp))
  · skip
    have hR278 := hR37.setb (d := 12) (b := false) rfl (decide_eq_false h38)
    refine wp_cond_false (hR278.ev rfl) ?_
    refine wp_exit ?_
    refine x_then_e ?_
    refine x_then_e ?_
    refine x_block_eq ?_
    refine x_scope_n ?_
    refine e_end0 hR278 rfl rfl ?_
    exact it_all hS28 (i := 0) rfl ((by rw [show k = t.length by omega]; rfl))
end Go.Proofs.YtobgdeffhdefeaaDoor
/- Contracts of functions, one theorem each: what the call returns, and that nothing old is changed. Printed by gen.py. -/
namespace Go.Proofs.YtobgdeffhdefeaaDoor
open Go Go.RowKit
set_option linter.unusedSimpArgs false
set_option linter.unusedVariables false

set_option maxRecDepth 100000 in
set_option maxHeartbeats 1000000 in
theorem stripP_calls (w0 : World) (Z : Nat → Prop) (hZ : ∀ k, Z k → k < w0.heap.size) (n : Nd)  :
    Calls Tryd.prog 65 [.agg #[.int .i64 (n.K), .int .i64 (n.N), .int .i64 (n.M), .string n.S]].toArray w0 (fun e w' => e = .returned (.bool (decide (n.K = 28))) ∧ Fr none_ w0 w') := by
  have hstart : ∀ k, Z k → imm Z w0 [] w0 k ∧ w0.heap[k]? = w0.heap[k]? := fun k hk => ⟨⟨hZ k hk, fun _ => hk, fun _ h => by cases h⟩, rfl⟩
  have hS3 : St w0 Z none_ w0 [] [] := St.start w0 Z none_ _ (by
    intro d hd
    cases hd
    )
  refine c_enter Tryd.func65 rfl Tryd.ntmps65 rfl (fun a1 hR2 => ?_)
  refine wp_seq_k (fun K4 hK5 => ?_)
  refine c_region ?_
  refine m_box (cs := [.int .i64 (n.K), .int .i64 (n.N), .int .i64 (n.M), .string n.S]) (st_listV rfl) hR2 hS3 rfl rfl rfl rfl (by decide) (fun a6 w7 g8 hR9 hS10 => ?_)
  refine r_assign (st_listV rfl) hR9 rfl rfl rfl (by decide) (fun a11 hR12 => ?_)
  refine wpList_nil ?_
  refine x_then_n (hK5 _ _ ?_)
  refine wp_seq_k (fun K13 hK14 => ?_)
  refine c_region ?_
  refine m_field (j' := 0) (st_listV rfl) hR12 rfl rfl rfl Tryd.underlying32 rfl sz3 rfl rfl (by decide) (fun a15 hR16 => ?_)
  refine m_load (i := 0) (st_listV rfl) hR16 hS10 rfl rfl rfl rfl rfl Tryd.underlying3 rfl (by decide) (fun a17 hR18 => ?_)
  refine r_eql (st_listV rfl) hR18 rfl rfl rfl rfl (by decide) (fun a19 hR20 => ?_)
  refine r_assign (st_listV rfl) hR20 rfl rfl rfl (by decide) (fun a21 hR22 => ?_)
  refine wpList_nil ?_
  refine x_then_n (hK14 _ _ ?_)
  refine wp_ret ?_
  refine e_ret1 hR22 rfl rfl rfl ?_
  refine ⟨?_, hS10.fr⟩
  exact congrArg Ending.returned (ret_b (by first | rfl | omega | ( omega) | (simp []; done) | (simp [] at *; done) | (simp [] <;> omega) | (rw [Bool.eq_iff_iff]; simp [] <;> omega) | (rw [Bool.eq_iff_iff]; simp [] at * <;> omega)))

set_option maxRecDepth 100000 in
set_option maxHeartbeats 1000000 in
theorem indexN_calls (w0 : World) (Z : Nat → Prop) (hZ : ∀ k, Z k → k < w0.heap.size) (tA : Option Addr) (tc : Nat) (t : List Nd) (ht : (Res.row tA (t).length tc 32 4 (encNs t)).holds w0) (htz : ∀ k, rM tA k → ¬ Z k) (hl : t.length ≤ 1000000) :
    Calls Tryd.prog 105 [.slice tA t.length tc, .func (.func 65) #[] #[]].toArray w0 (fun e w' => e = .returned (.int .i64 (ixP t)) ∧ Fr (rM tA) w0 w' ∧ (Res.row tA (t).length tc 32 4 (encNs t)).holds w') := by
  have hstart : ∀ k, Z k → imm Z w0 [.row tA ((t).length) tc 32 4 (encNs t)] w0 k ∧ w0.heap[k]? = w0.heap[k]? := fun k hk => imm_startR hZ htz hk
  have hS3 : St w0 Z (rM tA) w0 [.row tA ((t).length) tc 32 4 (encNs t)] [] := St.startR w0 Z _ _ _ _ _ _ _ ht (by
    intro d hd
    cases hd
    )
  refine c_enter Tryd.func105 rfl Tryd.ntmps105 rfl (fun a1 hR2 => ?_)
  refine wp_seq_k (fun K4 hK5 => ?_)
  refine c_region ?_
  refine r_assign (st_listV rfl) hR2 rfl rfl rfl (by decide) (fun a6 hR7 => ?_)
  refine wpList_nil ?_
  refine x_then_n (hK5 _ _ ?_)
  refine wp_seq_k (fun K8 hK9 => ?_)
  refine wp_seq_k (fun K10 hK11 => ?_)
  refine c_region ?_
  refine r_move (st_listV rfl) hR7 rfl rfl rfl (by decide) (fun a12 hR13 => ?_)
  refine r_len (st_listV rfl) hR13 rfl rfl rfl rfl Tryd.underlying22 (by decide) (fun a14 hR15 => ?_)
  refine r_move (st_listV rfl) hR15 rfl rfl rfl (by decide) (fun a16 hR17 => ?_)
  refine wpList_nil ?_
  refine x_then_n (hK11 _ _ ?_)
  refine wp_block ?_
  refine wp_loop_ghost (fun gn ga gw => ∃ k : Nat, (Reg ga 19 [(1000000, .bool false), (0, .slice tA t.length tc), (1, .func (.func 65) #[] #[]), (7, .int .i64 ((t.length : Nat) : Int)), (8, .int .i64 ((k : Nat) : Int))]) ∧ (St w0 Z (rM tA) gw [.row tA ((t).length) tc 32 4 (encNs t)] []) ∧ (k ≤ t.length) ∧ (∀ i, i < k → (nth t i).K ≠ 28) ∧ (t.length - k) = gn) _ ⟨0, (Reg.cons hR17 (Reg.cons hR17 (Reg.cons hR17 (Reg.cons hR17 (Reg.cons hR17 (hR17.nil) rfl) rfl) rfl) rfl) rfl), hS3, by omega, (fun _ h => by omega), rfl⟩ ?_
  rintro r18 a19 w20 ⟨k, hR21, hS22, hk, hi, hn23⟩
  refine wp_seq_k (fun K24 hK25 => ?_)
  refine c_region ?_
  refine r_lss (st_listV rfl) hR21 rfl rfl rfl rfl (by decide) (fun a26 hR27 => ?_)
  refine wpList_nil ?_
  refine x_then_n (hK25 _ _ ?_)
  refine wp_seq_k (fun K28 hK29 => ?_)
  rcases Decidable.em (((k : Nat) : Int) < ((t.length : Nat) : Int)) with h30 | h30
  · skip
    have hR31 := hR27.setb (d := 9) (b := true) rfl (decide_eq_true h30)
    refine wp_cond_true (hR31.ev rfl) ?_
    refine wp_skip ?_
    refine x_then_n (hK29 _ _ ?_)
    refine wp_seq_k (fun K32 hK33 => ?_)
    refine wp_block ?_
    refine wp_seq_k (fun K34 hK35 => ?_)
    refine c_region ?_
    refine r_move (st_listV rfl) hR31 rfl rfl rfl (by decide) (fun a36 hR37 => ?_)
    refine r_assign (st_listV rfl) hR37 rfl rfl rfl (by decide) (fun a38 hR39 => ?_)
    refine wpList_nil ?_
    refine x_then_n (hK35 _ _ ?_)
    refine wp_seq_k (fun K40 hK41 => ?_)
    refine c_region ?_
    refine r_move (st_listV rfl) hR39 rfl rfl rfl (by decide) (fun a42 hR43 => ?_)
    refine r_move (st_listV rfl) hR43 rfl rfl rfl (by decide) (fun a44 hR45 => ?_)
    refine r_move (st_listV rfl) hR45 rfl rfl rfl (by decide) (fun a46 hR47 => ?_)
    refine m_index (i := k) (j := k * 4) (st_listV rfl) hR47 rfl rfl rfl rfl Tryd.underlying22 sz32 (by omega) (by omega) (own_nds (t := t) (k := k) (hS22.res (i := 0) rfl) (by omega)).some_ rfl (by decide) (fun a48 hR49 => ?_)
    refine m_loadEN (st_listV rfl) hR49 rfl rfl rfl (own_nds (t := t) (k := k) (hS22.res (i := 0) rfl) (by omega)) Tryd.underlying32 rfl sz32 (by decide) (fun a50 hR51 => ?_)
    have hS52 : St w0 Z (rM tA) w20 [.row tA ((t).length) tc 32 4 (encNs t)] [] := hS22
    refine k_callV (xs := [.tmp 15]) (st_list rfl) hR51 rfl rfl rfl rfl (by decide) ok65 (stripP_calls _ (imm Z w0 [.row tA ((t).length) tc 32 4 (encNs t)] _) (fun _ h => h.1) (nth t k)) ?_
    rintro e59 w54 ⟨rfl, hf57⟩
    have hS60 := hS52.below hf57.below
    refine ⟨_, rfl, fun a53 hR55 => ?_⟩
    refine wpList_nil ?_
    refine x_then_n (hK41 _ _ ?_)
    rcases Bool.eq_false_or_eq_true (decide ((nth t k).K = 28)) with h61 | h61
    · skip
      have h62 := of_decide_eq_true h61
      have hR63 := hR55.setb (d := 16) (b := true) rfl h61
      refine wp_cond_true (hR63.ev rfl) ?_
      refine wp_seq_k (fun K64 hK65 => ?_)
      refine c_region ?_
      refine r_move (st_listV rfl) hR63 rfl rfl rfl (by decide) (fun a66 hR67 => ?_)
      refine r_assign (st_listV rfl) hR67 rfl rfl rfl (by decide) (fun a68 hR69 => ?_)
      refine wpList_nil ?_
      refine x_then_n (hK65 _ _ ?_)
      refine wp_ret ?_
      refine x_block_r ?_
      refine x_then_r ?_
      refine x_then_r ?_
      refine x_block_r ?_
      refine x_then_r ?_
      refine e_ret1 hR69 rfl rfl rfl ?_
      refine ⟨?_, hS60.fr, hS60.res (i := 0) rfl⟩
      exact congrArg Ending.returned (ret_i (by first | exact (ixP_here (k := k) (by omega) hi (by omega)).symm | exact (ixP_none (fun i h => hi i (by omega))).symm))
    · skip
      have h70 := of_decide_eq_false h61
      have hR71 := hR55.setb (d := 16) (b := false) rfl h61
      refine wp_cond_false (hR71.ev rfl) ?_
      refine wp_skip ?_
      refine x_block_n ?_
      refine x_then_n (hK33 _ _ ?_)
      refine c_region ?_
      refine r_add (z := ((k + 1 : Nat) : Int)) (st_listV rfl) hR71 rfl rfl rfl rfl (by decide) (by omega) (by omega) (by omega) (fun a72 hR73 => ?_)
      refine r_move (st_listV rfl) hR73 rfl rfl rfl (by decide) (fun a74 hR75 => ?_)
      refine wpList_nil ?_
      exact ⟨_, by omega, k + 1, (Reg.cons hR75 (Reg.cons hR75 (Reg.cons hR75 (Reg.cons hR75 (Reg.cons hR75 (hR75.nil) rfl) rfl) rfl) rfl) rfl), hS60, by omega, (fun i h => by rcases Nat.lt_or_eq_of_le (Nat.le_of_lt_succ h) with h' | h'; exact hi i h'; subst h'; omega), rfl⟩
  · skip
    have hR76 := hR27.setb (d := 9) (b := false) rfl (decide_eq_false h30)
    refine wp_cond_false (hR76.ev rfl) ?_
    refine wp_exit ?_
    refine x_then_e ?_
    refine x_then_e ?_
    refine x_block_eq ?_
    refine x_then_n (hK9 _ _ ?_)
    refine wp_seq_k (fun K77 hK78 => ?_)
    refine c_region ?_
    refine r_assign (st_listV rfl) hR76 rfl rfl rfl (by decide) (fun a79 hR80 => ?_)
    refine wpList_nil ?_
    refine x_then_n (hK78 _ _ ?_)
    refine wp_ret ?_
    refine e_ret1 hR80 rfl rfl rfl ?_
    refine ⟨?_, hS22.fr, hS22.res (i := 0) rfl⟩
    exact congrArg Ending.returned (ret_i (by first | exact (ixP_here (k := k) (by omega) hi (by omega)).symm | exact (ixP_none (fun i h => hi i (by omega))).symm))

set_option maxRecDepth 100000 in
set_option maxHeartbeats 1000000 in
theorem delete_calls (w0 : World) (Z : Nat → Prop) (hZ : ∀ k, Z k → k < w0.heap.size) (tA : Option Addr) (tc : Nat) (t : List Nd) (ht : (Res.row tA (t).length tc 32 4 (encNs t)).holds w0) (htz : ∀ k, rM tA k → ¬ Z k) (hl : t.length ≤ 1000000) :
    Calls Tryd.prog 64 [.slice tA t.length tc, .func (.func 65) #[] #[]].toArray w0 (fun e w' => e = .returned (.slice tA (t.filter nPrf).length tc) ∧ Fr (rM tA) w0 w' ∧ (Res.row tA (t.filter nPrf).length tc 32 4 (encNs (t.filter nPrf))).holds w') := by
  have hstart : ∀ k, Z k → imm Z w0 [.row tA ((t).length) tc 32 4 (encNs t)] w0 k ∧ w0.heap[k]? = w0.heap[k]? := fun k hk => imm_startR hZ htz hk
  have hS3 : St w0 Z (rM tA) w0 [.row tA ((t).length) tc 32 4 (encNs t)] [] := St.startR w0 Z _ _ _ _ _ _ _ ht (by
    intro d hd
    cases hd
    )
  refine c_enter Tryd.func64 rfl Tryd.ntmps64 rfl (fun a1 hR2 => ?_)
  refine wp_seq_k (fun K4 hK5 => ?_)
  refine c_region ?_
  refine r_assign (st_listV rfl) hR2 rfl rfl rfl (by decide) (fun a6 hR7 => ?_)
  refine wpList_nil ?_
  refine x_then_n (hK5 _ _ ?_)
  refine wp_seq_k (fun K8 hK9 => ?_)
  refine c_region ?_
  refine r_move (st_listV rfl) hR7 rfl rfl rfl (by decide) (fun a10 hR11 => ?_)
  refine r_move (st_listV rfl) hR11 rfl rfl rfl (by decide) (fun a12 hR13 => ?_)
  have hS14 : St w0 Z (rM tA) w0 [.row tA ((t).length) tc 32 4 (encNs t)] [] := hS3
  refine k_call (xs := [.tmp 8, .tmp 9]) (st_list rfl) hR13 rfl rfl rfl (by decide) ok105 (indexN_calls _ (imm Z w0 [.row tA ((t).length) tc 32 4 (encNs t)] _) (fun _ h => h.1) tA tc t (hS14.res (i := 0) rfl) (imm_row (i := 0) rfl) (by first | assumption | omega | (simp; done) | (simp; omega))) ?_
  rintro e21 w16 ⟨rfl, hf19, hb20⟩
  have hS22 := hS14.callR (i := 0) rfl hf19 hb20
  refine ⟨_, rfl, fun a15 hR17 => ?_⟩
  refine r_assign (st_listV rfl) hR17 rfl rfl rfl (by decide) (fun a23 hR24 => ?_)
  refine wpList_nil ?_
  refine x_then_n (hK9 _ _ ?_)
  refine wp_seq_k (fun K25 hK26 => ?_)
  refine wp_seq_k (fun K27 hK28 => ?_)
  refine c_region ?_
  refine r_move (st_listV rfl) hR24 rfl rfl rfl (by decide) (fun a29 hR30 => ?_)
  refine r_eql (st_listV rfl) hR30 rfl rfl rfl rfl (by decide) (fun a31 hR32 => ?_)
  refine wpList_nil ?_
  refine x_then_n (hK28 _ _ ?_)
  rcases Decidable.em (((ixP t)) = (-1)) with h33 | h33
  · skip
    have hxa := ixP_all h33
    have hR34 := hR32.setb (d := 12) (b := true) rfl (decide_eq_true h33)
    refine wp_cond_true (hR34.ev rfl) ?_
    refine wp_seq_k (fun K35 hK36 => ?_)
    refine c_region ?_
    refine r_move (st_listV rfl) hR34 rfl rfl rfl (by decide) (fun a37 hR38 => ?_)
    refine r_assign (st_listV rfl) hR38 rfl rfl rfl (by decide) (fun a39 hR40 => ?_)
    refine wpList_nil ?_
    refine x_then_n (hK36 _ _ ?_)
    refine wp_ret ?_
    refine x_then_r ?_
    refine e_ret1 hR40 rfl rfl rfl ?_
    have he41 : t = t.filter nPrf := hxa.symm
    have hS42 := hS22
    rw [he41] at hS42
    refine ⟨?_, hS42.fr, hS42.res (i := 0) rfl⟩
    exact congrArg Ending.returned (ret_s (by first | rfl | (exact congrArg List.length he41; done) | (rw [← he41]; simp; done) | (rw [← he41]; simp; omega) | omega))
  · skip
    obtain ⟨hx0, hx1, hx2⟩ := ixP_pos h33
    have hR43 := hR32.setb (d := 12) (b := false) rfl (decide_eq_false h33)
    refine wp_cond_false (hR43.ev rfl) ?_
    refine wp_skip ?_
    refine x_then_n (hK26 _ _ ?_)
    refine wp_seq_k (fun K44 hK45 => ?_)
    refine wp_seq_k (fun K46 hK47 => ?_)
    refine c_region ?_
    refine r_move (st_listV rfl) hR43 rfl rfl rfl (by decide) (fun a48 hR49 => ?_)
    refine r_add (z := ((ixP t) + 1)) (st_listV rfl) hR49 rfl rfl rfl rfl (by decide) (by omega) (by omega) (by omega) (fun a50 hR51 => ?_)
    refine r_assign (st_listV rfl) hR51 rfl rfl rfl (by decide) (fun a52 hR53 => ?_)
    refine wpList_nil ?_
    refine x_then_n (hK47 _ _ ?_)
    refine wp_block ?_
    refine wp_loop_ghost (fun gn ga gw => ∃ i : Nat, ∃ j : Nat, ∃ R : List Nd, (Reg ga 42 [(1000000, .bool false), (0, .slice tA t.length tc), (1, .func (.func 65) #[] #[]), (4, .slice none 0 0), (5, .int .i64 ((i : Nat) : Int)), (6, .int .i64 ((j : Nat) : Int))]) ∧ (St w0 Z (rM tA) gw [.row tA ((R).length) tc 32 4 (encNs R)] []) ∧ (i < j) ∧ (j ≤ t.length) ∧ (R.length = t.length) ∧ (R.take i = (t.take j).filter nPrf) ∧ (R.drop j = t.drop j) ∧ (t.length - j) = gn) _ ⟨(ixP t).toNat, (ixP t).toNat + 1, t, (Reg.cons hR53 (Reg.cons hR53 (Reg.cons hR53 (Reg.cons hR53 (Reg.consi hR53 (Reg.consi hR53 (hR53.nil) rfl (by omega)) rfl (by omega)) rfl) rfl) rfl) rfl), hS22, by omega, by omega, rfl, hx2, rfl, rfl⟩ ?_
    rintro r54 a55 w56 ⟨i, j, R, hR57, hS58, hij, hj, h1, h2, h3, hn59⟩
    refine wp_seq_k (fun K60 hK61 => ?_)
    refine wp_seq_k (fun K62 hK63 => ?_)
    refine c_region ?_
    refine r_move (st_listV rfl) hR57 rfl rfl rfl (by decide) (fun a64 hR65 => ?_)
    refine r_move (st_listV rfl) hR65 rfl rfl rfl (by decide) (fun a66 hR67 => ?_)
    refine r_len (st_listV rfl) hR67 rfl rfl rfl rfl Tryd.underlying22 (by decide) (fun a68 hR69 => ?_)
    refine r_lss (st_listV rfl) hR69 rfl rfl rfl rfl (by decide) (fun a70 hR71 => ?_)
    refine wpList_nil ?_
    refine x_then_n (hK63 _ _ ?_)
    rcases Decidable.em (((j : Nat) : Int) < ((t.length : Nat) : Int)) with h72 | h72
    · skip
      have hR73 := hR71.setb (d := 19) (b := true) rfl (decide_eq_true h72)
      refine wp_cond_true (hR73.ev rfl) ?_
      refine wp_skip ?_
      refine x_then_n (hK61 _ _ ?_)
      refine wp_seq_k (fun K74 hK75 => ?_)
      refine wp_block ?_
      refine wp_seq_k (fun K76 hK77 => ?_)
      refine c_region ?_
      refine r_move (st_listV rfl) hR73 rfl rfl rfl (by decide) (fun a78 hR79 => ?_)
      refine r_move (st_listV rfl) hR79 rfl rfl rfl (by decide) (fun a80 hR81 => ?_)
      refine m_index (i := j) (j := j * 4) (st_listV rfl) hR81 rfl rfl rfl rfl Tryd.underlying22 sz32 (by omega) (by omega) (own_nds (t := R) (k := j) (hS58.res (i := 0) rfl) (by omega)).some_ rfl (by decide) (fun a82 hR83 => ?_)
      refine m_loadEN (st_listV rfl) hR83 rfl rfl rfl (own_nds (t := R) (k := j) (hS58.res (i := 0) rfl) (by omega)) Tryd.underlying32 rfl sz32 (by decide) (fun a84 hR85 => ?_)
      refine m_alloc (cs := [.int .i64 0, .int .i64 0, .int .i64 0, .string (⟨#[]⟩ : ByteArray)]) (st_listV rfl) hR85 hS58 rfl rfl ze32 rfl (by decide) (fun a86 w87 g88 hR89 hS90 => ?_)
      refine m_store (i := 1) (cs' := [.int .i64 (((nth R j).K)), .int .i64 (((nth R j).N)), .int .i64 (((nth R j).M)), .string ((nth R j).S)]) (st_list rfl) hR89 hS90 rfl rfl rfl rfl rfl sz32 rfl rfl rfl (fun a91 w92 hR93 hS94 => ?_)
      refine wpList_nil ?_
      refine x_then_n (hK77 _ _ ?_)
      refine wp_seq_k (fun K95 hK96 => ?_)
      refine c_region ?_
      refine r_move (st_listV rfl) hR93 rfl rfl rfl (by decide) (fun a97 hR98 => ?_)
      refine m_loadN (i := 1) (vs := [.int .i64 (((nth R j).K)), .int .i64 (((nth R j).N)), .int .i64 (((nth R j).M)), .string ((nth R j).S)]) (st_listV rfl) hR98 hS94 rfl rfl rfl rfl rfl Tryd.underlying32 rfl sz32 (by decide) (fun a99 hR100 => ?_)
      have hS101 : St w0 Z (rM tA) w92 [.row tA ((R).length) tc 32 4 (encNs R), .box g88 32 [.int .i64 (((nth R j).K)), .int .i64 (((nth R j).N)), .int .i64 (((nth R j).M)), .string ((nth R j).S)]] [] := hS94
      refine k_callV (xs := [.tmp 27]) (st_list rfl) hR100 rfl rfl rfl rfl (by decide) ok65 (stripP_calls _ (imm Z w0 [.row tA ((R).length) tc 32 4 (encNs R), .box g88 32 [.int .i64 (((nth R j).K)), .int .i64 (((nth R j).N)), .int .i64 (((nth R j).M)), .string ((nth R j).S)]] _) (fun _ h => h.1) (nth R j)) ?_
      rintro e108 w103 ⟨rfl, hf106⟩
      have hS109 := hS101.below hf106.below
      refine ⟨_, rfl, fun a102 hR104 => ?_⟩
      refine r_not (st_listV rfl) hR104 rfl rfl rfl (by decide) (fun a110 hR111 => ?_)
      refine wpList_nil ?_
      refine x_then_n (hK96 _ _ ?_)
      rcases Bool.eq_false_or_eq_true (decide ((nth R j).K = 28)) with h112 | h112
      · skip
        have h113 := of_decide_eq_true h112
        have hR114 := hR111.setb (d := 29) (b := false) rfl (by rw [h112]; rfl)
        refine wp_cond_false (hR114.ev rfl) ?_
        refine wp_skip ?_
        refine x_block_n ?_
        refine x_then_n (hK75 _ _ ?_)
        refine c_region ?_
        refine r_move (st_listV rfl) hR114 rfl rfl rfl (by decide) (fun a115 hR116 => ?_)
        refine r_add (z := ((j + 1 : Nat) : Int)) (st_listV rfl) hR116 rfl rfl rfl rfl (by decide) (by omega) (by omega) (by omega) (fun a117 hR118 => ?_)
        refine r_assign (st_listV rfl) hR118 rfl rfl rfl (by decide) (fun a119 hR120 => ?_)
        refine wpList_nil ?_
        obtain ⟨hq2, hq3⟩ := del_drop h1 h2 h3 (by omega) (by omega)
        have hS121 := hS109.erase 1
        exact ⟨_, by omega, i, j + 1, R, (Reg.cons hR120 (Reg.cons hR120 (Reg.cons hR120 (Reg.cons hR120 (Reg.cons hR120 (Reg.cons hR120 (hR120.nil) rfl) rfl) rfl) rfl) rfl) rfl), hS121, by omega, by omega, h1, hq2, hq3, rfl⟩
      · skip
        have h122 := of_decide_eq_false h112
        have hR123 := hR111.setb (d := 29) (b := true) rfl (by rw [h112]; rfl)
        refine wp_cond_true (hR123.ev rfl) ?_
        refine wp_seq_k (fun K124 hK125 => ?_)
        refine c_region ?_
        refine r_move (st_listV rfl) hR123 rfl rfl rfl (by decide) (fun a126 hR127 => ?_)
        refine r_move (st_listV rfl) hR127 rfl rfl rfl (by decide) (fun a128 hR129 => ?_)
        refine m_loadN (i := 1) (vs := [.int .i64 (((nth R j).K)), .int .i64 (((nth R j).N)), .int .i64 (((nth R j).M)), .string ((nth R j).S)]) (st_listV rfl) hR129 hS109 rfl rfl rfl rfl rfl Tryd.underlying32 rfl sz32 (by decide) (fun a130 hR131 => ?_)
        refine m_index (i := i) (j := i * 4) (st_listV rfl) hR131 rfl rfl rfl rfl Tryd.underlying22 sz32 (by omega) (by omega) (own_nds (t := R) (k := i) (hS109.res (i := 0) rfl) (by omega)).some_ rfl (by decide) (fun a132 hR133 => ?_)
        refine m_storeE (f := encN) (i := 0) (k := i) (L := R) (z := (nth R j)) (st_list rfl) hR133 hS109 rfl rfl rfl rfl rfl rfl (by omega) encN_len (one1 (f := encN) encN_one) rfl sz32 (fun a134 w135 hR136 hS137 => ?_)
        have hl138 : (R.set (i) (nth R j)).length = (R).length := by simp
        refine wpList_nil ?_
        refine x_then_n (hK125 _ _ ?_)
        refine c_region ?_
        refine r_move (st_listV rfl) hR136 rfl rfl rfl (by decide) (fun a139 hR140 => ?_)
        refine r_add (z := ((i + 1 : Nat) : Int)) (st_listV rfl) hR140 rfl rfl rfl rfl (by decide) (by omega) (by omega) (by omega) (fun a141 hR142 => ?_)
        refine r_assign (st_listV rfl) hR142 rfl rfl rfl (by decide) (fun a143 hR144 => ?_)
        refine wpList_nil ?_
        refine x_block_n ?_
        refine x_then_n (hK75 _ _ ?_)
        refine c_region ?_
        refine r_move (st_listV rfl) hR144 rfl rfl rfl (by decide) (fun a145 hR146 => ?_)
        refine r_add (z := ((j + 1 : Nat) : Int)) (st_listV rfl) hR146 rfl rfl rfl rfl (by decide) (by omega) (by omega) (by omega) (fun a147 hR148 => ?_)
        refine r_assign (st_listV rfl) hR148 rfl rfl rfl (by decide) (fun a149 hR150 => ?_)
        refine wpList_nil ?_
        obtain ⟨hq2, hq3⟩ := del_keep h1 h2 h3 hij (by omega) (by omega)
        have hS151 := hS137.erase 1
        exact ⟨_, by omega, i + 1, j + 1, _, (Reg.cons hR150 (Reg.cons hR150 (Reg.cons hR150 (Reg.cons hR150 (Reg.cons hR150 (Reg.cons hR150 (hR150.nil) rfl) rfl) rfl) rfl) rfl) rfl), hS151, by omega, by omega, by simpa using h1, hq2, hq3, rfl⟩
    · skip
      have hR152 := hR71.setb (d := 19) (b := false) rfl (decide_eq_false h72)
      refine wp_cond_false (hR152.ev rfl) ?_
      refine wp_exit ?_
      refine x_then_e ?_
      refine x_then_e ?_
      refine x_block_eq ?_
      refine x_then_n (hK45 _ _ ?_)
      refine wp_seq_k (fun K153 hK154 => ?_)
      refine c_region ?_
      refine r_move (st_listV rfl) hR152 rfl rfl rfl (by decide) (fun a155 hR156 => ?_)
      refine r_move (st_listV rfl) hR156 rfl rfl rfl (by decide) (fun a157 hR158 => ?_)
      have hcap165 := own_cap (hS58.res (i := 0) rfl)
      refine m_sliceV (lo := some (.tmp 37)) (hi := none) (vlo := (some (.int .i64 ((i : Nat) : Int)))) (vhi := none) (kd := .i64) (kd' := .i64) (st_listV rfl) hR158 rfl rfl rfl rfl rfl (i) ((t.length) - (i)) (.inl (by first | rfl | (congr 2; omega))) (.inr ⟨rfl, by omega⟩) Tryd.underlying22 sz32 (by omega) (by decide) (fun a159 A161 c162 hc163 hv164 hR160 => ?_)
      refine m_clear (f := encN) (i := 0) (L := R) (k := i) (z0 := (⟨0, 0, 0, (⟨#[]⟩ : ByteArray)⟩ : Nd)) (st_listV rfl) hR160 hS58 rfl rfl rfl rfl hv164 (by omega) Tryd.underlying22 zi32 encN_len (one1 (f := encN) encN_one) rfl _ rfl (fun a166 w167 hR168 hS169 => ?_)
      have hl170 : (R.take (i) ++ List.replicate ((t.length) - (i)) (⟨0, 0, 0, (⟨#[]⟩ : ByteArray)⟩ : Nd) ++ R.drop (i + ((t.length) - (i))) : List Nd).length = (R).length := by simp only [List.length_append, List.length_take, List.length_drop, List.length_replicate]; omega
      refine wpList_nil ?_
      refine x_then_n (hK154 _ _ ?_)
      refine wp_seq_k (fun K171 hK172 => ?_)
      refine c_region ?_
      refine r_move (st_listV rfl) hR168 rfl rfl rfl (by decide) (fun a173 hR174 => ?_)
      refine r_move (st_listV rfl) hR174 rfl rfl rfl (by decide) (fun a175 hR176 => ?_)
      have hcap179 := own_cap (hS169.res (i := 0) rfl)
      refine m_sliceP (q := i) (st_listV rfl) hR176 rfl rfl rfl rfl (by omega) Tryd.underlying22 sz32 (by omega) (by decide) (fun a180 hR181 => ?_)
      refine r_assign (st_listV rfl) hR181 rfl rfl rfl (by decide) (fun a182 hR183 => ?_)
      refine wpList_nil ?_
      refine x_then_n (hK172 _ _ ?_)
      refine wp_ret ?_
      refine e_ret1 hR183 rfl rfl rfl ?_
      have hS184 := hS169.trim encN_len (i := 0) (L := (R.take (i) ++ List.replicate ((t.length) - (i)) (⟨0, 0, 0, (⟨#[]⟩ : ByteArray)⟩ : Nd) ++ R.drop (i + ((t.length) - (i))))) rfl (i) (by omega)
      have he185 : (R.take (i) ++ List.replicate ((t.length) - (i)) (⟨0, 0, 0, (⟨#[]⟩ : ByteArray)⟩ : Nd) ++ R.drop (i + ((t.length) - (i)))).take (i) = t.filter nPrf := by rw [show j = t.length by omega, List.take_length] at h2; rw [← h2, List.append_assoc, List.take_append_of_le_length (by rw [List.length_take]; omega), List.take_take, Nat.min_self]
      have hS186 := hS184
      rw [he185] at hS186
      refine ⟨?_, hS186.fr, hS186.res (i := 0) rfl⟩
      exact congrArg Ending.returned (ret_s (by first | rfl | (exact congrArg List.length he185; done) | (rw [← he185]; simp; done) | (rw [← he185]; simp; omega) | omega))

set_option maxRecDepth 100000 in
set_option maxHeartbeats 1000000 in
theorem strip_calls (w0 : World) (Z : Nat → Prop) (hZ : ∀ k, Z k → k < w0.heap.size) (tA : Option Addr) (tc : Nat) (t : List Nd) (hShp : Shapes w0 Z) (ht : (dRow 4 tA t.length tc (encNs t)).φ w0 Z) (hsm : sml t) (hl : t.length ≤ 1000000) :
    Calls Tryd.prog 41 [.slice tA t.length tc].toArray w0 (fun e w' => ∃ (rA0 : Option Addr) (rc0 : Nat), e = .returned (.tuple #[.slice rA0 (stA t).length rc0, .int .i64 (chk t)]) ∧ Fr none_ w0 w' ∧ (dRow 4 rA0 ((stA t).length) rc0 (encNs (stA t))).φ w' (nxt Z w0 w')) := by
  have hstart : ∀ k, Z k → imm Z w0 [] w0 k ∧ w0.heap[k]? = w0.heap[k]? := fun k hk => ⟨⟨hZ k hk, fun _ => hk, fun _ h => by cases h⟩, rfl⟩
  have hS3 : St w0 Z none_ w0 [] [dShapes, dRow 4 tA t.length tc (encNs t)] := St.start w0 Z none_ _ (by
    intro d hd
    simp only [List.mem_cons, List.not_mem_nil, or_false] at hd
    rcases hd with rfl | rfl
    · exact Dat.mono _ _ _ _ _ (Nat.le_refl _) hShp hstart
    · exact Dat.mono _ _ _ _ _ (Nat.le_refl _) ht hstart
    )
  refine c_enter Tryd.func41 rfl Tryd.ntmps41 rfl (fun a1 hR2 => ?_)
  refine wp_seq_k (fun K4 hK5 => ?_)
  refine c_region ?_
  refine r_assign (st_listV rfl) hR2 rfl rfl rfl (by decide) (fun a6 hR7 => ?_)
  refine r_assign (st_listV rfl) hR7 rfl rfl rfl (by decide) (fun a8 hR9 => ?_)
  refine wpList_nil ?_
  refine x_then_n (hK5 _ _ ?_)
  refine wp_seq_k (fun K10 hK11 => ?_)
  refine wp_seq_k (fun K12 hK13 => ?_)
  refine c_region ?_
  refine r_move (st_listV rfl) hR9 rfl rfl rfl (by decide) (fun a14 hR15 => ?_)
  have hS16 : St w0 Z none_ w0 [] [dShapes, dRow 4 tA t.length tc (encNs t)] := hS3
  refine k_call (xs := [.tmp 5]) (st_list rfl) hR15 rfl rfl rfl (by decide) ok44 (check_calls _ (imm Z w0 [] _) (fun _ h => h.1) tA tc t (hS16.get (i := 0) rfl) (hS16.get (i := 1) rfl) (by first | assumption | omega | (simp; done) | (simp; omega)) (by first | assumption | omega | (simp; done) | (simp; omega))) ?_
  rintro e23 w18 ⟨rfl, hf21⟩
  have hS24 := hS16.below hf21.below
  refine ⟨_, rfl, fun a17 hR19 => ?_⟩
  refine r_assign (st_listV rfl) hR19 rfl rfl rfl (by decide) (fun a25 hR26 => ?_)
  refine wpList_nil ?_
  refine x_then_n (hK13 _ _ ?_)
  refine wp_seq_k (fun K27 hK28 => ?_)
  refine c_region ?_
  refine r_move (st_listV rfl) hR26 rfl rfl rfl (by decide) (fun a29 hR30 => ?_)
  refine r_neq (st_listV rfl) hR30 rfl rfl rfl rfl (by decide) (fun a31 hR32 => ?_)
  refine wpList_nil ?_
  refine x_then_n (hK28 _ _ ?_)
  rcases Decidable.em (((chk t)) = 0) with h33 | h33
  · skip
    have hR34 := hR32.setb (d := 8) (b := false) rfl (by rw [(decide_eq_true h33)]; rfl)
    refine wp_cond_false (hR34.ev rfl) ?_
    refine wp_skip ?_
    refine x_then_n (hK11 _ _ ?_)
    refine wp_seq_k (fun K35 hK36 => ?_)
    refine c_region ?_
    refine r_move (st_listV rfl) hR34 rfl rfl rfl (by decide) (fun a37 hR38 => ?_)
    have hS39 : St w0 Z none_ w18 [] [dShapes, dRow 4 tA t.length tc (encNs t)] := hS24
    refine k_call (xs := [.tmp 10]) (st_list rfl) hR38 rfl rfl rfl (by decide) ok51 (cloneN_calls _ (imm Z w0 [] _) (fun _ h => h.1) tA tc t (hS39.get (i := 1) rfl) (by first | assumption | omega | (simp; done) | (simp; omega))) ?_
    rintro e50 w41 ⟨A45, c46, rfl, hf44, hd47, hf48⟩
    have hS51 := hS39.callO hf44 hd47 hf48
    refine ⟨_, rfl, fun a40 hR42 => ?_⟩
    have hS52 : St w0 Z none_ w41 [.row A45 t.length c46 32 4 (encNs t)] [dShapes, dRow 4 tA t.length tc (encNs t)] := hS51
    refine k_call (xs := [.tmp 11, .func 65]) (st_list rfl) hR42 rfl rfl rfl (by decide) ok64 (delete_calls _ (imm Z w0 [.row A45 t.length c46 32 4 (encNs t)] _) (fun _ h => h.1) A45 c46 t (hS52.res (i := 0) rfl) (imm_row (i := 0) rfl) (by first | assumption | omega | (simp; done) | (simp; omega))) ?_
    rintro e59 w54 ⟨rfl, hf57, hb58⟩
    have hS60 := hS52.callR (i := 0) rfl hf57 hb58
    refine ⟨_, rfl, fun a53 hR55 => ?_⟩
    refine r_assign (st_listV rfl) hR55 rfl rfl rfl (by decide) (fun a61 hR62 => ?_)
    refine r_assign (st_listV rfl) hR62 rfl rfl rfl (by decide) (fun a63 hR64 => ?_)
    refine wpList_nil ?_
    refine x_then_n (hK36 _ _ ?_)
    refine wp_ret ?_
    refine e_ret2 hR64 rfl rfl rfl rfl ?_
    have he65 : stA t = t.filter nPrf := stA_ok (by assumption)
    rw [he65]
    have hc69 := own_cap (hS60.res (i := 0) rfl)
    obtain ⟨hS66, hrow67⟩ := hS60.row_data (i := 0) rfl (fun _ h => h)
    have hS68 := hS66.data (dRow 4 A45 ((t.filter nPrf).length) c46 (encNs (t.filter nPrf))) ⟨hc69, hrow67⟩
    refine ⟨A45, c46, ?_, hS68.fr, ⟨by have := (hS68.row (i := 2) rfl).1; exact this, ((hS68.row (i := 2) rfl).2.mono (fun _ hk => ⟨imm_nxt hk, rfl⟩))⟩⟩
    exact ret_t2 rfl (ret_i (by first | rfl | omega | (have q0 := h33; (try simp at q0);  omega) | (simp [h33]; done) | (simp [] at *; done) | (simp [h33] <;> omega) | (rw [Bool.eq_iff_iff]; simp [h33] <;> omega) | (rw [Bool.eq_iff_iff]; simp [h33] at * <;> omega)))
  · skip
    have hR70 := hR32.setb (d := 8) (b := true) rfl (by rw [(decide_eq_false h33)]; rfl)
    refine wp_cond_true (hR70.ev rfl) ?_
    refine wp_seq_k (fun K71 hK72 => ?_)
    refine c_region ?_
    refine r_move (st_listV rfl) hR70 rfl rfl rfl (by decide) (fun a73 hR74 => ?_)
    refine r_assign (st_listV rfl) hR74 rfl rfl rfl (by decide) (fun a75 hR76 => ?_)
    refine r_assign (st_listV rfl) hR76 rfl rfl rfl (by decide) (fun a77 hR78 => ?_)
    refine wpList_nil ?_
    refine x_then_n (hK72 _ _ ?_)
    refine wp_ret ?_
    refine x_then_r ?_
    refine e_ret2 hR78 rfl rfl rfl rfl ?_
    have he79 : stA t = [] := stA_no (by assumption)
    rw [he79]
    refine ⟨none, 0, ?_, hS24.fr, ⟨Nat.le_refl _, RowI.nil _ _ _ _⟩⟩
    exact ret_t2 rfl (ret_i (by first | rfl | omega | (have q0 := h33; (try simp at q0);  omega) | (simp [h33]; done) | (simp [] at *; done) | (simp [h33] <;> omega) | (rw [Bool.eq_iff_iff]; simp [h33] <;> omega) | (rw [Bool.eq_iff_iff]; simp [h33] at * <;> omega)))
end Go.Proofs.YtobgdeffhdefeaaDoor
/- Contracts of functions, one theorem each: what the call returns, and that nothing old is changed. Printed by gen.py. -/
namespace Go.Proofs.YtobgdeffhdefeaaDoor
open Go Go.RowKit
set_option linter.unusedSimpArgs false
set_option linter.unusedVariables false

set_option maxRecDepth 100000 in
set_option maxHeartbeats 1000000 in
theorem replace_calls (w0 : World) (Z : Nat → Prop) (hZ : ∀ k, Z k → k < w0.heap.size) (tA : Option Addr) (tc : Nat) (t : List Nd) (i : Nat) (j : Nat) (vA : Option Addr) (vc : Nat) (v : List Nd) (ht : (Res.row tA (t).length tc 32 4 (encNs t)).holds w0) (htz : ∀ k, rM tA k → ¬ Z k) (hv : (dRow 4 vA v.length vc (encNs v)).φ w0 Z) (hl : t.length ≤ 1000000) (hij : i < j) (hj : j ≤ t.length) (hvl : v.length = 1) :
    Calls Tryd.prog 53 [.slice tA t.length tc, .int .i64 ((i : Nat) : Int), .int .i64 ((j : Nat) : Int), .slice vA v.length vc].toArray w0 (fun e w' => e = .returned (.slice tA (t.take i ++ v ++ t.drop j).length tc) ∧ Fr (rM tA) w0 w' ∧ (Res.row tA (t.take i ++ v ++ t.drop j).length tc 32 4 (encNs (t.take i ++ v ++ t.drop j))).holds w') := by
  have hstart : ∀ k, Z k → imm Z w0 [.row tA ((t).length) tc 32 4 (encNs t)] w0 k ∧ w0.heap[k]? = w0.heap[k]? := fun k hk => imm_startR hZ htz hk
  have hS3 : St w0 Z (rM tA) w0 [.row tA ((t).length) tc 32 4 (encNs t)] [dRow 4 vA v.length vc (encNs v)] := St.startR w0 Z _ _ _ _ _ _ _ ht (by
    intro d hd
    simp only [List.mem_cons, List.not_mem_nil, or_false] at hd
    rcases hd with rfl
    · exact Dat.mono _ _ _ _ _ (Nat.le_refl _) hv hstart
    )
  refine c_enter Tryd.func53 rfl Tryd.ntmps53 rfl (fun a1 hR2 => ?_)
  refine wp_seq_k (fun K4 hK5 => ?_)
  refine c_region ?_
  refine r_assign (st_listV rfl) hR2 rfl rfl rfl (by decide) (fun a6 hR7 => ?_)
  refine wpList_nil ?_
  refine x_then_n (hK5 _ _ ?_)
  refine wp_seq_k (fun K8 hK9 => ?_)
  refine c_region ?_
  refine r_move (st_listV rfl) hR7 rfl rfl rfl (by decide) (fun a10 hR11 => ?_)
  refine r_move (st_listV rfl) hR11 rfl rfl rfl (by decide) (fun a12 hR13 => ?_)
  refine r_move (st_listV rfl) hR13 rfl rfl rfl (by decide) (fun a14 hR15 => ?_)
  have hcap22 := own_cap (hS3.res (i := 0) rfl)
  refine m_sliceV (lo := some (.tmp 16)) (hi := some (.tmp 17)) (vlo := (some (.int .i64 ((i : Nat) : Int)))) (vhi := (some (.int .i64 ((j : Nat) : Int)))) (kd := .i64) (kd' := .i64) (st_listV rfl) hR15 rfl rfl rfl rfl rfl (i) ((j) - (i)) (.inl (by first | rfl | (congr 2; omega))) (.inl (by congr 2; omega)) Tryd.underlying22 sz32 (by omega) (by decide) (fun a16 A18 c19 hc20 hv21 hR17 => ?_)
  refine wpList_nil ?_
  refine x_then_n (hK9 _ _ ?_)
  refine wp_seq_k (fun K23 hK24 => ?_)
  refine wp_seq_k (fun K25 hK26 => ?_)
  refine c_region ?_
  refine r_move (st_listV rfl) hR17 rfl rfl rfl (by decide) (fun a27 hR28 => ?_)
  refine r_move (st_listV rfl) hR28 rfl rfl rfl (by decide) (fun a29 hR30 => ?_)
  refine r_eql (st_listV rfl) hR30 rfl rfl rfl rfl (by decide) (fun a31 hR32 => ?_)
  refine wpList_nil ?_
  refine x_then_n (hK26 _ _ ?_)
  rcases Decidable.em (((i : Nat) : Int) = ((j : Nat) : Int)) with h33 | h33
  · skip
    exfalso; omega
  · skip
    have hR34 := hR32.setb (d := 21) (b := false) rfl (decide_eq_false h33)
    refine wp_cond_false (hR34.ev rfl) ?_
    refine wp_skip ?_
    refine x_then_n (hK24 _ _ ?_)
    refine wp_seq_k (fun K35 hK36 => ?_)
    refine wp_seq_k (fun K37 hK38 => ?_)
    refine c_region ?_
    refine r_move (st_listV rfl) hR34 rfl rfl rfl (by decide) (fun a39 hR40 => ?_)
    refine r_move (st_listV rfl) hR40 rfl rfl rfl (by decide) (fun a41 hR42 => ?_)
    refine r_len (st_listV rfl) hR42 rfl rfl rfl rfl Tryd.underlying22 (by decide) (fun a43 hR44 => ?_)
    refine r_eql (st_listV rfl) hR44 rfl rfl rfl rfl (by decide) (fun a45 hR46 => ?_)
    refine wpList_nil ?_
    refine x_then_n (hK38 _ _ ?_)
    rcases Decidable.em (((j : Nat) : Int) = ((t.length : Nat) : Int)) with h47 | h47
    · skip
      have hR48 := hR46.setb (d := 29) (b := true) rfl (decide_eq_true h47)
      refine wp_cond_true (hR48.ev rfl) ?_
      refine wp_seq_k (fun K49 hK50 => ?_)
      refine c_region ?_
      refine r_move (st_listV rfl) hR48 rfl rfl rfl (by decide) (fun a51 hR52 => ?_)
      refine r_move (st_listV rfl) hR52 rfl rfl rfl (by decide) (fun a53 hR54 => ?_)
      have hcap57 := own_cap (hS3.res (i := 0) rfl)
      refine m_sliceP (q := i) (st_listV rfl) hR54 rfl rfl rfl rfl (by omega) Tryd.underlying22 sz32 (by omega) (by decide) (fun a58 hR59 => ?_)
      refine r_move (st_listV rfl) hR59 rfl rfl rfl (by decide) (fun a60 hR61 => ?_)
      refine m_appendFit (f := encN) (i := 0) (L := t) (K := v) (st_listV rfl) hR61 hS3 rfl rfl rfl rfl rfl (by omega) (by omega) Tryd.underlying22 sz32 encN_len (one1 (f := encN) encN_one) (by first | rfl | omega) (hS3.row (i := 0) rfl).2.news _ rfl (by decide) (fun a62 w63 hR64 hS65 => ?_)
      have hl66 : (t.take (i) ++ v ++ t.drop (i + v.length)).length = (t).length := by simp only [List.length_append, List.length_take, List.length_drop]; omega
      refine r_assign (st_listV rfl) hR64 rfl rfl rfl (by decide) (fun a67 hR68 => ?_)
      refine wpList_nil ?_
      refine x_then_n (hK50 _ _ ?_)
      refine wp_seq_k (fun K69 hK70 => ?_)
      refine wp_seq_k (fun K71 hK72 => ?_)
      refine c_region ?_
      refine r_move (st_listV rfl) hR68 rfl rfl rfl (by decide) (fun a73 hR74 => ?_)
      refine r_len (st_listV rfl) hR74 rfl rfl rfl rfl Tryd.underlying22 (by decide) (fun a75 hR76 => ?_)
      refine r_move (st_listV rfl) hR76 rfl rfl rfl (by decide) (fun a77 hR78 => ?_)
      refine r_len (st_listV rfl) hR78 rfl rfl rfl rfl Tryd.underlying22 (by decide) (fun a79 hR80 => ?_)
      refine r_lss (st_listV rfl) hR80 rfl rfl rfl rfl (by decide) (fun a81 hR82 => ?_)
      refine wpList_nil ?_
      refine x_then_n (hK72 _ _ ?_)
      rcases Decidable.em (((i + v.length : Nat) : Int) < ((t.length : Nat) : Int)) with h83 | h83
      · skip
        have hR84 := hR82.setb (d := 39) (b := true) rfl (decide_eq_true h83)
        refine wp_cond_true (hR84.ev rfl) ?_
        refine c_region ?_
        refine r_move (st_listV rfl) hR84 rfl rfl rfl (by decide) (fun a85 hR86 => ?_)
        refine r_move (st_listV rfl) hR86 rfl rfl rfl (by decide) (fun a87 hR88 => ?_)
        refine r_len (st_listV rfl) hR88 rfl rfl rfl rfl Tryd.underlying22 (by decide) (fun a89 hR90 => ?_)
        have hcap97 := own_cap (hS65.res (i := 0) rfl)
        refine m_sliceV (lo := some (.tmp 42)) (hi := none) (vlo := (some (.int .i64 ((i + v.length : Nat) : Int)))) (vhi := none) (kd := .i64) (kd' := .i64) (st_listV rfl) hR90 rfl rfl rfl rfl rfl (i + v.length) ((t.length) - (i + v.length)) (.inl (by first | rfl | (congr 2; omega))) (.inr ⟨rfl, by omega⟩) Tryd.underlying22 sz32 (by omega) (by decide) (fun a91 A93 c94 hc95 hv96 hR92 => ?_)
        refine m_clear (f := encN) (i := 0) (L := (t.take (i) ++ v ++ t.drop (i + v.length))) (k := (i + v.length)) (z0 := (⟨0, 0, 0, (⟨#[]⟩ : ByteArray)⟩ : Nd)) (st_listV rfl) hR92 hS65 rfl rfl rfl rfl hv96 (by omega) Tryd.underlying22 zi32 encN_len (one1 (f := encN) encN_one) rfl _ rfl (fun a98 w99 hR100 hS101 => ?_)
        have hl102 : ((t.take (i) ++ v ++ t.drop (i + v.length)).take (i + v.length) ++ List.replicate ((t.length) - (i + v.length)) (⟨0, 0, 0, (⟨#[]⟩ : ByteArray)⟩ : Nd) ++ (t.take (i) ++ v ++ t.drop (i + v.length)).drop ((i + v.length) + ((t.length) - (i + v.length))) : List Nd).length = (t.take (i) ++ v ++ t.drop (i + v.length)).length := by simp only [List.length_append, List.length_take, List.length_drop, List.length_replicate]; omega
        refine wpList_nil ?_
        refine x_then_n (hK70 _ _ ?_)
        refine wp_seq_k (fun K103 hK104 => ?_)
        refine c_region ?_
        refine r_move (st_listV rfl) hR100 rfl rfl rfl (by decide) (fun a105 hR106 => ?_)
        refine r_assign (st_listV rfl) hR106 rfl rfl rfl (by decide) (fun a107 hR108 => ?_)
        refine wpList_nil ?_
        refine x_then_n (hK104 _ _ ?_)
        refine wp_ret ?_
        refine x_then_r ?_
        refine e_ret1 hR108 rfl rfl rfl ?_
        have hS109 := hS101.trim encN_len (i := 0) (L := ((t.take (i) ++ v ++ t.drop (i + v.length)).take (i + v.length) ++ List.replicate ((t.length) - (i + v.length)) (⟨0, 0, 0, (⟨#[]⟩ : ByteArray)⟩ : Nd) ++ (t.take (i) ++ v ++ t.drop (i + v.length)).drop ((i + v.length) + ((t.length) - (i + v.length))))) rfl (i + v.length) (by omega)
        have he110 : ((t.take (i) ++ v ++ t.drop (i + v.length)).take (i + v.length) ++ List.replicate ((t.length) - (i + v.length)) (⟨0, 0, 0, (⟨#[]⟩ : ByteArray)⟩ : Nd) ++ (t.take (i) ++ v ++ t.drop (i + v.length)).drop ((i + v.length) + ((t.length) - (i + v.length)))).take (i + v.length) = t.take i ++ v ++ t.drop j := by first | exact rep_end (by omega) (by omega) rfl | exact rep_end2 (by omega) (by omega) rfl (List.append_assoc _ _ _)
        have hS111 := hS109
        rw [he110] at hS111
        refine ⟨?_, hS111.fr, hS111.res (i := 0) rfl⟩
        exact congrArg Ending.returned (ret_s (by first | rfl | (exact congrArg List.length he110; done) | (rw [← he110]; simp; done) | (rw [← he110]; simp; omega) | omega))
      · skip
        have hR112 := hR82.setb (d := 39) (b := false) rfl (decide_eq_false h83)
        refine wp_cond_false (hR112.ev rfl) ?_
        refine wp_skip ?_
        refine x_then_n (hK70 _ _ ?_)
        refine wp_seq_k (fun K113 hK114 => ?_)
        refine c_region ?_
        refine r_move (st_listV rfl) hR112 rfl rfl rfl (by decide) (fun a115 hR116 => ?_)
        refine r_assign (st_listV rfl) hR116 rfl rfl rfl (by decide) (fun a117 hR118 => ?_)
        refine wpList_nil ?_
        refine x_then_n (hK114 _ _ ?_)
        refine wp_ret ?_
        refine x_then_r ?_
        refine e_ret1 hR118 rfl rfl rfl ?_
        have hS119 := hS65.trim encN_len (i := 0) (L := (t.take (i) ++ v ++ t.drop (i + v.length))) rfl (i + v.length) (by omega)
        have he120 : (t.take (i) ++ v ++ t.drop (i + v.length)).take (i + v.length) = t.take i ++ v ++ t.drop j := by first | exact rep_end (by omega) (by omega) rfl | exact rep_end2 (by omega) (by omega) rfl (List.append_assoc _ _ _)
        have hS121 := hS119
        rw [he120] at hS121
        refine ⟨?_, hS121.fr, hS121.res (i := 0) rfl⟩
        exact congrArg Ending.returned (ret_s (by first | rfl | (exact congrArg List.length he120; done) | (rw [← he120]; simp; done) | (rw [← he120]; simp; omega) | omega))
    · skip
      have hR122 := hR46.setb (d := 29) (b := false) rfl (decide_eq_false h47)
      refine wp_cond_false (hR122.ev rfl) ?_
      refine wp_skip ?_
      refine x_then_n (hK36 _ _ ?_)
      refine wp_seq_k (fun K123 hK124 => ?_)
      obtain ⟨J125, hJ126, hS127⟩ := hS3.agree
      refine d_region2 (S := (fun x => (w0.heap.size ≤ x.heap.size ∧ ∀ k, J125 k → x.heap[k]? = w0.heap[k]?) ∧ (True))) (n := 13) mixed rfl hS127 (pan_then pan_body) (fun Q130 hP131 hN132 w128 hS129 => ?_)
      have hSw133 : (w0.heap.size ≤ w128.heap.size ∧ ∀ k, J125 k → w128.heap[k]? = w0.heap[k]?) ∧ (True) := ⟨⟨(hS129.get (i := 1) rfl).1, fun k hk => ((hS129.get (i := 1) rfl).2 k hk).2⟩, trivial⟩
      refine d_take (i := 0) rfl (by kernel_rfl) (by kernel_rfl) (by kernel_rfl) (fun c a w h => hP131 c _ _ _ _ h) rfl (by decide) hR122 (want_n rfl) (fun x hx => r_move (st_yield hR122 rfl (by decide)) hR122 rfl rfl rfl (by decide) (fun _ h => ⟨h.get _ _ (by decide) rfl, rfl⟩)) hSw133 (fun a134 hR135 => ?_)
      refine d_take (i := 1) rfl (by kernel_rfl) (by kernel_rfl) (by kernel_rfl) (fun c a w h => hP131 c _ _ _ _ h) rfl (by decide) hR135 (want_n rfl) (fun x hx => r_move (st_yield hR135 rfl (by decide)) hR135 rfl rfl rfl (by decide) (fun _ h => ⟨h.get _ _ (by decide) rfl, rfl⟩)) hSw133 (fun a136 hR137 => ?_)
      refine d_take (i := 2) rfl (by kernel_rfl) (by kernel_rfl) (by kernel_rfl) (fun c a w h => hP131 c _ _ _ _ h) rfl (by decide) hR137 (want_n rfl) (fun x hx => m_sliceP (q := i) (st_yield hR137 rfl (by decide)) hR137 rfl rfl rfl rfl (by omega) Tryd.underlying22 sz32 (by omega) (by decide) (fun _ h => ⟨h.get _ _ (by decide) rfl, rfl⟩)) hSw133 (fun a140 hR141 => ?_)
      refine d_take (i := 3) rfl (by kernel_rfl) (by kernel_rfl) (by kernel_rfl) (fun c a w h => hP131 c _ _ _ _ h) rfl (by decide) hR141 (want_n rfl) (fun x hx => r_len (st_yield hR141 rfl (by decide)) hR141 rfl rfl rfl rfl Tryd.underlying22 (by decide) (fun _ h => ⟨h.get _ _ (by decide) rfl, rfl⟩)) hSw133 (fun a142 hR143 => ?_)
      refine d_take (i := 4) rfl (by kernel_rfl) (by kernel_rfl) (by kernel_rfl) (fun c a w h => hP131 c _ _ _ _ h) rfl (by decide) hR143 (want_n rfl) (fun x hx => r_move (st_yield hR143 rfl (by decide)) hR143 rfl rfl rfl (by decide) (fun _ h => ⟨h.get _ _ (by decide) rfl, rfl⟩)) hSw133 (fun a144 hR145 => ?_)
      refine d_take (i := 5) rfl (by kernel_rfl) (by kernel_rfl) (by kernel_rfl) (fun c a w h => hP131 c _ _ _ _ h) rfl (by decide) hR145 (want_n rfl) (fun x hx => r_len (st_yield hR145 rfl (by decide)) hR145 rfl rfl rfl rfl Tryd.underlying22 (by decide) (fun _ h => ⟨h.get _ _ (by decide) rfl, rfl⟩)) hSw133 (fun a146 hR147 => ?_)
      refine d_take (i := 6) rfl (by kernel_rfl) (by kernel_rfl) (by kernel_rfl) (fun c a w h => hP131 c _ _ _ _ h) rfl (by decide) hR147 (want_n rfl) (fun x hx => r_add (z := ((i + v.length : Nat) : Int)) (st_yield hR147 rfl (by decide)) hR147 rfl rfl rfl rfl (by decide) (by omega) (by omega) (by omega) (fun _ h => ⟨h.get _ _ (by decide) rfl, rfl⟩)) hSw133 (fun a148 hR149 => ?_)
      refine d_take (i := 7) rfl (by kernel_rfl) (by kernel_rfl) (by kernel_rfl) (fun c a w h => hP131 c _ _ _ _ h) rfl (by decide) hR149 (want_n rfl) (fun x hx => r_move (st_yield hR149 rfl (by decide)) hR149 rfl rfl rfl (by decide) (fun _ h => ⟨h.get _ _ (by decide) rfl, rfl⟩)) hSw133 (fun a150 hR151 => ?_)
      refine d_take (i := 8) rfl (by kernel_rfl) (by kernel_rfl) (by kernel_rfl) (fun c a w h => hP131 c _ _ _ _ h) rfl (by decide) hR151 (want_n rfl) (fun x hx => r_move (st_yield hR151 rfl (by decide)) hR151 rfl rfl rfl (by decide) (fun _ h => ⟨h.get _ _ (by decide) rfl, rfl⟩)) hSw133 (fun a152 hR153 => ?_)
      refine d_take (i := 9) rfl (by kernel_rfl) (by kernel_rfl) (by kernel_rfl) (fun c a w h => hP131 c _ _ _ _ h) rfl (by decide) hR153 (want_n rfl) (fun x hx => m_sliceA (lo := some (.tmp 53)) (hi := none) (vlo := (some (.int .i64 ((j : Nat) : Int)))) (vhi := none) (kd := .i64) (kd' := .i64) (st_yield hR153 rfl (by decide)) hR153 rfl rfl rfl rfl rfl (j) ((t.length) - (j)) (.inl (by first | rfl | (congr 2; omega))) (.inr ⟨rfl, by omega⟩) Tryd.underlying22 sz32 (by omega) (by decide) (fun _ h => ⟨h.get _ _ (by decide) rfl, rfl⟩)) hSw133 (fun a156 hR157 => ?_)
      refine d_take (i := 10) rfl (by kernel_rfl) (by kernel_rfl) (by kernel_rfl) (fun c a w h => hP131 c _ _ _ _ h) rfl (by decide) hR157 (want_n rfl) (fun x hx => r_len (st_yield hR157 rfl (by decide)) hR157 rfl rfl rfl rfl Tryd.underlying22 (by decide) (fun _ h => ⟨h.get _ _ (by decide) rfl, rfl⟩)) hSw133 (fun a158 hR159 => ?_)
      refine d_take (i := 11) rfl (by kernel_rfl) (by kernel_rfl) (by kernel_rfl) (fun c a w h => hP131 c _ _ _ _ h) rfl (by decide) hR159 (want_n rfl) (fun x hx => r_add (z := (((i : Nat) : Int) + ((v.length : Nat) : Int) + ((t.length : Nat) : Int) - ((j : Nat) : Int))) (st_yield hR159 rfl (by decide)) hR159 rfl rfl rfl rfl (by decide) (by omega) (by omega) (by omega) (fun _ h => ⟨h.get _ _ (by decide) rfl, rfl⟩)) hSw133 (fun a160 hR161 => ?_)
      refine d_take (i := 12) rfl (by kernel_rfl) (by kernel_rfl) (by kernel_rfl) (fun c a w h => hP131 c _ _ _ _ h) rfl (by decide) hR161 (want_n rfl) (fun x hx => r_assign (st_yield hR161 rfl (by decide)) hR161 rfl rfl rfl (by decide) (fun _ h => ⟨h.get _ _ (by decide) rfl, rfl⟩)) hSw133 (fun a162 hR163 => ?_)
      refine wpAnyH_done (by kernel_rfl) (hN132 _ _ ?_) _
      refine x_then_n (hK124 _ _ ?_)
      refine wp_seq_k (fun K164 hK165 => ?_)
      refine wp_seq_k (fun K166 hK167 => ?_)
      refine c_region ?_
      refine r_move (st_listV rfl) hR163 rfl rfl rfl (by decide) (fun a168 hR169 => ?_)
      refine r_move (st_listV rfl) hR169 rfl rfl rfl (by decide) (fun a170 hR171 => ?_)
      refine r_cap (st_listV rfl) hR171 rfl rfl rfl rfl Tryd.underlying22 (by decide) (fun a172 hR173 => ?_)
      refine r_gtr (st_listV rfl) hR173 rfl rfl rfl rfl (by decide) (fun a174 hR175 => ?_)
      refine wpList_nil ?_
      refine x_then_n (hK167 _ _ ?_)
      rcases Decidable.em (((tc : Nat) : Int) < (((i : Nat) : Int) + ((v.length : Nat) : Int) + ((t.length : Nat) : Int) - ((j : Nat) : Int))) with h176 | h176
      · skip
        exfalso; omega
      · skip
        have hR177 := hR175.setb (d := 60) (b := false) rfl (decide_eq_false h176)
        refine wp_cond_false (hR177.ev rfl) ?_
        refine wp_skip ?_
        refine x_then_n (hK165 _ _ ?_)
        refine wp_seq_k (fun K178 hK179 => ?_)
        refine c_region ?_
        refine r_move (st_listV rfl) hR177 rfl rfl rfl (by decide) (fun a180 hR181 => ?_)
        refine r_move (st_listV rfl) hR181 rfl rfl rfl (by decide) (fun a182 hR183 => ?_)
        have hcap186 := own_cap (hS129.res (i := 0) rfl)
        refine m_sliceP (q := (i + v.length + t.length) - (j)) (st_listV rfl) hR183 rfl rfl rfl rfl (by omega) Tryd.underlying22 sz32 (by omega) (by decide) (fun a187 hR188 => ?_)
        refine r_assign (st_listV rfl) hR188 rfl rfl rfl (by decide) (fun a189 hR190 => ?_)
        refine wpList_nil ?_
        refine x_then_n (hK179 _ _ ?_)
        refine wp_seq_k (fun K191 hK192 => ?_)
        refine wp_seq_k (fun K193 hK194 => ?_)
        refine c_region ?_
        refine r_move (st_listV rfl) hR190 rfl rfl rfl (by decide) (fun a195 hR196 => ?_)
        refine r_move (st_listV rfl) hR196 rfl rfl rfl (by decide) (fun a197 hR198 => ?_)
        refine r_len (st_listV rfl) hR198 rfl rfl rfl rfl Tryd.underlying22 (by decide) (fun a199 hR200 => ?_)
        refine r_add (z := ((i + v.length : Nat) : Int)) (st_listV rfl) hR200 rfl rfl rfl rfl (by decide) (by omega) (by omega) (by omega) (fun a201 hR202 => ?_)
        refine r_move (st_listV rfl) hR202 rfl rfl rfl (by decide) (fun a203 hR204 => ?_)
        refine r_leq (st_listV rfl) hR204 rfl rfl rfl rfl (by decide) (fun a205 hR206 => ?_)
        refine wpList_nil ?_
        refine x_then_n (hK194 _ _ ?_)
        rcases Decidable.em (((i + v.length : Nat) : Int) ≤ ((j : Nat) : Int)) with h207 | h207
        · skip
          have hR208 := hR206.setb (d := 92) (b := true) rfl (decide_eq_true h207)
          refine wp_cond_true (hR208.ev rfl) ?_
          refine wp_seq_k (fun K209 hK210 => ?_)
          refine c_region ?_
          refine r_move (st_listV rfl) hR208 rfl rfl rfl (by decide) (fun a211 hR212 => ?_)
          refine r_move (st_listV rfl) hR212 rfl rfl rfl (by decide) (fun a213 hR214 => ?_)
          have hcap221 := own_cap (hS129.res (i := 0) rfl)
          refine m_sliceV (lo := some (.tmp 94)) (hi := none) (vlo := (some (.int .i64 ((i : Nat) : Int)))) (vhi := none) (kd := .i64) (kd' := .i64) (st_listV rfl) hR214 rfl rfl rfl rfl rfl (i) ((v.length + t.length) - (j)) (.inl (by first | rfl | (congr 2; omega))) (.inr ⟨rfl, by omega⟩) Tryd.underlying22 sz32 (by omega) (by decide) (fun a215 A217 c218 hc219 hv220 hR216 => ?_)
          refine r_move (st_listV rfl) hR216 rfl rfl rfl (by decide) (fun a222 hR223 => ?_)
          have hk228 : (v).length = Nat.min (v.length) ((v.length + t.length) - (j)) := by show _ = min _ _; first | omega | (simp only [List.length_append, List.length_take, List.length_drop, List.length_cons, List.length_nil]; omega)
          have := Nat.min_le_right (v.length) ((v.length + t.length) - (j))
          refine m_copy (f := encN) (i := 0) (L := t) (K := v) (k := i) (st_listV rfl) hR223 hS129 rfl rfl rfl rfl rfl hv220 (by omega) Tryd.underlying22 sz32 encN_len (one1 (f := encN) encN_one) hk228 (hS129.row (i := 0) rfl).2.news _ rfl (by decide) (fun a224 w225 hR226 hS227 => ?_)
          have hl229 : (t.take (i) ++ v ++ t.drop (i + v.length)).length = (t).length := by simp only [List.length_append, List.length_take, List.length_drop]; omega
          refine wpList_nil ?_
          refine x_then_n (hK210 _ _ ?_)
          refine wp_seq_k (fun K230 hK231 => ?_)
          obtain ⟨J232, hJ233, hS234⟩ := hS227.agree
          refine d_region2 (S := (fun x => (w225.heap.size ≤ x.heap.size ∧ ∀ k, J232 k → x.heap[k]? = w225.heap[k]?) ∧ (True))) (n := 10) mixed rfl hS234 (pan_then (pan_then pan_body)) (fun Q237 hP238 hN239 w235 hS236 => ?_)
          have hSw240 : (w225.heap.size ≤ w235.heap.size ∧ ∀ k, J232 k → w235.heap[k]? = w225.heap[k]?) ∧ (True) := ⟨⟨(hS236.get (i := 2) rfl).1, fun k hk => ((hS236.get (i := 2) rfl).2 k hk).2⟩, trivial⟩
          refine d_take (i := 0) rfl (by kernel_rfl) (by kernel_rfl) (by kernel_rfl) (fun c a w h => hP238 c _ _ _ _ h) rfl (by decide) hR226 (want_n rfl) (fun x hx => r_move (st_yield hR226 rfl (by decide)) hR226 rfl rfl rfl (by decide) (fun _ h => ⟨h.get _ _ (by decide) rfl, rfl⟩)) hSw240 (fun a241 hR242 => ?_)
          refine d_take (i := 1) rfl (by kernel_rfl) (by kernel_rfl) (by kernel_rfl) (fun c a w h => hP238 c _ _ _ _ h) rfl (by decide) hR242 (want_n rfl) (fun x hx => r_move (st_yield hR242 rfl (by decide)) hR242 rfl rfl rfl (by decide) (fun _ h => ⟨h.get _ _ (by decide) rfl, rfl⟩)) hSw240 (fun a243 hR244 => ?_)
          refine d_take (i := 2) rfl (by kernel_rfl) (by kernel_rfl) (by kernel_rfl) (fun c a w h => hP238 c _ _ _ _ h) rfl (by decide) hR244 (want_n rfl) (fun x hx => r_move (st_yield hR244 rfl (by decide)) hR244 rfl rfl rfl (by decide) (fun _ h => ⟨h.get _ _ (by decide) rfl, rfl⟩)) hSw240 (fun a245 hR246 => ?_)
          refine d_take (i := 3) rfl (by kernel_rfl) (by kernel_rfl) (by kernel_rfl) (fun c a w h => hP238 c _ _ _ _ h) rfl (by decide) hR246 (want_n rfl) (fun x hx => r_len (st_yield hR246 rfl (by decide)) hR246 rfl rfl rfl rfl Tryd.underlying22 (by decide) (fun _ h => ⟨h.get _ _ (by decide) rfl, rfl⟩)) hSw240 (fun a247 hR248 => ?_)
          refine d_take (i := 4) rfl (by kernel_rfl) (by kernel_rfl) (by kernel_rfl) (fun c a w h => hP238 c _ _ _ _ h) rfl (by decide) hR248 (want_n rfl) (fun x hx => r_add (z := ((i + v.length : Nat) : Int)) (st_yield hR248 rfl (by decide)) hR248 rfl rfl rfl rfl (by decide) (by omega) (by omega) (by omega) (fun _ h => ⟨h.get _ _ (by decide) rfl, rfl⟩)) hSw240 (fun a249 hR250 => ?_)
          refine d_take (i := 5) rfl (by kernel_rfl) (by kernel_rfl) (by kernel_rfl) (fun c a w h => hP238 c _ _ _ _ h) rfl (by decide) hR250 (want_n rfl) (fun x hx => m_sliceA (lo := some (.tmp 102)) (hi := none) (vlo := (some (.int .i64 ((i + v.length : Nat) : Int)))) (vhi := none) (kd := .i64) (kd' := .i64) (st_yield hR250 rfl (by decide)) hR250 rfl rfl rfl rfl rfl (i + v.length) ((t.length) - (j)) (.inl (by first | rfl | (congr 2; omega))) (.inr ⟨rfl, by omega⟩) Tryd.underlying22 sz32 (by omega) (by decide) (fun _ h => ⟨h.get _ _ (by decide) rfl, rfl⟩)) hSw240 (fun a253 hR254 => ?_)
          refine d_take (i := 6) rfl (by kernel_rfl) (by kernel_rfl) (by kernel_rfl) (fun c a w h => hP238 c _ _ _ _ h) rfl (by decide) hR254 (want_n rfl) (fun x hx => r_move (st_yield hR254 rfl (by decide)) hR254 rfl rfl rfl (by decide) (fun _ h => ⟨h.get _ _ (by decide) rfl, rfl⟩)) hSw240 (fun a255 hR256 => ?_)
          refine d_take (i := 7) rfl (by kernel_rfl) (by kernel_rfl) (by kernel_rfl) (fun c a w h => hP238 c _ _ _ _ h) rfl (by decide) hR256 (want_n rfl) (fun x hx => r_move (st_yield hR256 rfl (by decide)) hR256 rfl rfl rfl (by decide) (fun _ h => ⟨h.get _ _ (by decide) rfl, rfl⟩)) hSw240 (fun a257 hR258 => ?_)
          refine d_take (i := 8) rfl (by kernel_rfl) (by kernel_rfl) (by kernel_rfl) (fun c a w h => hP238 c _ _ _ _ h) rfl (by decide) hR258 (want_n rfl) (fun x hx => m_sliceA (lo := some (.tmp 105)) (hi := none) (vlo := (some (.int .i64 ((j : Nat) : Int)))) (vhi := none) (kd := .i64) (kd' := .i64) (st_yield hR258 rfl (by decide)) hR258 rfl rfl rfl rfl rfl (j) ((t.length) - (j)) (.inl (by first | rfl | (congr 2; omega))) (.inr ⟨rfl, by omega⟩) Tryd.underlying22 sz32 (by omega) (by decide) (fun _ h => ⟨h.get _ _ (by decide) rfl, rfl⟩)) hSw240 (fun a261 hR262 => ?_)
          refine d_one (i := 9) (by kernel_rfl) ?_
          have hk267 : (((t.take (i) ++ v ++ t.drop (i + v.length)).drop (j)).take ((t.length) - (j))).length = Nat.min ((t.length) - (j)) ((t.length) - (j)) := by show _ = min _ _; first | omega | (simp only [List.length_append, List.length_take, List.length_drop, List.length_cons, List.length_nil]; omega)
          have := Nat.min_le_right ((t.length) - (j)) ((t.length) - (j))
          refine m_copy (f := encN) (i := 0) (L := (t.take (i) ++ v ++ t.drop (i + v.length))) (K := (((t.take (i) ++ v ++ t.drop (i + v.length)).drop (j)).take ((t.length) - (j)))) (k := (i + v.length)) (st_opV rfl (want_n rfl)) hR262 hS236 rfl rfl rfl rfl rfl (cut_A (by omega)) (by omega) Tryd.underlying22 sz32 encN_len (one1 (f := encN) encN_one) hk267 (own_cut_cells (f := encN) (i := 0) (L := (t.take (i) ++ v ++ t.drop (i + v.length))) (k := j) (q := (t.length) - (j)) hS236 rfl (cut_A (by omega)) encN_len (by omega)) _ rfl (by decide) (fun a263 w264 hR265 hS266 => ?_)
          have hl268 : ((t.take (i) ++ v ++ t.drop (i + v.length)).take (i + v.length) ++ (((t.take (i) ++ v ++ t.drop (i + v.length)).drop (j)).take ((t.length) - (j))) ++ (t.take (i) ++ v ++ t.drop (i + v.length)).drop ((i + v.length) + (((t.take (i) ++ v ++ t.drop (i + v.length)).drop (j)).take ((t.length) - (j))).length)).length = (t.take (i) ++ v ++ t.drop (i + v.length)).length := by simp only [List.length_append, List.length_take, List.length_drop]; omega
          have hSw269 : (w225.heap.size ≤ w264.heap.size ∧ ∀ k, J232 k → w264.heap[k]? = w225.heap[k]?) ∧ (True) := ⟨⟨(hS266.get (i := 2) rfl).1, fun k hk => ((hS266.get (i := 2) rfl).2 k hk).2⟩, trivial⟩
          refine ⟨hSw269, ?_⟩
          refine wpAnyH_done (by kernel_rfl) (hN239 _ _ ?_) _
          refine x_then_n (hK231 _ _ ?_)
          refine wp_seq_k (fun K270 hK271 => ?_)
          refine c_region ?_
          refine r_move (st_listV rfl) hR265 rfl rfl rfl (by decide) (fun a272 hR273 => ?_)
          refine r_move (st_listV rfl) hR273 rfl rfl rfl (by decide) (fun a274 hR275 => ?_)
          have hcap282 := own_cap (hS266.res (i := 0) rfl)
          refine m_sliceV (lo := some (.tmp 109)) (hi := none) (vlo := (some (.int .i64 (((i : Nat) : Int) + ((v.length : Nat) : Int) + ((t.length : Nat) : Int) - ((j : Nat) : Int))))) (vhi := none) (kd := .i64) (kd' := .i64) (st_listV rfl) hR275 rfl rfl rfl rfl rfl ((i + v.length + t.length) - (j)) ((j) - (i + v.length)) (.inl (by first | rfl | (congr 2; omega))) (.inr ⟨rfl, by omega⟩) Tryd.underlying22 sz32 (by omega) (by decide) (fun a276 A278 c279 hc280 hv281 hR277 => ?_)
          refine m_clear (f := encN) (i := 0) (L := ((t.take (i) ++ v ++ t.drop (i + v.length)).take (i + v.length) ++ (((t.take (i) ++ v ++ t.drop (i + v.length)).drop (j)).take ((t.length) - (j))) ++ (t.take (i) ++ v ++ t.drop (i + v.length)).drop ((i + v.length) + (((t.take (i) ++ v ++ t.drop (i + v.length)).drop (j)).take ((t.length) - (j))).length))) (k := ((i + v.length + t.length) - (j))) (z0 := (⟨0, 0, 0, (⟨#[]⟩ : ByteArray)⟩ : Nd)) (st_listV rfl) hR277 hS266 rfl rfl rfl rfl hv281 (by omega) Tryd.underlying22 zi32 encN_len (one1 (f := encN) encN_one) rfl _ rfl (fun a283 w284 hR285 hS286 => ?_)
          have hl287 : (((t.take (i) ++ v ++ t.drop (i + v.length)).take (i + v.length) ++ (((t.take (i) ++ v ++ t.drop (i + v.length)).drop (j)).take ((t.length) - (j))) ++ (t.take (i) ++ v ++ t.drop (i + v.length)).drop ((i + v.length) + (((t.take (i) ++ v ++ t.drop (i + v.length)).drop (j)).take ((t.length) - (j))).length)).take ((i + v.length + t.length) - (j)) ++ List.replicate ((j) - (i + v.length)) (⟨0, 0, 0, (⟨#[]⟩ : ByteArray)⟩ : Nd) ++ ((t.take (i) ++ v ++ t.drop (i + v.length)).take (i + v.length) ++ (((t.take (i) ++ v ++ t.drop (i + v.length)).drop (j)).take ((t.length) - (j))) ++ (t.take (i) ++ v ++ t.drop (i + v.length)).drop ((i + v.length) + (((t.take (i) ++ v ++ t.drop (i + v.length)).drop (j)).take ((t.length) - (j))).length)).drop (((i + v.length + t.length) - (j)) + ((j) - (i + v.length))) : List Nd).length = ((t.take (i) ++ v ++ t.drop (i + v.length)).take (i + v.length) ++ (((t.take (i) ++ v ++ t.drop (i + v.length)).drop (j)).take ((t.length) - (j))) ++ (t.take (i) ++ v ++ t.drop (i + v.length)).drop ((i + v.length) + (((t.take (i) ++ v ++ t.drop (i + v.length)).drop (j)).take ((t.length) - (j))).length)).length := by simp only [List.length_append, List.length_take, List.length_drop, List.length_replicate]; omega
          refine wpList_nil ?_
          refine x_then_n (hK271 _ _ ?_)
          refine wp_seq_k (fun K288 hK289 => ?_)
          refine c_region ?_
          refine r_move (st_listV rfl) hR285 rfl rfl rfl (by decide) (fun a290 hR291 => ?_)
          refine r_assign (st_listV rfl) hR291 rfl rfl rfl (by decide) (fun a292 hR293 => ?_)
          refine wpList_nil ?_
          refine x_then_n (hK289 _ _ ?_)
          refine wp_ret ?_
          refine x_then_r ?_
          refine e_ret1 hR293 rfl rfl rfl ?_
          have hS294 := hS286.trim encN_len (i := 0) (L := (((t.take (i) ++ v ++ t.drop (i + v.length)).take (i + v.length) ++ (((t.take (i) ++ v ++ t.drop (i + v.length)).drop (j)).take ((t.length) - (j))) ++ (t.take (i) ++ v ++ t.drop (i + v.length)).drop ((i + v.length) + (((t.take (i) ++ v ++ t.drop (i + v.length)).drop (j)).take ((t.length) - (j))).length)).take ((i + v.length + t.length) - (j)) ++ List.replicate ((j) - (i + v.length)) (⟨0, 0, 0, (⟨#[]⟩ : ByteArray)⟩ : Nd) ++ ((t.take (i) ++ v ++ t.drop (i + v.length)).take (i + v.length) ++ (((t.take (i) ++ v ++ t.drop (i + v.length)).drop (j)).take ((t.length) - (j))) ++ (t.take (i) ++ v ++ t.drop (i + v.length)).drop ((i + v.length) + (((t.take (i) ++ v ++ t.drop (i + v.length)).drop (j)).take ((t.length) - (j))).length)).drop (((i + v.length + t.length) - (j)) + ((j) - (i + v.length))))) rfl ((i + v.length + t.length) - (j)) (by omega)
          have he295 : (((t.take (i) ++ v ++ t.drop (i + v.length)).take (i + v.length) ++ (((t.take (i) ++ v ++ t.drop (i + v.length)).drop (j)).take ((t.length) - (j))) ++ (t.take (i) ++ v ++ t.drop (i + v.length)).drop ((i + v.length) + (((t.take (i) ++ v ++ t.drop (i + v.length)).drop (j)).take ((t.length) - (j))).length)).take ((i + v.length + t.length) - (j)) ++ List.replicate ((j) - (i + v.length)) (⟨0, 0, 0, (⟨#[]⟩ : ByteArray)⟩ : Nd) ++ ((t.take (i) ++ v ++ t.drop (i + v.length)).take (i + v.length) ++ (((t.take (i) ++ v ++ t.drop (i + v.length)).drop (j)).take ((t.length) - (j))) ++ (t.take (i) ++ v ++ t.drop (i + v.length)).drop ((i + v.length) + (((t.take (i) ++ v ++ t.drop (i + v.length)).drop (j)).take ((t.length) - (j))).length)).drop (((i + v.length + t.length) - (j)) + ((j) - (i + v.length)))).take ((i + v.length + t.length) - (j)) = t.take i ++ v ++ t.drop j := rep_mid2 (by omega) (by omega) (by omega) rfl rfl rfl rfl
          have hS296 := hS294
          rw [he295] at hS296
          refine ⟨?_, hS296.fr, hS296.res (i := 0) rfl⟩
          exact congrArg Ending.returned (ret_s (by first | rfl | (exact congrArg List.length he295; done) | (rw [← he295]; simp; done) | (rw [← he295]; simp; omega) | omega))
        · skip
          exfalso; omega
end Go.Proofs.YtobgdeffhdefeaaDoor
/- Contracts of functions, one theorem each: what the call returns, and that nothing old is changed. Printed by gen.py. -/
namespace Go.Proofs.YtobgdeffhdefeaaDoor
open Go Go.RowKit
set_option linter.unusedSimpArgs false
set_option linter.unusedVariables false

set_option maxRecDepth 100000 in
set_option maxHeartbeats 1000000 in
theorem proofsMk_calls (w0 : World) (Z : Nat → Prop) (hZ : ∀ k, Z k → k < w0.heap.size) (tA : Option Addr) (tc : Nat) (t : List Nd) (ht : (dRow 4 tA t.length tc (encNs t)).φ w0 Z) (hl : t.length ≤ 1000000) :
    Calls Tryd.prog 52 [.slice tA t.length tc].toArray w0 (fun e w' => ∃ q0_0 : Nat, e = .returned (.func (.func 70) #[] #[.pointer (some ⟨q0_0, 0, none⟩)]) ∧ Fr none_ w0 w' ∧ (dBox q0_0 [.slice tA t.length tc]).φ w' (nxt Z w0 w')) := by
  have hstart : ∀ k, Z k → imm Z w0 [] w0 k ∧ w0.heap[k]? = w0.heap[k]? := fun k hk => ⟨⟨hZ k hk, fun _ => hk, fun _ h => by cases h⟩, rfl⟩
  have hS3 : St w0 Z none_ w0 [] [dRow 4 tA t.length tc (encNs t)] := St.start w0 Z none_ _ (by
    intro d hd
    simp only [List.mem_cons, List.not_mem_nil, or_false] at hd
    rcases hd with rfl
    · exact Dat.mono _ _ _ _ _ (Nat.le_refl _) ht hstart
    )
  refine c_enter Tryd.func52 rfl Tryd.ntmps52 rfl (fun a1 hR2 => ?_)
  refine wp_seq_k (fun K4 hK5 => ?_)
  refine c_region ?_
  refine m_box (cs := [.slice tA t.length tc]) (st_listV rfl) hR2 hS3 rfl rfl rfl rfl (by decide) (fun a6 w7 g8 hR9 hS10 => ?_)
  refine r_assign (st_listV rfl) hR9 rfl rfl rfl (by decide) (fun a11 hR12 => ?_)
  refine wpList_nil ?_
  refine x_then_n (hK5 _ _ ?_)
  refine wp_seq_k (fun K13 hK14 => ?_)
  refine c_region ?_
  refine r_makeFunc (st_listV rfl) hR12 rfl rfl rfl (by decide) (fun a15 hR16 => ?_)
  refine r_assign (st_listV rfl) hR16 rfl rfl rfl (by decide) (fun a17 hR18 => ?_)
  refine wpList_nil ?_
  refine x_then_n (hK14 _ _ ?_)
  refine wp_ret ?_
  refine e_ret1 hR18 rfl rfl rfl ?_
  obtain ⟨hS19, hbx20⟩ := hS10.box_data (i := 0) rfl (fun _ h => h)
  have hS21 := hS19.data (dBox g8 [.slice tA t.length tc]) hbx20
  refine ⟨g8, ?_, hS21.fr, ((hS21.get (i := 1) rfl).imp imm_nxt id)⟩
  exact congrArg Ending.returned rfl

set_option maxRecDepth 100000 in
set_option maxHeartbeats 1000000 in
theorem nodesMk_calls (w0 : World) (Z : Nat → Prop) (hZ : ∀ k, Z k → k < w0.heap.size) (tA : Option Addr) (tc : Nat) (t : List Nd) (ht : (dRow 4 tA t.length tc (encNs t)).φ w0 Z) (hl : t.length ≤ 1000000) :
    Calls Tryd.prog 140 [.slice tA t.length tc].toArray w0 (fun e w' => ∃ q0_0 : Nat, e = .returned (.func (.func 146) #[] #[.pointer (some ⟨q0_0, 0, none⟩)]) ∧ Fr none_ w0 w' ∧ (dBox q0_0 [.slice tA t.length tc]).φ w' (nxt Z w0 w')) := by
  have hstart : ∀ k, Z k → imm Z w0 [] w0 k ∧ w0.heap[k]? = w0.heap[k]? := fun k hk => ⟨⟨hZ k hk, fun _ => hk, fun _ h => by cases h⟩, rfl⟩
  have hS3 : St w0 Z none_ w0 [] [dRow 4 tA t.length tc (encNs t)] := St.start w0 Z none_ _ (by
    intro d hd
    simp only [List.mem_cons, List.not_mem_nil, or_false] at hd
    rcases hd with rfl
    · exact Dat.mono _ _ _ _ _ (Nat.le_refl _) ht hstart
    )
  refine c_enter Tryd.func140 rfl Tryd.ntmps140 rfl (fun a1 hR2 => ?_)
  refine wp_seq_k (fun K4 hK5 => ?_)
  refine c_region ?_
  refine m_box (cs := [.slice tA t.length tc]) (st_listV rfl) hR2 hS3 rfl rfl rfl rfl (by decide) (fun a6 w7 g8 hR9 hS10 => ?_)
  refine r_assign (st_listV rfl) hR9 rfl rfl rfl (by decide) (fun a11 hR12 => ?_)
  refine wpList_nil ?_
  refine x_then_n (hK5 _ _ ?_)
  refine wp_seq_k (fun K13 hK14 => ?_)
  refine c_region ?_
  refine r_makeFunc (st_listV rfl) hR12 rfl rfl rfl (by decide) (fun a15 hR16 => ?_)
  refine r_assign (st_listV rfl) hR16 rfl rfl rfl (by decide) (fun a17 hR18 => ?_)
  refine wpList_nil ?_
  refine x_then_n (hK14 _ _ ?_)
  refine wp_ret ?_
  refine e_ret1 hR18 rfl rfl rfl ?_
  obtain ⟨hS19, hbx20⟩ := hS10.box_data (i := 0) rfl (fun _ h => h)
  have hS21 := hS19.data (dBox g8 [.slice tA t.length tc]) hbx20
  refine ⟨g8, ?_, hS21.fr, ((hS21.get (i := 1) rfl).imp imm_nxt id)⟩
  exact congrArg Ending.returned rfl
end Go.Proofs.YtobgdeffhdefeaaDoor
/- Contracts of functions, one theorem each: what the call returns, and that nothing old is changed. Printed by gen.py. -/
namespace Go.Proofs.YtobgdeffhdefeaaDoor
open Go Go.RowKit
set_option linter.unusedSimpArgs false
set_option linter.unusedVariables false

set_option maxRecDepth 100000 in
set_option maxHeartbeats 1000000 in
theorem erase_calls (w0 : World) (Z : Nat → Prop) (hZ : ∀ k, Z k → k < w0.heap.size) (tA : Option Addr) (tc : Nat) (t : List Nd) (hShp : Shapes w0 Z) (ht : (dRow 4 tA t.length tc (encNs t)).φ w0 Z) (hsm : sml t) (hl : t.length ≤ 1000000) :
    Calls Tryd.prog 28 [.slice tA t.length tc].toArray w0 (fun e w' => ∃ (rA0 : Option Addr) (rc0 : Nat), e = .returned (.tuple #[.slice rA0 (erA t).length rc0, .int .i64 (chk t)]) ∧ Fr none_ w0 w' ∧ (dRow 4 rA0 ((erA t).length) rc0 (encNs (erA t))).φ w' (nxt Z w0 w')) := by
  have hstart : ∀ k, Z k → imm Z w0 [] w0 k ∧ w0.heap[k]? = w0.heap[k]? := fun k hk => ⟨⟨hZ k hk, fun _ => hk, fun _ h => by cases h⟩, rfl⟩
  have hS3 : St w0 Z none_ w0 [] [dShapes, dRow 4 tA t.length tc (encNs t)] := St.start w0 Z none_ _ (by
    intro d hd
    simp only [List.mem_cons, List.not_mem_nil, or_false] at hd
    rcases hd with rfl | rfl
    · exact Dat.mono _ _ _ _ _ (Nat.le_refl _) hShp hstart
    · exact Dat.mono _ _ _ _ _ (Nat.le_refl _) ht hstart
    )
  refine c_enterM Tryd.func28 rfl Tryd.ntmps28 rfl (fun a1 hR2 => ?_)
  refine wp_seq_k (fun K4 hK5 => ?_)
  refine c_region ?_
  refine r_assign (st_listV rfl) hR2 rfl rfl rfl (by decide) (fun a6 hR7 => ?_)
  refine r_assign (st_listV rfl) hR7 rfl rfl rfl (by decide) (fun a8 hR9 => ?_)
  refine wpList_nil ?_
  refine x_then_n (hK5 _ _ ?_)
  refine wp_seq_k (fun K10 hK11 => ?_)
  refine wp_seq_k (fun K12 hK13 => ?_)
  refine c_region ?_
  refine r_move (st_listV rfl) hR9 rfl rfl rfl (by decide) (fun a14 hR15 => ?_)
  have hS16 : St w0 Z none_ w0 [] [dShapes, dRow 4 tA t.length tc (encNs t)] := hS3
  refine k_call (xs := [.tmp 8]) (st_list rfl) hR15 rfl rfl rfl (by decide) ok44 (check_calls _ (imm Z w0 [] _) (fun _ h => h.1) tA tc t (hS16.get (i := 0) rfl) (hS16.get (i := 1) rfl) (by first | assumption | omega | (simp; done) | (simp; omega)) (by first | assumption | omega | (simp; done) | (simp; omega))) ?_
  rintro e23 w18 ⟨rfl, hf21⟩
  have hS24 := hS16.below hf21.below
  refine ⟨_, rfl, fun a17 hR19 => ?_⟩
  refine r_assign (st_listV rfl) hR19 rfl rfl rfl (by decide) (fun a25 hR26 => ?_)
  refine wpList_nil ?_
  refine x_then_n (hK13 _ _ ?_)
  refine wp_seq_k (fun K27 hK28 => ?_)
  refine c_region ?_
  refine r_move (st_listV rfl) hR26 rfl rfl rfl (by decide) (fun a29 hR30 => ?_)
  refine r_neq (st_listV rfl) hR30 rfl rfl rfl rfl (by decide) (fun a31 hR32 => ?_)
  refine wpList_nil ?_
  refine x_then_n (hK28 _ _ ?_)
  rcases Decidable.em (((chk t)) = 0) with h33 | h33
  · skip
    have hR34 := hR32.setb (d := 11) (b := false) rfl (by rw [(decide_eq_true h33)]; rfl)
    refine wp_cond_false (hR34.ev rfl) ?_
    refine wp_skip ?_
    refine x_then_n (hK11 _ _ ?_)
    refine wp_seq_k (fun K35 hK36 => ?_)
    refine c_region ?_
    refine r_move (st_listV rfl) hR34 rfl rfl rfl (by decide) (fun a37 hR38 => ?_)
    have hS39 : St w0 Z none_ w18 [] [dShapes, dRow 4 tA t.length tc (encNs t)] := hS24
    refine k_call (xs := [.tmp 13]) (st_list rfl) hR38 rfl rfl rfl (by decide) ok51 (cloneN_calls _ (imm Z w0 [] _) (fun _ h => h.1) tA tc t (hS39.get (i := 1) rfl) (by first | assumption | omega | (simp; done) | (simp; omega))) ?_
    rintro e50 w41 ⟨A45, c46, rfl, hf44, hd47, hf48⟩
    have hS51 := hS39.callO hf44 hd47 hf48
    refine ⟨_, rfl, fun a40 hR42 => ?_⟩
    refine m_alloc (cs := [.slice none 0 0]) (st_listV rfl) hR42 hS51 rfl rfl ze22 rfl (by decide) (fun a52 w53 g54 hR55 hS56 => ?_)
    refine m_store (i := 1) (cs' := [.slice A45 t.length c46]) (st_list rfl) hR55 hS56 rfl rfl rfl rfl rfl sz22 rfl rfl rfl (fun a57 w58 hR59 hS60 => ?_)
    refine wpList_nil ?_
    refine x_then_n (hK36 _ _ ?_)
    refine wp_seq_k (fun K61 hK62 => ?_)
    refine wp_seq_k (fun K63 hK64 => ?_)
    refine c_region ?_
    refine r_move (st_listV rfl) hR59 rfl rfl rfl (by decide) (fun a65 hR66 => ?_)
    have hS67 : St w0 Z none_ w58 [.row A45 t.length c46 32 4 (encNs t), .box g54 22 [.slice A45 t.length c46]] [dShapes, dRow 4 tA t.length tc (encNs t)] := hS60
    refine k_call (xs := [.tmp 15]) (st_list rfl) hR66 rfl rfl rfl (by decide) ok52 (proofsMk_calls _ (imm Z w0 [.row A45 t.length c46 32 4 (encNs t), .box g54 22 [.slice A45 t.length c46]] _) (fun _ h => h.1) tA tc t (hS67.get (i := 1) rfl) (by first | assumption | omega | (simp; done) | (simp; omega))) ?_
    rintro e76 w69 ⟨q73, rfl, hf72, hd74⟩
    have hS77 := hS67.below hf72.below
    have hS78 := hS77.data (dBox q73 [.slice tA t.length tc]) (hd74.imp (fun hk => nxt_imm hS67 hk) id)
    refine ⟨_, rfl, fun a68 hR70 => ?_⟩
    refine wpList_nil ?_
    refine x_then_n (hK64 _ _ ?_)
    refine wp_block ?_
    have hS79 : St w0 Z none_ w69 [.row A45 t.length c46 32 4 (encNs t), .box g54 22 [.slice A45 t.length c46]] [dShapes, dRow 4 tA t.length tc (encNs t), dBox q73 [.slice tA t.length tc]] := hS78
    have hR80 : Reg a68 27 [(1000000, .bool false), (2, .slice none 0 0), (3, .int .i64 0), (5, .pointer (some ⟨g54, 0, none⟩)), (16, .func (.func 70) #[] #[.pointer (some ⟨q73, 0, none⟩)])] := (Reg.cons hR70 (Reg.cons hR70 (Reg.cons hR70 (Reg.cons hR70 (Reg.cons hR70 (hR70.nil) rfl) rfl) rfl) rfl) rfl)
    refine w_range (xs := prfL t) (encs := (fun x : Int × Int => #[.int .i64 x.1, .int .i64 x.2])) (hR80.ev rfl) ok70 (proofs_yields _ (imm Z w0 [.row A45 t.length c46 32 4 (encNs t), .box g54 22 [.slice A45 t.length c46]] _) q73 tA tc t (hS79.get (i := 0) rfl) (hS79.get (i := 1) rfl) (hS79.get (i := 2) rfl) (by first | assumption | omega | (simp; done) | (simp; omega)) (by first | assumption | omega | (simp; done) | (simp; omega))) (fun _ => rfl) hS79 (fun _ h => h) (fun (pre : List (Int × Int)) (mm : List Res) => ∃ Ao : Option Addr, ∃ co : Nat, mm = [.row Ao ((repP t pre).length) co 32 4 (encNs (repP t pre)), .box g54 22 [.slice Ao ((repP t pre).length) co]]) (fun _ _ _ => False) ⟨A45, c46, rfl⟩ ?_ ?_ ?_
    · skip
      rintro l81 pre x w82 m1 hp ⟨Ao, co, rfl⟩ hS83
      obtain ⟨xi, xj, rfl, hxi, hxj, hxy⟩ := prfL_nat hp
      refine (?_ : ∀ a0, Reg a0 27 [(18, .int .i64 ((xj : Nat) : Int)), (17, .int .i64 ((xi : Nat) : Int)), (1000000, .bool false), (2, .slice none 0 0), (3, .int .i64 0), (5, .pointer (some ⟨g54, 0, none⟩)), (16, .func (.func 70) #[] #[.pointer (some ⟨q73, 0, none⟩)])] → Code.wpIn (rI l81) 0 _ _ _ a0 w82) _ (Reg.round2n hR80 (by decide) (by decide) rfl)
      intro a84 hR85
      have hpl := repP_le (List.IsPrefix.trans (List.prefix_append _ _) hp)
      have hpj := repP_len hxj hxy
      refine wpIn_seq_k (fun K86 hK87 => ?_)
      refine ci_region (by kernel_rfl) (out_then (out_then (fun _ _ h => h))) ?_
      refine r_assign (st_listV rfl) hR85 rfl rfl rfl (by decide) (fun a88 hR89 => ?_)
      refine wpList_nil ?_
      refine x_then_n (hK87 _ _ ?_)
      refine ci_region (by kernel_rfl) (out_then (fun _ _ h => h)) ?_
      refine r_assign (st_listV rfl) hR89 rfl rfl rfl (by decide) (fun a90 hR91 => ?_)
      refine wpList_nil ?_
      have hS92 : St w0 Z none_ w82 [.row Ao ((repP t pre).length) co 32 4 (encNs (repP t pre)), .box g54 22 [.slice Ao ((repP t pre).length) co]] [dShapes, dRow 4 tA t.length tc (encNs t), dBox q73 [.slice tA t.length tc], dAg w82 (imm Z w0 [.row Ao ((repP t pre).length) co 32 4 (encNs (repP t pre)), .box g54 22 [.slice Ao ((repP t pre).length) co]] w82)] := hS83
      refine x_then_n ⟨_, _, 3, hS92, rfl, (fun _ h => False.elim h), (fun _ h => False.elim h), fun w93 hS94 => ?_⟩
      refine wpIn_block ?_
      refine ci_region (by kernel_rfl) (out_block out_rPost) ?_
      refine m_load (i := 1) (st_listV rfl) hR91 hS94 rfl rfl rfl rfl rfl Tryd.underlying22 rfl (by decide) (fun a95 hR96 => ?_)
      refine r_move (st_listV rfl) hR96 rfl rfl rfl (by decide) (fun a97 hR98 => ?_)
      refine r_move (st_listV rfl) hR98 rfl rfl rfl (by decide) (fun a99 hR100 => ?_)
      refine r_add (z := ((xj + 1 : Nat) : Int)) (st_listV rfl) hR100 rfl rfl rfl rfl (by decide) (by omega) (by omega) (by omega) (fun a101 hR102 => ?_)
      refine m_build (ps := [(0, .const (.int .i64 29))]) (v := .agg #[.int .i64 29, .int .i64 0, .int .i64 0, .string (⟨#[]⟩ : ByteArray)]) (st_listV rfl) hR102 rfl rfl rfl (fun _ => by kernel_rfl) (by decide) (fun a103 hR104 => ?_)
      refine m_buildSlice (ps := [(0, .tmp 23)]) (cs := [.int .i64 29, .int .i64 0, .int .i64 0, .string (⟨#[]⟩ : ByteArray)]) (st_listV rfl) hR104 hS94 rfl rfl rfl Tryd.underlying22 zi32 rfl rfl (by kernel_rfl) rfl (by decide) (fun a105 w106 g107 hR108 hS109 => ?_)
      have hS110 : St w0 Z none_ w106 [.row Ao ((repP t pre).length) co 32 4 (encNs (repP t pre)), .box g54 22 [.slice Ao ((repP t pre).length) co], .row (some ⟨g107, 0, none⟩) 1 1 32 4 (encNs ([(⟨29, 0, 0, (⟨#[]⟩ : ByteArray)⟩ : Nd)]))] [dShapes, dRow 4 tA t.length tc (encNs t), dBox q73 [.slice tA t.length tc], dAg w93 (imm Z w0 [.row Ao ((repP t pre).length) co 32 4 (encNs (repP t pre)), .box g54 22 [.slice Ao ((repP t pre).length) co]] w93)] := hS109
      have hc114 := own_cap (hS110.res (i := 2) rfl)
      obtain ⟨hS111, hrow112⟩ := hS110.row_data (i := 2) rfl (fun _ h => h)
      have hS113 := hS111.data (dRow 4 (some ⟨g107, 0, none⟩) 1 1 (encNs ([(⟨29, 0, 0, (⟨#[]⟩ : ByteArray)⟩ : Nd)]))) ⟨hc114, hrow112⟩
      refine k_call (xs := [.tmp 19, .tmp 20, .tmp 22, .tmp 24]) (st_list rfl) hR108 rfl rfl rfl (by decide) ok53 (replace_calls _ (imm Z w0 [.row Ao ((repP t pre).length) co 32 4 (encNs (repP t pre)), .box g54 22 [.slice Ao ((repP t pre).length) co]] _) (fun _ h => h.1) Ao co (repP t pre) xi (xj + 1) (some ⟨g107, 0, none⟩) 1 ([(⟨29, 0, 0, (⟨#[]⟩ : ByteArray)⟩ : Nd)]) (hS113.res (i := 0) rfl) (imm_row (i := 0) rfl) (hS113.get (i := 4) rfl) (by first | assumption | omega | (simp; done) | (simp; omega)) (by first | assumption | omega | (simp; done) | (simp; omega)) (by first | assumption | omega | (simp; done) | (simp; omega)) (by first | assumption | omega | (simp; done) | (simp; omega))) ?_
      rintro e121 w116 ⟨rfl, hf119, hb120⟩
      have hS122 := hS113.callR (i := 0) rfl hf119 hb120
      refine ⟨_, rfl, fun a115 hR117 => ?_⟩
      refine m_store (i := 1) (cs' := [.slice Ao (((repP t pre).take xi ++ ([(⟨29, 0, 0, (⟨#[]⟩ : ByteArray)⟩ : Nd)]) ++ (repP t pre).drop (xj + 1)).length) co]) (st_list rfl) hR117 hS122 rfl rfl rfl rfl rfl sz22 rfl rfl rfl (fun a123 w124 hR125 hS126 => ?_)
      refine wpList_nil ?_
      refine x_block_n ?_
      have hS127 : St w0 Z none_ w124 [.row Ao (((repP t pre).take xi ++ ([(⟨29, 0, 0, (⟨#[]⟩ : ByteArray)⟩ : Nd)]) ++ (repP t pre).drop (xj + 1)).length) co 32 4 (encNs ((repP t pre).take xi ++ ([(⟨29, 0, 0, (⟨#[]⟩ : ByteArray)⟩ : Nd)]) ++ (repP t pre).drop (xj + 1))), .box g54 22 [.slice Ao (((repP t pre).take xi ++ ([(⟨29, 0, 0, (⟨#[]⟩ : ByteArray)⟩ : Nd)]) ++ (repP t pre).drop (xj + 1)).length) co]] [dShapes, dRow 4 tA t.length tc (encNs t), dBox q73 [.slice tA t.length tc], dAg w93 (imm Z w0 [.row Ao ((repP t pre).length) co 32 4 (encNs (repP t pre)), .box g54 22 [.slice Ao ((repP t pre).length) co]] w93), dRow 4 (some ⟨g107, 0, none⟩) 1 1 (encNs ([(⟨29, 0, 0, (⟨#[]⟩ : ByteArray)⟩ : Nd)]))] := hS126
      have he128 : (repP t pre).take xi ++ ([(⟨29, 0, 0, (⟨#[]⟩ : ByteArray)⟩ : Nd)]) ++ (repP t pre).drop (xj + 1) = repP t (pre ++ [(((xi : Nat) : Int), ((xj : Nat) : Int))]) := repP_step
      have hS129 := hS127
      rw [he128] at hS129
      exact ⟨_, _, 3, hS129, rfl, _, _, rfl⟩
    · skip
      rintro D130 m1 w131 ⟨Ao, co, rfl⟩ hS132
      have hR133 := Reg.marked hR80 D130
      refine x_block_n ?_
      refine x_then_n (hK62 _ _ ?_)
      refine wp_seq_k (fun K134 hK135 => ?_)
      refine c_region ?_
      refine m_load (i := 1) (st_listV rfl) hR133 hS132 rfl rfl rfl rfl rfl Tryd.underlying22 rfl (by decide) (fun a136 hR137 => ?_)
      refine r_assign (st_listV rfl) hR137 rfl rfl rfl (by decide) (fun a138 hR139 => ?_)
      refine r_assign (st_listV rfl) hR139 rfl rfl rfl (by decide) (fun a140 hR141 => ?_)
      refine wpList_nil ?_
      refine x_then_n (hK135 _ _ ?_)
      refine wp_ret ?_
      have hc145 := own_cap (hS132.res (i := 0) rfl)
      obtain ⟨hS142, hrow143⟩ := hS132.row_data (i := 0) rfl (fun _ h => h)
      have hS144 := hS142.data (dRow 4 Ao ((repP t (prfL t)).length) co (encNs (repP t (prfL t)))) ⟨hc145, hrow143⟩
      have hS146 : St w0 Z none_ w131 [.box g54 22 [.slice Ao ((repP t (prfL t)).length) co]] [dShapes, dRow 4 tA t.length tc (encNs t), dBox q73 [.slice tA t.length tc], dMark w0.heap.size D130, dRow 4 Ao ((repP t (prfL t)).length) co (encNs (repP t (prfL t)))] := hS144
      obtain ⟨hD147, hS148⟩ := hS146.shut (i := 3) rfl [dRow 4 Ao ((repP t (prfL t)).length) co (encNs (repP t (prfL t)))] (by intro d hd; simp only [List.mem_cons, List.not_mem_nil, or_false] at hd; rcases hd with rfl; exact ⟨List.mem_of_getElem? (i := 4) rfl, datC_row (by decide) _ _ _ _⟩)
      refine m_mark (.inl rfl) hR141 rfl hD147 (res2 hR141 rfl rfl rfl _) ?_
      have he149 : erA t = repP t (prfL t) := by rw [erA_ok (by assumption), ← era_eq (meas_chk (by assumption))]
      rw [he149]
      refine ⟨Ao, co, ?_, hS148.fr, ⟨by have := (hS148.row (i := 0) rfl).1; exact this, ((hS148.row (i := 0) rfl).2.mono (fun _ hk => ⟨imm_nxt hk, rfl⟩))⟩⟩
      exact ret_t2 rfl (ret_i (by first | rfl | omega | (have q0 := h33; (try simp at q0);  omega) | (simp [h33]; done) | (simp [] at *; done) | (simp [h33] <;> omega) | (rw [Bool.eq_iff_iff]; simp [h33] <;> omega) | (rw [Bool.eq_iff_iff]; simp [h33] at * <;> omega)))
    · skip
      rintro _ _ _ _ _ _ h _
      exact h.elim
  · skip
    have hR150 := hR32.setb (d := 11) (b := true) rfl (by rw [(decide_eq_false h33)]; rfl)
    refine wp_cond_true (hR150.ev rfl) ?_
    refine wp_seq_k (fun K151 hK152 => ?_)
    refine c_region ?_
    refine r_move (st_listV rfl) hR150 rfl rfl rfl (by decide) (fun a153 hR154 => ?_)
    refine r_assign (st_listV rfl) hR154 rfl rfl rfl (by decide) (fun a155 hR156 => ?_)
    refine r_assign (st_listV rfl) hR156 rfl rfl rfl (by decide) (fun a157 hR158 => ?_)
    refine wpList_nil ?_
    refine x_then_n (hK152 _ _ ?_)
    refine wp_ret ?_
    refine x_then_r ?_
    refine m_none (.inl rfl) hR158 rfl (res2 hR158 rfl rfl rfl _) ?_
    have he159 : erA t = [] := erA_no (by assumption)
    rw [he159]
    refine ⟨none, 0, ?_, hS24.fr, ⟨Nat.le_refl _, RowI.nil _ _ _ _⟩⟩
    exact ret_t2 rfl (ret_i (by first | rfl | omega | (have q0 := h33; (try simp at q0);  omega) | (simp [h33]; done) | (simp [] at *; done) | (simp [h33] <;> omega) | (rw [Bool.eq_iff_iff]; simp [h33] <;> omega) | (rw [Bool.eq_iff_iff]; simp [h33] at * <;> omega)))
end Go.Proofs.YtobgdeffhdefeaaDoor
