import Derived.Test.YtobgdeffhdefeaaDoorLv
import Derived.Test.YtobgdeffhdefeaaDoorMes
/- Contracts of functions, one theorem each: what the call returns, and that nothing old is changed. Printed by gen.py. -/
namespace Go.Proofs.YtobgdeffhdefeaaDoor
open Go Go.RowKit
set_option linter.unusedSimpArgs false
set_option linter.unusedVariables false

set_option maxRecDepth 100000 in
set_option maxHeartbeats 1000000 in
theorem right_calls (w0 : World) (Z : Nat → Prop) (hZ : ∀ k, Z k → k < w0.heap.size) (n : Nd) (hShp : Shapes w0 Z) (hs : n.S.size < 1000000) :
    Calls Tryd.prog 112 [.agg #[.int .i64 (n.K), .int .i64 (n.N), .int .i64 (n.M), .string n.S]].toArray w0 (fun e w' => e = .returned (.bool (right n)) ∧ Fr none_ w0 w') := by
  have hstart : ∀ k, Z k → imm Z w0 [] w0 k ∧ w0.heap[k]? = w0.heap[k]? := fun k hk => ⟨⟨hZ k hk, fun _ => hk, fun _ h => by cases h⟩, rfl⟩
  have hS3 : St w0 Z none_ w0 [] [dShapes] := St.start w0 Z none_ _ (by
    intro d hd
    simp only [List.mem_cons, List.not_mem_nil, or_false] at hd
    rcases hd with rfl
    · exact Dat.mono _ _ _ _ _ hShp hstart
    )
  refine c_enter Tryd.func112 rfl Tryd.ntmps112 rfl (fun a1 hR2 => ?_)
  refine wp_seq_k (fun K4 hK5 => ?_)
  refine c_region ?_
  refine m_box (cs := [.int .i64 (n.K), .int .i64 (n.N), .int .i64 (n.M), .string n.S]) (st_listV rfl) hR2 hS3 rfl rfl rfl rfl (by decide) (fun a6 w7 g8 hR9 hS10 => ?_)
  refine r_assign (st_listV rfl) hR9 rfl rfl rfl (by decide) (fun a11 hR12 => ?_)
  refine wpList_nil ?_
  refine x_then_n (hK5 _ _ ?_)
  refine wp_seq_k (fun K13 hK14 => ?_)
  refine wp_seq_k (fun K15 hK16 => ?_)
  refine c_region ?_
  refine m_field (j' := 0) (st_listV rfl) hR12 rfl rfl rfl Tryd.underlying32 rfl sz3 rfl rfl (by decide) (fun a17 hR18 => ?_)
  refine m_load (i := 0) (st_listV rfl) hR18 hS10 rfl rfl rfl rfl rfl Tryd.underlying3 rfl (by decide) (fun a19 hR20 => ?_)
  refine r_lss (st_listV rfl) hR20 rfl rfl rfl rfl (by decide) (fun a21 hR22 => ?_)
  refine r_move (st_listV rfl) hR22 rfl rfl rfl (by decide) (fun a23 hR24 => ?_)
  refine l_join (fun ga gw => Reg ga 110 [(1, .pointer (some ⟨g8, 0, none⟩)), (2, .bool false), (11, .bool ((decide ((n.K) < 0)) || (decide (30 ≤ (n.K)))))] ∧ St w0 Z none_ gw [.box g8 32 [.int .i64 (n.K), .int .i64 (n.N), .int .i64 (n.M), .string n.S]] [dShapes]) 4 ?_ ?_
  · skip
    rcases Decidable.em ((n.K) < 0) with h25 | h25
    · skip
      have hR26 := hR24.setb (d := 7) (b := true) rfl (decide_eq_true h25)
      refine s_pass hR26 rfl (by decide) (want_f hR26 rfl rfl rfl (by decide) rfl rfl) (fun a27 hR28 => ?_)
      refine s_pass hR28 rfl (by decide) (want_f hR28 rfl rfl rfl (by decide) rfl rfl) (fun a29 hR30 => ?_)
      refine s_pass hR30 rfl (by decide) (want_f hR30 rfl rfl rfl (by decide) rfl rfl) (fun a31 hR32 => ?_)
      refine r_pick_t (st_listV rfl) hR32 rfl rfl rfl rfl (by decide) (fun a33 hR34 => ?_)
      refine wpList_nil ?_
      exact x_then_n ⟨(Reg.cons hR34 (Reg.cons hR34 (Reg.consb hR34 (hR34.nil) rfl (by first | rfl | (simp only [decide_eq_true h25, if_pos h25, Bool.true_and, Bool.and_true, Bool.false_and, Bool.and_false, Bool.true_or, Bool.or_true, Bool.false_or, Bool.or_false, Bool.not_true, Bool.not_false, if_true, ite_true, ite_false, Bool.false_eq_true]; done) | (simp [h25]; done) | (simp [h25]; omega))) rfl) rfl), hS10⟩
    · skip
      have hR35 := hR24.setb (d := 7) (b := false) rfl (decide_eq_false h25)
      refine m_field (j' := 0) (st_listV_w (want_t hR35 rfl rfl rfl (by decide) rfl)) hR35 rfl rfl rfl Tryd.underlying32 rfl sz3 rfl rfl (by decide) (fun a36 hR37 => ?_)
      refine m_load (i := 0) (st_listV_w (want_t hR37 rfl rfl rfl (by decide) rfl)) hR37 hS10 rfl rfl rfl rfl rfl Tryd.underlying3 rfl (by decide) (fun a38 hR39 => ?_)
      refine r_geq (st_listV_w (want_t hR39 rfl rfl rfl (by decide) rfl)) hR39 rfl rfl rfl rfl (by decide) (fun a40 hR41 => ?_)
      refine r_pick_f (st_listV rfl) hR41 rfl rfl rfl rfl (by decide) (fun a42 hR43 => ?_)
      refine wpList_nil ?_
      exact x_then_n ⟨(Reg.cons hR43 (Reg.cons hR43 (Reg.consb hR43 (hR43.nil) rfl (by first | rfl | (simp only [decide_eq_false h25, if_neg h25, Bool.true_and, Bool.and_true, Bool.false_and, Bool.and_false, Bool.true_or, Bool.or_true, Bool.false_or, Bool.or_false, Bool.not_true, Bool.not_false, if_true, ite_true, ite_false, Bool.false_eq_true]; done) | (simp [h25]; done) | (simp [h25]; omega))) rfl) rfl), hS10⟩
  rintro a44 w45 ⟨hR46, hS47⟩
  refine wpList_nil ?_
  refine x_then_n (hK16 _ _ ?_)
  rcases Bool.eq_false_or_eq_true (((decide ((n.K) < 0)) || (decide (30 ≤ (n.K))))) with h48 | h48
  · skip
    have hq49 := h48
    try simp only [Bool.or_eq_true, Bool.and_eq_true, Bool.not_eq_true', Bool.not_eq_false', decide_eq_true_eq, decide_eq_false_iff_not, Bool.or_eq_false_iff, Bool.and_eq_false_iff] at hq49
    have hR50 := hR46.setb (d := 11) (b := true) rfl h48
    refine wp_cond_true (hR50.ev rfl) ?_
    refine wp_seq_k (fun K51 hK52 => ?_)
    refine c_region ?_
    refine r_assign (st_listV rfl) hR50 rfl rfl rfl (by decide) (fun a53 hR54 => ?_)
    refine wpList_nil ?_
    refine x_then_n (hK52 _ _ ?_)
    refine wp_ret ?_
    refine x_then_r ?_
    refine e_ret1 hR54 rfl rfl ?_
    refine ⟨?_, hS47.fr⟩
    exact congrArg Ending.returned (ret_b (by exact (right_bad (by omega)).symm))
  · skip
    have h55 := or_fl h48
    have h56 := of_decide_eq_false h55
    have h57 := or_fr h48
    have h58 := of_decide_eq_false h57
    have hR59 := hR46.setb (d := 11) (b := false) rfl h48
    refine wp_cond_false (hR59.ev rfl) ?_
    refine wp_skip ?_
    refine x_then_n (hK14 _ _ ?_)
    refine wp_seq_k (fun K60 hK61 => ?_)
    refine c_region ?_
    refine m_field (j' := 0) (st_listV rfl) hR59 rfl rfl rfl Tryd.underlying32 rfl sz3 rfl rfl (by decide) (fun a62 hR63 => ?_)
    refine m_load (i := 0) (st_listV rfl) hR63 hS47 rfl rfl rfl rfl rfl Tryd.underlying3 rfl (by decide) (fun a64 hR65 => ?_)
    refine m_indexA (i := ((n.K)).toNat) (j := (((n.K)).toNat) * 4) (st_listV rfl) hR65 rfl rfl rfl rfl Tryd.underlying130 sz129 (by omega) (by omega) rfl (by decide) (fun a66 hR67 => ?_)
    obtain ⟨A68, c69, hd70, he71⟩ := shapes_at (hS47.get (i := 0) rfl) (((n.K)).toNat) (by omega)
    have hS72 := hS47.data (dRow 1 A68 (shp (((n.K)).toNat)).b.length c69 (encIs (shp (((n.K)).toNat)).b)) hd70
    refine m_loadEN (st_listV rfl) hR67 rfl rfl rfl he71 Tryd.underlying129 rfl sz129 (by decide) (fun a73 hR74 => ?_)
    refine m_alloc (cs := [.slice none 0 0, .bool false, .bool false, .bool false]) (st_listV rfl) hR74 hS72 rfl rfl ze129 rfl (by decide) (fun a75 w76 g77 hR78 hS79 => ?_)
    refine m_store (i := 1) (cs' := [.slice A68 ((shp (((n.K)).toNat)).b.length) c69, .bool ((shp (((n.K)).toNat)).n), .bool ((shp (((n.K)).toNat)).m), .bool ((shp (((n.K)).toNat)).s)]) (st_list rfl) hR78 hS79 rfl rfl rfl rfl rfl sz129 rfl rfl rfl (fun a80 w81 hR82 hS83 => ?_)
    refine wpList_nil ?_
    refine x_then_n (hK61 _ _ ?_)
    refine wp_seq_k (fun K84 hK85 => ?_)
    refine wp_block ?_
    refine c_join (fun ga gw => Reg ga 110 [(1, .pointer (some ⟨g8, 0, none⟩)), (2, .bool false), (3, .pointer (some ⟨g77, 0, none⟩)), (16, .bool (((!((shp (((n.K)).toNat)).n)) && (!(decide ((n.N) = 0)))) || (((!((shp (((n.K)).toNat)).m)) && (!(decide ((n.M) = 0)))) || (((!((shp (((n.K)).toNat)).s)) && (!(decide (n.S = (⟨#[]⟩ : ByteArray))))) || (((shp (((n.K)).toNat)).s) && (!(nameOk n.S)))))))] ∧ St w0 Z none_ gw [.box g8 32 [.int .i64 (n.K), .int .i64 (n.N), .int .i64 (n.M), .string n.S], .box g77 129 [.slice A68 ((shp (((n.K)).toNat)).b.length) c69, .bool ((shp (((n.K)).toNat)).n), .bool ((shp (((n.K)).toNat)).m), .bool ((shp (((n.K)).toNat)).s)]] [dShapes, dRow 1 A68 (shp (((n.K)).toNat)).b.length c69 (encIs (shp (((n.K)).toNat)).b)]) ?_ ?_
    · skip
      refine wp_seq_k (fun K86 hK87 => ?_)
      refine c_region ?_
      refine m_field (j' := 1) (st_listV rfl) hR82 rfl rfl rfl Tryd.underlying129 rfl sz4 rfl rfl (by decide) (fun a88 hR89 => ?_)
      refine m_load (i := 1) (st_listV rfl) hR89 hS83 rfl rfl rfl rfl rfl Tryd.underlying4 rfl (by decide) (fun a90 hR91 => ?_)
      refine r_not (st_listV rfl) hR91 rfl rfl rfl (by decide) (fun a92 hR93 => ?_)
      refine r_move (st_listV rfl) hR93 rfl rfl rfl (by decide) (fun a94 hR95 => ?_)
      refine l_join (fun ga gw => Reg ga 110 [(1, .pointer (some ⟨g8, 0, none⟩)), (2, .bool false), (3, .pointer (some ⟨g77, 0, none⟩)), (24, .bool ((!((shp (((n.K)).toNat)).n)) && (!(decide ((n.N) = 0)))))] ∧ St w0 Z none_ gw [.box g8 32 [.int .i64 (n.K), .int .i64 (n.N), .int .i64 (n.M), .string n.S], .box g77 129 [.slice A68 ((shp (((n.K)).toNat)).b.length) c69, .bool ((shp (((n.K)).toNat)).n), .bool ((shp (((n.K)).toNat)).m), .bool ((shp (((n.K)).toNat)).s)]] [dShapes, dRow 1 A68 (shp (((n.K)).toNat)).b.length c69 (encIs (shp (((n.K)).toNat)).b)]) 4 ?_ ?_
      · skip
        rcases Bool.eq_false_or_eq_true ((shp (((n.K)).toNat)).n) with h96 | h96
        · skip
          have hR97 := hR95.setb (d := 20) (b := false) rfl (by rw [h96]; rfl)
          refine s_pass hR97 rfl (by decide) (want_f hR97 rfl rfl rfl (by decide) rfl rfl) (fun a98 hR99 => ?_)
          refine s_pass hR99 rfl (by decide) (want_f hR99 rfl rfl rfl (by decide) rfl rfl) (fun a100 hR101 => ?_)
          refine s_pass hR101 rfl (by decide) (want_f hR101 rfl rfl rfl (by decide) rfl rfl) (fun a102 hR103 => ?_)
          refine r_pick_f (st_listV rfl) hR103 rfl rfl rfl rfl (by decide) (fun a104 hR105 => ?_)
          refine wpList_nil ?_
          exact x_then_n ⟨(Reg.cons hR105 (Reg.cons hR105 (Reg.cons hR105 (Reg.consb hR105 (hR105.nil) rfl (by first | rfl | (simp only [h96, Bool.true_and, Bool.and_true, Bool.false_and, Bool.and_false, Bool.true_or, Bool.or_true, Bool.false_or, Bool.or_false, Bool.not_true, Bool.not_false, if_true, ite_true, ite_false, Bool.false_eq_true]; done) | (simp [h96]; done) | (simp [h96]; omega))) rfl) rfl) rfl), hS83⟩
        · skip
          have hR106 := hR95.setb (d := 20) (b := true) rfl (by rw [h96]; rfl)
          refine m_field (j' := 1) (st_listV_w (want_t hR106 rfl rfl rfl (by decide) rfl)) hR106 rfl rfl rfl Tryd.underlying32 rfl sz3 rfl rfl (by decide) (fun a107 hR108 => ?_)
          refine m_load (i := 0) (st_listV_w (want_t hR108 rfl rfl rfl (by decide) rfl)) hR108 hS83 rfl rfl rfl rfl rfl Tryd.underlying3 rfl (by decide) (fun a109 hR110 => ?_)
          refine r_neq (st_listV_w (want_t hR110 rfl rfl rfl (by decide) rfl)) hR110 rfl rfl rfl rfl (by decide) (fun a111 hR112 => ?_)
          refine r_pick_t (st_listV rfl) hR112 rfl rfl rfl rfl (by decide) (fun a113 hR114 => ?_)
          refine wpList_nil ?_
          exact x_then_n ⟨(Reg.cons hR114 (Reg.cons hR114 (Reg.cons hR114 (Reg.consb hR114 (hR114.nil) rfl (by first | rfl | (simp only [h96, Bool.true_and, Bool.and_true, Bool.false_and, Bool.and_false, Bool.true_or, Bool.or_true, Bool.false_or, Bool.or_false, Bool.not_true, Bool.not_false, if_true, ite_true, ite_false, Bool.false_eq_true]; done) | (simp [h96]; done) | (simp [h96]; omega))) rfl) rfl) rfl), hS83⟩
      rintro a115 w116 ⟨hR117, hS118⟩
      refine r_assign (st_listV rfl) hR117 rfl rfl rfl (by decide) (fun a119 hR120 => ?_)
      refine wpList_nil ?_
      refine x_then_n (hK87 _ _ ?_)
      rcases Bool.eq_false_or_eq_true (((!((shp (((n.K)).toNat)).n)) && (!(decide ((n.N) = 0))))) with h121 | h121
      · skip
        have h122 := and_tl h121
        have h123 := not_t h122
        have h124 := and_tr h121
        have h125 := not_t h124
        have h126 := of_decide_eq_false h125
        have hR127 := hR120.setb (d := 16) (b := true) rfl h121
        refine wp_cond_true (hR127.ev rfl) ?_
        refine wp_skip ?_
        exact x_then_n ⟨(Reg.cons hR127 (Reg.cons hR127 (Reg.cons hR127 (Reg.consb hR127 (hR127.nil) rfl (by first | rfl | (simp only [h121, Bool.true_and, Bool.and_true, Bool.false_and, Bool.and_false, Bool.true_or, Bool.or_true, Bool.false_or, Bool.or_false, Bool.not_true, Bool.not_false, if_true, ite_true, ite_false, Bool.false_eq_true]; done) | (simp [h121]; done) | (simp [h121]; omega))) rfl) rfl) rfl), hS118⟩
      · skip
        have hq128 := h121
        try simp only [Bool.or_eq_true, Bool.and_eq_true, Bool.not_eq_true', Bool.not_eq_false', decide_eq_true_eq, decide_eq_false_iff_not, Bool.or_eq_false_iff, Bool.and_eq_false_iff] at hq128
        have hR129 := hR120.setb (d := 16) (b := false) rfl h121
        refine wp_cond_false (hR129.ev rfl) ?_
        refine wp_seq_k (fun K130 hK131 => ?_)
        refine c_region ?_
        refine m_field (j' := 2) (st_listV rfl) hR129 rfl rfl rfl Tryd.underlying129 rfl sz4 rfl rfl (by decide) (fun a132 hR133 => ?_)
        refine m_load (i := 1) (st_listV rfl) hR133 hS118 rfl rfl rfl rfl rfl Tryd.underlying4 rfl (by decide) (fun a134 hR135 => ?_)
        refine r_not (st_listV rfl) hR135 rfl rfl rfl (by decide) (fun a136 hR137 => ?_)
        refine r_move (st_listV rfl) hR137 rfl rfl rfl (by decide) (fun a138 hR139 => ?_)
        refine l_join (fun ga gw => Reg ga 110 [(1, .pointer (some ⟨g8, 0, none⟩)), (2, .bool false), (3, .pointer (some ⟨g77, 0, none⟩)), (16, .bool false), (32, .bool ((!((shp (((n.K)).toNat)).m)) && (!(decide ((n.M) = 0)))))] ∧ St w0 Z none_ gw [.box g8 32 [.int .i64 (n.K), .int .i64 (n.N), .int .i64 (n.M), .string n.S], .box g77 129 [.slice A68 ((shp (((n.K)).toNat)).b.length) c69, .bool ((shp (((n.K)).toNat)).n), .bool ((shp (((n.K)).toNat)).m), .bool ((shp (((n.K)).toNat)).s)]] [dShapes, dRow 1 A68 (shp (((n.K)).toNat)).b.length c69 (encIs (shp (((n.K)).toNat)).b)]) 4 ?_ ?_
        · skip
          rcases Bool.eq_false_or_eq_true ((shp (((n.K)).toNat)).m) with h140 | h140
          · skip
            have hR141 := hR139.setb (d := 28) (b := false) rfl (by rw [h140]; rfl)
            refine s_pass hR141 rfl (by decide) (want_f hR141 rfl rfl rfl (by decide) rfl rfl) (fun a142 hR143 => ?_)
            refine s_pass hR143 rfl (by decide) (want_f hR143 rfl rfl rfl (by decide) rfl rfl) (fun a144 hR145 => ?_)
            refine s_pass hR145 rfl (by decide) (want_f hR145 rfl rfl rfl (by decide) rfl rfl) (fun a146 hR147 => ?_)
            refine r_pick_f (st_listV rfl) hR147 rfl rfl rfl rfl (by decide) (fun a148 hR149 => ?_)
            refine wpList_nil ?_
            exact x_then_n ⟨(Reg.cons hR149 (Reg.cons hR149 (Reg.cons hR149 (Reg.cons hR149 (Reg.consb hR149 (hR149.nil) rfl (by first | rfl | (simp only [h140, Bool.true_and, Bool.and_true, Bool.false_and, Bool.and_false, Bool.true_or, Bool.or_true, Bool.false_or, Bool.or_false, Bool.not_true, Bool.not_false, if_true, ite_true, ite_false, Bool.false_eq_true]; done) | (simp [h140]; done) | (simp [h140]; omega))) rfl) rfl) rfl) rfl), hS118⟩
          · skip
            have hR150 := hR139.setb (d := 28) (b := true) rfl (by rw [h140]; rfl)
            refine m_field (j' := 2) (st_listV_w (want_t hR150 rfl rfl rfl (by decide) rfl)) hR150 rfl rfl rfl Tryd.underlying32 rfl sz3 rfl rfl (by decide) (fun a151 hR152 => ?_)
            refine m_load (i := 0) (st_listV_w (want_t hR152 rfl rfl rfl (by decide) rfl)) hR152 hS118 rfl rfl rfl rfl rfl Tryd.underlying3 rfl (by decide) (fun a153 hR154 => ?_)
            refine r_neq (st_listV_w (want_t hR154 rfl rfl rfl (by decide) rfl)) hR154 rfl rfl rfl rfl (by decide) (fun a155 hR156 => ?_)
            refine r_pick_t (st_listV rfl) hR156 rfl rfl rfl rfl (by decide) (fun a157 hR158 => ?_)
            refine wpList_nil ?_
            exact x_then_n ⟨(Reg.cons hR158 (Reg.cons hR158 (Reg.cons hR158 (Reg.cons hR158 (Reg.consb hR158 (hR158.nil) rfl (by first | rfl | (simp only [h140, Bool.true_and, Bool.and_true, Bool.false_and, Bool.and_false, Bool.true_or, Bool.or_true, Bool.false_or, Bool.or_false, Bool.not_true, Bool.not_false, if_true, ite_true, ite_false, Bool.false_eq_true]; done) | (simp [h140]; done) | (simp [h140]; omega))) rfl) rfl) rfl) rfl), hS118⟩
        rintro a159 w160 ⟨hR161, hS162⟩
        refine r_assign (st_listV rfl) hR161 rfl rfl rfl (by decide) (fun a163 hR164 => ?_)
        refine wpList_nil ?_
        refine x_then_n (hK131 _ _ ?_)
        rcases Bool.eq_false_or_eq_true (((!((shp (((n.K)).toNat)).m)) && (!(decide ((n.M) = 0))))) with h165 | h165
        · skip
          have h166 := and_tl h165
          have h167 := not_t h166
          have h168 := and_tr h165
          have h169 := not_t h168
          have h170 := of_decide_eq_false h169
          have hR171 := hR164.setb (d := 16) (b := true) rfl h165
          refine wp_cond_true (hR171.ev rfl) ?_
          refine wp_skip ?_
          exact x_then_n ⟨(Reg.cons hR171 (Reg.cons hR171 (Reg.cons hR171 (Reg.consb hR171 (hR171.nil) rfl (by first | rfl | (simp only [h121, h165, Bool.true_and, Bool.and_true, Bool.false_and, Bool.and_false, Bool.true_or, Bool.or_true, Bool.false_or, Bool.or_false, Bool.not_true, Bool.not_false, if_true, ite_true, ite_false, Bool.false_eq_true]; done) | (simp [h121, h165]; done) | (simp [h121, h165]; omega))) rfl) rfl) rfl), hS162⟩
        · skip
          have hq172 := h165
          try simp only [Bool.or_eq_true, Bool.and_eq_true, Bool.not_eq_true', Bool.not_eq_false', decide_eq_true_eq, decide_eq_false_iff_not, Bool.or_eq_false_iff, Bool.and_eq_false_iff] at hq172
          have hR173 := hR164.setb (d := 16) (b := false) rfl h165
          refine wp_cond_false (hR173.ev rfl) ?_
          refine wp_seq_k (fun K174 hK175 => ?_)
          refine c_region ?_
          refine m_field (j' := 3) (st_listV rfl) hR173 rfl rfl rfl Tryd.underlying129 rfl sz4 rfl rfl (by decide) (fun a176 hR177 => ?_)
          refine m_load (i := 1) (st_listV rfl) hR177 hS162 rfl rfl rfl rfl rfl Tryd.underlying4 rfl (by decide) (fun a178 hR179 => ?_)
          refine r_not (st_listV rfl) hR179 rfl rfl rfl (by decide) (fun a180 hR181 => ?_)
          refine r_move (st_listV rfl) hR181 rfl rfl rfl (by decide) (fun a182 hR183 => ?_)
          refine l_join (fun ga gw => Reg ga 110 [(1, .pointer (some ⟨g8, 0, none⟩)), (2, .bool false), (3, .pointer (some ⟨g77, 0, none⟩)), (16, .bool false), (40, .bool ((!((shp (((n.K)).toNat)).s)) && (!(decide (n.S = (⟨#[]⟩ : ByteArray))))))] ∧ St w0 Z none_ gw [.box g8 32 [.int .i64 (n.K), .int .i64 (n.N), .int .i64 (n.M), .string n.S], .box g77 129 [.slice A68 ((shp (((n.K)).toNat)).b.length) c69, .bool ((shp (((n.K)).toNat)).n), .bool ((shp (((n.K)).toNat)).m), .bool ((shp (((n.K)).toNat)).s)]] [dShapes, dRow 1 A68 (shp (((n.K)).toNat)).b.length c69 (encIs (shp (((n.K)).toNat)).b)]) 4 ?_ ?_
          · skip
            rcases Bool.eq_false_or_eq_true ((shp (((n.K)).toNat)).s) with h184 | h184
            · skip
              have hR185 := hR183.setb (d := 36) (b := false) rfl (by rw [h184]; rfl)
              refine s_pass hR185 rfl (by decide) (want_f hR185 rfl rfl rfl (by decide) rfl rfl) (fun a186 hR187 => ?_)
              refine s_pass hR187 rfl (by decide) (want_f hR187 rfl rfl rfl (by decide) rfl rfl) (fun a188 hR189 => ?_)
              refine s_pass hR189 rfl (by decide) (want_f hR189 rfl rfl rfl (by decide) rfl rfl) (fun a190 hR191 => ?_)
              refine r_pick_f (st_listV rfl) hR191 rfl rfl rfl rfl (by decide) (fun a192 hR193 => ?_)
              refine wpList_nil ?_
              exact x_then_n ⟨(Reg.cons hR193 (Reg.cons hR193 (Reg.cons hR193 (Reg.cons hR193 (Reg.consb hR193 (hR193.nil) rfl (by first | rfl | (simp only [h184, Bool.true_and, Bool.and_true, Bool.false_and, Bool.and_false, Bool.true_or, Bool.or_true, Bool.false_or, Bool.or_false, Bool.not_true, Bool.not_false, if_true, ite_true, ite_false, Bool.false_eq_true]; done) | (simp [h184]; done) | (simp [h184]; omega))) rfl) rfl) rfl) rfl), hS162⟩
            · skip
              have hR194 := hR183.setb (d := 36) (b := true) rfl (by rw [h184]; rfl)
              refine m_field (j' := 3) (st_listV_w (want_t hR194 rfl rfl rfl (by decide) rfl)) hR194 rfl rfl rfl Tryd.underlying32 rfl sz9 rfl rfl (by decide) (fun a195 hR196 => ?_)
              refine m_load (i := 0) (st_listV_w (want_t hR196 rfl rfl rfl (by decide) rfl)) hR196 hS162 rfl rfl rfl rfl rfl Tryd.underlying9 rfl (by decide) (fun a197 hR198 => ?_)
              refine r_neqS (st_listV_w (want_t hR198 rfl rfl rfl (by decide) rfl)) hR198 rfl rfl rfl rfl (by decide) (fun a199 hR200 => ?_)
              refine r_pick_t (st_listV rfl) hR200 rfl rfl rfl rfl (by decide) (fun a201 hR202 => ?_)
              refine wpList_nil ?_
              exact x_then_n ⟨(Reg.cons hR202 (Reg.cons hR202 (Reg.cons hR202 (Reg.cons hR202 (Reg.consb hR202 (hR202.nil) rfl (by first | rfl | (simp only [h184, Bool.true_and, Bool.and_true, Bool.false_and, Bool.and_false, Bool.true_or, Bool.or_true, Bool.false_or, Bool.or_false, Bool.not_true, Bool.not_false, if_true, ite_true, ite_false, Bool.false_eq_true]; done) | (simp [h184]; done) | (simp [h184]; omega))) rfl) rfl) rfl) rfl), hS162⟩
          rintro a203 w204 ⟨hR205, hS206⟩
          refine r_assign (st_listV rfl) hR205 rfl rfl rfl (by decide) (fun a207 hR208 => ?_)
          refine wpList_nil ?_
          refine x_then_n (hK175 _ _ ?_)
          rcases Bool.eq_false_or_eq_true (((!((shp (((n.K)).toNat)).s)) && (!(decide (n.S = (⟨#[]⟩ : ByteArray)))))) with h209 | h209
          · skip
            have h210 := and_tl h209
            have h211 := not_t h210
            have h212 := and_tr h209
            have h213 := not_t h212
            have h214 := of_decide_eq_false h213
            have hR215 := hR208.setb (d := 16) (b := true) rfl h209
            refine wp_cond_true (hR215.ev rfl) ?_
            refine wp_skip ?_
            exact x_then_n ⟨(Reg.cons hR215 (Reg.cons hR215 (Reg.cons hR215 (Reg.consb hR215 (hR215.nil) rfl (by first | rfl | (simp only [h121, h165, h209, Bool.true_and, Bool.and_true, Bool.false_and, Bool.and_false, Bool.true_or, Bool.or_true, Bool.false_or, Bool.or_false, Bool.not_true, Bool.not_false, if_true, ite_true, ite_false, Bool.false_eq_true]; done) | (simp [h121, h165, h209]; done) | (simp [h121, h165, h209]; omega))) rfl) rfl) rfl), hS206⟩
          · skip
            have hq216 := h209
            try simp only [Bool.or_eq_true, Bool.and_eq_true, Bool.not_eq_true', Bool.not_eq_false', decide_eq_true_eq, decide_eq_false_iff_not, Bool.or_eq_false_iff, Bool.and_eq_false_iff] at hq216
            have hR217 := hR208.setb (d := 16) (b := false) rfl h209
            refine wp_cond_false (hR217.ev rfl) ?_
            refine c_region ?_
            refine m_field (j' := 3) (st_listV rfl) hR217 rfl rfl rfl Tryd.underlying129 rfl sz4 rfl rfl (by decide) (fun a218 hR219 => ?_)
            refine m_load (i := 1) (st_listV rfl) hR219 hS206 rfl rfl rfl rfl rfl Tryd.underlying4 rfl (by decide) (fun a220 hR221 => ?_)
            refine r_move (st_listV rfl) hR221 rfl rfl rfl (by decide) (fun a222 hR223 => ?_)
            refine l_join (fun ga gw => Reg ga 110 [(1, .pointer (some ⟨g8, 0, none⟩)), (2, .bool false), (3, .pointer (some ⟨g77, 0, none⟩)), (16, .bool false), (48, .bool (((shp (((n.K)).toNat)).s) && (!(nameOk n.S))))] ∧ St w0 Z none_ gw [.box g8 32 [.int .i64 (n.K), .int .i64 (n.N), .int .i64 (n.M), .string n.S], .box g77 129 [.slice A68 ((shp (((n.K)).toNat)).b.length) c69, .bool ((shp (((n.K)).toNat)).n), .bool ((shp (((n.K)).toNat)).m), .bool ((shp (((n.K)).toNat)).s)]] [dShapes, dRow 1 A68 (shp (((n.K)).toNat)).b.length c69 (encIs (shp (((n.K)).toNat)).b)]) 5 ?_ ?_
            · skip
              rcases Bool.eq_false_or_eq_true ((shp (((n.K)).toNat)).s) with h224 | h224
              · skip
                have hR225 := hR223.setb (d := 43) (b := true) rfl h224
                refine m_field (j' := 3) (st_listV_w (want_t hR225 rfl rfl rfl (by decide) rfl)) hR225 rfl rfl rfl Tryd.underlying32 rfl sz9 rfl rfl (by decide) (fun a226 hR227 => ?_)
                refine m_load (i := 0) (st_listV_w (want_t hR227 rfl rfl rfl (by decide) rfl)) hR227 hS206 rfl rfl rfl rfl rfl Tryd.underlying9 rfl (by decide) (fun a228 hR229 => ?_)
                have hS230 : St w0 Z none_ w204 [.box g8 32 [.int .i64 (n.K), .int .i64 (n.N), .int .i64 (n.M), .string n.S], .box g77 129 [.slice A68 ((shp (((n.K)).toNat)).b.length) c69, .bool ((shp (((n.K)).toNat)).n), .bool ((shp (((n.K)).toNat)).m), .bool ((shp (((n.K)).toNat)).s)]] [dShapes, dRow 1 A68 (shp (((n.K)).toNat)).b.length c69 (encIs (shp (((n.K)).toNat)).b)] := hS206
                refine k_call (xs := [.tmp 45]) (st_list_w (want_t hR229 rfl rfl rfl (by decide) rfl)) hR229 rfl rfl rfl (by decide) ok128 (name_calls _ (imm Z w0 [.box g8 32 [.int .i64 (n.K), .int .i64 (n.N), .int .i64 (n.M), .string n.S], .box g77 129 [.slice A68 ((shp (((n.K)).toNat)).b.length) c69, .bool ((shp (((n.K)).toNat)).n), .bool ((shp (((n.K)).toNat)).m), .bool ((shp (((n.K)).toNat)).s)]] _) (fun _ h => h.1) n.S (by first | assumption | omega | (simp; done) | (simp; omega))) ?_
                rintro e237 w232 ⟨rfl, hf235⟩
                have hS238 := hS230.below hf235.below
                refine ⟨_, rfl, fun a231 hR233 => ?_⟩
                refine r_not (st_listV_w (want_t hR233 rfl rfl rfl (by decide) rfl)) hR233 rfl rfl rfl (by decide) (fun a239 hR240 => ?_)
                refine r_pick_t (st_listV rfl) hR240 rfl rfl rfl rfl (by decide) (fun a241 hR242 => ?_)
                refine wpList_nil ?_
                exact x_then_n ⟨(Reg.cons hR242 (Reg.cons hR242 (Reg.cons hR242 (Reg.cons hR242 (Reg.consb hR242 (hR242.nil) rfl (by first | rfl | (simp only [h224, Bool.true_and, Bool.and_true, Bool.false_and, Bool.and_false, Bool.true_or, Bool.or_true, Bool.false_or, Bool.or_false, Bool.not_true, Bool.not_false, if_true, ite_true, ite_false, Bool.false_eq_true]; done) | (simp [h224]; done) | (simp [h224]; omega))) rfl) rfl) rfl) rfl), hS238⟩
              · skip
                have hR243 := hR223.setb (d := 43) (b := false) rfl h224
                refine s_pass hR243 rfl (by decide) (want_f hR243 rfl rfl rfl (by decide) rfl rfl) (fun a244 hR245 => ?_)
                refine s_pass hR245 rfl (by decide) (want_f hR245 rfl rfl rfl (by decide) rfl rfl) (fun a246 hR247 => ?_)
                refine s_pass hR247 rfl (by decide) (want_f hR247 rfl rfl rfl (by decide) rfl rfl) (fun a248 hR249 => ?_)
                refine s_pass hR249 rfl (by decide) (want_f hR249 rfl rfl rfl (by decide) rfl rfl) (fun a250 hR251 => ?_)
                refine r_pick_f (st_listV rfl) hR251 rfl rfl rfl rfl (by decide) (fun a252 hR253 => ?_)
                refine wpList_nil ?_
                exact x_then_n ⟨(Reg.cons hR253 (Reg.cons hR253 (Reg.cons hR253 (Reg.cons hR253 (Reg.consb hR253 (hR253.nil) rfl (by first | rfl | (simp only [h224, Bool.true_and, Bool.and_true, Bool.false_and, Bool.and_false, Bool.true_or, Bool.or_true, Bool.false_or, Bool.or_false, Bool.not_true, Bool.not_false, if_true, ite_true, ite_false, Bool.false_eq_true]; done) | (simp [h224]; done) | (simp [h224]; omega))) rfl) rfl) rfl) rfl), hS206⟩
            rintro a254 w255 ⟨hR256, hS257⟩
            refine r_assign (st_listV rfl) hR256 rfl rfl rfl (by decide) (fun a258 hR259 => ?_)
            refine wpList_nil ?_
            exact x_then_n ⟨(Reg.cons hR259 (Reg.cons hR259 (Reg.cons hR259 (Reg.consb hR259 (hR259.nil) rfl (by first | rfl | (simp only [h121, h165, h209, Bool.true_and, Bool.and_true, Bool.false_and, Bool.and_false, Bool.true_or, Bool.or_true, Bool.false_or, Bool.or_false, Bool.not_true, Bool.not_false, if_true, ite_true, ite_false, Bool.false_eq_true]; done) | (simp [h121, h165, h209]; done) | (simp [h121, h165, h209]; omega))) rfl) rfl) rfl), hS257⟩
    rintro a260 w261 ⟨hR262, hS263⟩
    rcases Bool.eq_false_or_eq_true ((((!((shp (((n.K)).toNat)).n)) && (!(decide ((n.N) = 0)))) || (((!((shp (((n.K)).toNat)).m)) && (!(decide ((n.M) = 0)))) || (((!((shp (((n.K)).toNat)).s)) && (!(decide (n.S = (⟨#[]⟩ : ByteArray))))) || (((shp (((n.K)).toNat)).s) && (!(nameOk n.S))))))) with h264 | h264
    · skip
      have hq265 := h264
      try simp only [Bool.or_eq_true, Bool.and_eq_true, Bool.not_eq_true', Bool.not_eq_false', decide_eq_true_eq, decide_eq_false_iff_not, Bool.or_eq_false_iff, Bool.and_eq_false_iff] at hq265
      have hR266 := hR262.setb (d := 16) (b := true) rfl h264
      refine wp_cond_true (hR266.ev rfl) ?_
      refine wp_seq_k (fun K267 hK268 => ?_)
      refine c_region ?_
      refine r_assign (st_listV rfl) hR266 rfl rfl rfl (by decide) (fun a269 hR270 => ?_)
      refine wpList_nil ?_
      refine x_then_n (hK268 _ _ ?_)
      refine wp_ret ?_
      refine x_block_r ?_
      refine x_then_r ?_
      refine e_ret1 hR270 rfl rfl ?_
      refine ⟨?_, hS263.fr⟩
      exact congrArg Ending.returned (ret_b (by first | exact (right_sort h264 (by assumption)).symm | exact (right_big h264).symm | (rw [right_con' h264 (by assumption)]; first | rfl | (simp <;> omega) | (simp [h48, h56, h58, h264]; done) | (rw [Bool.eq_iff_iff]; simp <;> omega)) | (rw [right_elim' h264 (by assumption)]; first | rfl | (simp <;> omega) | (simp [h48, h56, h58, h264]; done) | (rw [Bool.eq_iff_iff]; simp <;> omega)) | (rw [right_oth h264 (by omega) (by omega) (by assumption) (by assumption) (by assumption)]; first | rfl | (simp <;> omega) | (simp [h48, h56, h58, h264]; done) | (rw [Bool.eq_iff_iff]; simp <;> omega))))
    · skip
      have h271 := or_fl h264
      have hq272 := h271
      try simp only [Bool.or_eq_true, Bool.and_eq_true, Bool.not_eq_true', Bool.not_eq_false', decide_eq_true_eq, decide_eq_false_iff_not, Bool.or_eq_false_iff, Bool.and_eq_false_iff] at hq272
      have h273 := or_fr h264
      have h274 := or_fl h273
      have hq275 := h274
      try simp only [Bool.or_eq_true, Bool.and_eq_true, Bool.not_eq_true', Bool.not_eq_false', decide_eq_true_eq, decide_eq_false_iff_not, Bool.or_eq_false_iff, Bool.and_eq_false_iff] at hq275
      have h276 := or_fr h273
      have h277 := or_fl h276
      have hq278 := h277
      try simp only [Bool.or_eq_true, Bool.and_eq_true, Bool.not_eq_true', Bool.not_eq_false', decide_eq_true_eq, decide_eq_false_iff_not, Bool.or_eq_false_iff, Bool.and_eq_false_iff] at hq278
      have h279 := or_fr h276
      have hq280 := h279
      try simp only [Bool.or_eq_true, Bool.and_eq_true, Bool.not_eq_true', Bool.not_eq_false', decide_eq_true_eq, decide_eq_false_iff_not, Bool.or_eq_false_iff, Bool.and_eq_false_iff] at hq280
      have hR281 := hR262.setb (d := 16) (b := false) rfl h264
      refine wp_cond_false (hR281.ev rfl) ?_
      refine wp_seq_k (fun K282 hK283 => ?_)
      refine c_region ?_
      refine m_field (j' := 0) (st_listV rfl) hR281 rfl rfl rfl Tryd.underlying32 rfl sz3 rfl rfl (by decide) (fun a284 hR285 => ?_)
      refine m_load (i := 0) (st_listV rfl) hR285 hS263 rfl rfl rfl rfl rfl Tryd.underlying3 rfl (by decide) (fun a286 hR287 => ?_)
      refine r_eql (st_listV rfl) hR287 rfl rfl rfl rfl (by decide) (fun a288 hR289 => ?_)
      refine r_assign (st_listV rfl) hR289 rfl rfl rfl (by decide) (fun a290 hR291 => ?_)
      refine wpList_nil ?_
      refine x_then_n (hK283 _ _ ?_)
      rcases Decidable.em ((n.K) = 2) with h292 | h292
      · skip
        have hR293 := hR291.setb (d := 49) (b := true) rfl (decide_eq_true h292)
        refine wp_cond_true (hR293.ev rfl) ?_
        refine wp_seq_k (fun K294 hK295 => ?_)
        refine c_region ?_
        refine m_field (j' := 1) (st_listV rfl) hR293 rfl rfl rfl Tryd.underlying32 rfl sz3 rfl rfl (by decide) (fun a296 hR297 => ?_)
        refine m_load (i := 0) (st_listV rfl) hR297 hS263 rfl rfl rfl rfl rfl Tryd.underlying3 rfl (by decide) (fun a298 hR299 => ?_)
        have hS300 : St w0 Z none_ w261 [.box g8 32 [.int .i64 (n.K), .int .i64 (n.N), .int .i64 (n.M), .string n.S], .box g77 129 [.slice A68 ((shp (((n.K)).toNat)).b.length) c69, .bool ((shp (((n.K)).toNat)).n), .bool ((shp (((n.K)).toNat)).m), .bool ((shp (((n.K)).toNat)).s)]] [dShapes, dRow 1 A68 (shp (((n.K)).toNat)).b.length c69 (encIs (shp (((n.K)).toNat)).b)] := hS263
        refine k_call (xs := [.tmp 54]) (st_list rfl) hR299 rfl rfl rfl (by decide) ok129 (lvCheck_calls _ (imm Z w0 [.box g8 32 [.int .i64 (n.K), .int .i64 (n.N), .int .i64 (n.M), .string n.S], .box g77 129 [.slice A68 ((shp (((n.K)).toNat)).b.length) c69, .bool ((shp (((n.K)).toNat)).n), .bool ((shp (((n.K)).toNat)).m), .bool ((shp (((n.K)).toNat)).s)]] _) (fun _ h => h.1) (n.N)) ?_
        rintro e307 w302 ⟨rfl, hf305⟩
        have hS308 := hS300.below hf305.below
        refine ⟨_, rfl, fun a301 hR303 => ?_⟩
        refine r_eql (st_listV rfl) hR303 rfl rfl rfl rfl (by decide) (fun a309 hR310 => ?_)
        refine r_assign (st_listV rfl) hR310 rfl rfl rfl (by decide) (fun a311 hR312 => ?_)
        refine wpList_nil ?_
        refine x_then_n (hK295 _ _ ?_)
        refine wp_ret ?_
        refine x_block_r ?_
        refine x_then_r ?_
        refine e_ret1 hR312 rfl rfl ?_
        refine ⟨?_, hS308.fr⟩
        exact congrArg Ending.returned (ret_b (by first | exact (right_sort h264 (by assumption)).symm | exact (right_big h264).symm | (rw [right_con' h264 (by assumption)]; first | rfl | (simp <;> omega) | (simp [h48, h56, h58, h264, h292]; done) | (rw [Bool.eq_iff_iff]; simp <;> omega)) | (rw [right_elim' h264 (by assumption)]; first | rfl | (simp <;> omega) | (simp [h48, h56, h58, h264, h292]; done) | (rw [Bool.eq_iff_iff]; simp <;> omega)) | (rw [right_oth h264 (by omega) (by omega) (by assumption) (by assumption) (by assumption)]; first | rfl | (simp <;> omega) | (simp [h48, h56, h58, h264, h292]; done) | (rw [Bool.eq_iff_iff]; simp <;> omega))))
      · skip
        have hR313 := hR291.setb (d := 49) (b := false) rfl (decide_eq_false h292)
        refine wp_cond_false (hR313.ev rfl) ?_
        refine wp_seq_k (fun K314 hK315 => ?_)
        refine c_region ?_
        refine m_field (j' := 0) (st_listV rfl) hR313 rfl rfl rfl Tryd.underlying32 rfl sz3 rfl rfl (by decide) (fun a316 hR317 => ?_)
        refine m_load (i := 0) (st_listV rfl) hR317 hS263 rfl rfl rfl rfl rfl Tryd.underlying3 rfl (by decide) (fun a318 hR319 => ?_)
        refine r_eql (st_listV rfl) hR319 rfl rfl rfl rfl (by decide) (fun a320 hR321 => ?_)
        refine r_assign (st_listV rfl) hR321 rfl rfl rfl (by decide) (fun a322 hR323 => ?_)
        refine wpList_nil ?_
        refine x_then_n (hK315 _ _ ?_)
        rcases Decidable.em ((n.K) = 26) with h324 | h324
        · skip
          have hR325 := hR323.setb (d := 57) (b := true) rfl (decide_eq_true h324)
          refine wp_cond_true (hR325.ev rfl) ?_
          refine wp_seq_k (fun K326 hK327 => ?_)
          obtain ⟨J328, hJ329, hS330⟩ := hS263.agree
          refine d_region2 (S := (fun x => (∀ k, J328 k → x.heap[k]? = w261.heap[k]?) ∧ (x.cell? ⟨g8, 0, none⟩ = some (.int .i64 (n.K))) ∧ (x.cell? ⟨g8, 1, none⟩ = some (.int .i64 (n.N))) ∧ (x.cell? ⟨g8, 2, none⟩ = some (.int .i64 (n.M))) ∧ (x.cell? ⟨g8, 3, none⟩ = some (.string n.S)) ∧ (True))) (n := 22) mixed rfl hS330 (pan_then (pan_block (pan_then pan_body))) (fun Q333 hP334 hN335 w331 hS332 => ?_)
          have hSw336 : (∀ k, J328 k → w331.heap[k]? = w261.heap[k]?) ∧ (w331.cell? ⟨g8, 0, none⟩ = some (.int .i64 (n.K))) ∧ (w331.cell? ⟨g8, 1, none⟩ = some (.int .i64 (n.N))) ∧ (w331.cell? ⟨g8, 2, none⟩ = some (.int .i64 (n.M))) ∧ (w331.cell? ⟨g8, 3, none⟩ = some (.string n.S)) ∧ (True) := ⟨fun k hk => (hS332.get (i := 2) rfl k hk).2, (box_cell (hS332.res (i := 0) rfl) rfl), (box_cell (hS332.res (i := 0) rfl) rfl), (box_cell (hS332.res (i := 0) rfl) rfl), (box_cell (hS332.res (i := 0) rfl) rfl), trivial⟩
          refine d_take (i := 0) rfl (by kernel_rfl) (by kernel_rfl) (by kernel_rfl) (fun c a w h => hP334 c _ _ _ _ h) rfl (by decide) hR325 (want_n rfl) (fun x hx => m_field (j' := 1) (st_yield hR325 rfl (by decide)) hR325 rfl rfl rfl Tryd.underlying32 rfl sz3 rfl rfl (by decide) (fun _ h => ⟨h.get _ _ rfl, rfl⟩)) hSw336 (fun a337 hR338 => ?_)
          refine d_take (i := 1) rfl (by kernel_rfl) (by kernel_rfl) (by kernel_rfl) (fun c a w h => hP334 c _ _ _ _ h) rfl (by decide) hR338 (want_n rfl) (fun x hx => m_loadC (st_yield hR338 rfl (by decide)) hR338 rfl rfl rfl hx.2.2.1 Tryd.underlying3 rfl (by decide) (fun _ h => ⟨h.get _ _ rfl, rfl⟩)) hSw336 (fun a339 hR340 => ?_)
          refine d_take (i := 2) rfl (by kernel_rfl) (by kernel_rfl) (by kernel_rfl) (fun c a w h => hP334 c _ _ _ _ h) rfl (by decide) hR340 (want_n rfl) (fun x hx => r_geq (st_yield hR340 rfl (by decide)) hR340 rfl rfl rfl rfl (by decide) (fun _ h => ⟨h.get _ _ rfl, rfl⟩)) hSw336 (fun a341 hR342 => ?_)
          refine d_take (i := 3) rfl (by kernel_rfl) (by kernel_rfl) (by kernel_rfl) (fun c a w h => hP334 c _ _ _ _ h) rfl (by decide) hR342 (want_n rfl) (fun x hx => r_move (st_yield hR342 rfl (by decide)) hR342 rfl rfl rfl (by decide) (fun _ h => ⟨h.get _ _ rfl, rfl⟩)) hSw336 (fun a343 hR344 => ?_)
          rcases Decidable.em (0 ≤ (n.N)) with h345 | h345
          · skip
            have hR346 := hR344.setb (d := 64) (b := true) rfl (decide_eq_true h345)
            refine d_take (i := 4) rfl (by kernel_rfl) (by kernel_rfl) (by kernel_rfl) (fun c a w h => hP334 c _ _ _ _ h) rfl (by decide) hR346 (want_t hR346 rfl rfl rfl (by decide) rfl) (fun x hx => m_field (j' := 1) (st_yield hR346 rfl (by decide)) hR346 rfl rfl rfl Tryd.underlying32 rfl sz3 rfl rfl (by decide) (fun _ h => ⟨h.get _ _ rfl, rfl⟩)) hSw336 (fun a347 hR348 => ?_)
            refine d_take (i := 5) rfl (by kernel_rfl) (by kernel_rfl) (by kernel_rfl) (fun c a w h => hP334 c _ _ _ _ h) rfl (by decide) hR348 (want_t hR348 rfl rfl rfl (by decide) rfl) (fun x hx => m_loadC (st_yield hR348 rfl (by decide)) hR348 rfl rfl rfl hx.2.2.1 Tryd.underlying3 rfl (by decide) (fun _ h => ⟨h.get _ _ rfl, rfl⟩)) hSw336 (fun a349 hR350 => ?_)
            refine d_take (i := 6) rfl (by kernel_rfl) (by kernel_rfl) (by kernel_rfl) (fun c a w h => hP334 c _ _ _ _ h) rfl (by decide) hR350 (want_t hR350 rfl rfl rfl (by decide) rfl) (fun x hx => m_field (j' := 0) (st_yield hR350 rfl (by decide)) hR350 rfl rfl rfl Tryd.underlying32 rfl sz3 rfl rfl (by decide) (fun _ h => ⟨h.get _ _ rfl, rfl⟩)) hSw336 (fun a351 hR352 => ?_)
            refine d_take (i := 7) rfl (by kernel_rfl) (by kernel_rfl) (by kernel_rfl) (fun c a w h => hP334 c _ _ _ _ h) rfl (by decide) hR352 (want_t hR352 rfl rfl rfl (by decide) rfl) (fun x hx => m_loadC (st_yield hR352 rfl (by decide)) hR352 rfl rfl rfl hx.2.1 Tryd.underlying3 rfl (by decide) (fun _ h => ⟨h.get _ _ rfl, rfl⟩)) hSw336 (fun a353 hR354 => ?_)
            refine d_one (i := 8) (by kernel_rfl) ?_
            have hS355 : St w0 Z none_ w331 [.box g8 32 [.int .i64 (n.K), .int .i64 (n.N), .int .i64 (n.M), .string n.S], .box g77 129 [.slice A68 ((shp (((n.K)).toNat)).b.length) c69, .bool ((shp (((n.K)).toNat)).n), .bool ((shp (((n.K)).toNat)).m), .bool ((shp (((n.K)).toNat)).s)]] [dShapes, dRow 1 A68 (shp (((n.K)).toNat)).b.length c69 (encIs (shp (((n.K)).toNat)).b), dAg w261 J328] := hS332
            refine k_call (xs := [.tmp 68]) (st_op rfl (want_t hR354 rfl rfl rfl (by decide) rfl)) hR354 rfl rfl rfl (by decide) ok130 (most_calls _ (imm Z w0 [.box g8 32 [.int .i64 (n.K), .int .i64 (n.N), .int .i64 (n.M), .string n.S], .box g77 129 [.slice A68 ((shp (((n.K)).toNat)).b.length) c69, .bool ((shp (((n.K)).toNat)).n), .bool ((shp (((n.K)).toNat)).m), .bool ((shp (((n.K)).toNat)).s)]] _) (fun _ h => h.1) (n.K)) ?_
            rintro e362 w357 ⟨rfl, hf360⟩
            have hS363 := hS355.below hf360.below
            refine ⟨_, rfl, fun a356 hR358 => ?_⟩
            have hSw364 : (∀ k, J328 k → w357.heap[k]? = w261.heap[k]?) ∧ (w357.cell? ⟨g8, 0, none⟩ = some (.int .i64 (n.K))) ∧ (w357.cell? ⟨g8, 1, none⟩ = some (.int .i64 (n.N))) ∧ (w357.cell? ⟨g8, 2, none⟩ = some (.int .i64 (n.M))) ∧ (w357.cell? ⟨g8, 3, none⟩ = some (.string n.S)) ∧ (True) := ⟨fun k hk => (hS363.get (i := 2) rfl k hk).2, (box_cell (hS363.res (i := 0) rfl) rfl), (box_cell (hS363.res (i := 0) rfl) rfl), (box_cell (hS363.res (i := 0) rfl) rfl), (box_cell (hS363.res (i := 0) rfl) rfl), trivial⟩
            refine ⟨hSw364, ?_⟩
            refine d_take (i := 9) rfl (by kernel_rfl) (by kernel_rfl) (by kernel_rfl) (fun c a w h => hP334 c _ _ _ _ h) rfl (by decide) hR358 (want_t hR358 rfl rfl rfl (by decide) rfl) (fun x hx => r_leq (st_yield hR358 rfl (by decide)) hR358 rfl rfl rfl rfl (by decide) (fun _ h => ⟨h.get _ _ rfl, rfl⟩)) hSw364 (fun a365 hR366 => ?_)
            refine d_take (i := 10) rfl (by kernel_rfl) (by kernel_rfl) (by kernel_rfl) (fun c a w h => hP334 c _ _ _ _ h) rfl (by decide) hR366 (want_n rfl) (fun x hx => r_pick_t (st_yield hR366 rfl (by decide)) hR366 rfl rfl rfl rfl (by decide) (fun _ h => ⟨h.get _ _ rfl, rfl⟩)) hSw364 (fun a367 hR368 => ?_)
            refine d_take (i := 11) rfl (by kernel_rfl) (by kernel_rfl) (by kernel_rfl) (fun c a w h => hP334 c _ _ _ _ h) rfl (by decide) hR368 (want_n rfl) (fun x hx => r_move (st_yield hR368 rfl (by decide)) hR368 rfl rfl rfl (by decide) (fun _ h => ⟨h.get _ _ rfl, rfl⟩)) hSw364 (fun a369 hR370 => ?_)
            rcases Decidable.em ((n.N) ≤ ((most (n.K)))) with h371 | h371
            · skip
              have hR372 := hR370.setb (d := 72) (b := true) rfl (decide_eq_true h371)
              refine d_take (i := 12) rfl (by kernel_rfl) (by kernel_rfl) (by kernel_rfl) (fun c a w h => hP334 c _ _ _ _ h) rfl (by decide) hR372 (want_t hR372 rfl rfl rfl (by decide) rfl) (fun x hx => m_field (j' := 2) (st_yield hR372 rfl (by decide)) hR372 rfl rfl rfl Tryd.underlying32 rfl sz3 rfl rfl (by decide) (fun _ h => ⟨h.get _ _ rfl, rfl⟩)) hSw364 (fun a373 hR374 => ?_)
              refine d_take (i := 13) rfl (by kernel_rfl) (by kernel_rfl) (by kernel_rfl) (fun c a w h => hP334 c _ _ _ _ h) rfl (by decide) hR374 (want_t hR374 rfl rfl rfl (by decide) rfl) (fun x hx => m_loadC (st_yield hR374 rfl (by decide)) hR374 rfl rfl rfl hx.2.2.2.1 Tryd.underlying3 rfl (by decide) (fun _ h => ⟨h.get _ _ rfl, rfl⟩)) hSw364 (fun a375 hR376 => ?_)
              refine d_take (i := 14) rfl (by kernel_rfl) (by kernel_rfl) (by kernel_rfl) (fun c a w h => hP334 c _ _ _ _ h) rfl (by decide) hR376 (want_t hR376 rfl rfl rfl (by decide) rfl) (fun x hx => r_geq (st_yield hR376 rfl (by decide)) hR376 rfl rfl rfl rfl (by decide) (fun _ h => ⟨h.get _ _ rfl, rfl⟩)) hSw364 (fun a377 hR378 => ?_)
              refine d_take (i := 15) rfl (by kernel_rfl) (by kernel_rfl) (by kernel_rfl) (fun c a w h => hP334 c _ _ _ _ h) rfl (by decide) hR378 (want_n rfl) (fun x hx => r_pick_t (st_yield hR378 rfl (by decide)) hR378 rfl rfl rfl rfl (by decide) (fun _ h => ⟨h.get _ _ rfl, rfl⟩)) hSw364 (fun a379 hR380 => ?_)
              refine d_take (i := 16) rfl (by kernel_rfl) (by kernel_rfl) (by kernel_rfl) (fun c a w h => hP334 c _ _ _ _ h) rfl (by decide) hR380 (want_n rfl) (fun x hx => r_move (st_yield hR380 rfl (by decide)) hR380 rfl rfl rfl (by decide) (fun _ h => ⟨h.get _ _ rfl, rfl⟩)) hSw364 (fun a381 hR382 => ?_)
              rcases Decidable.em (0 ≤ (n.M)) with h383 | h383
              · skip
                have hR384 := hR382.setb (d := 77) (b := true) rfl (decide_eq_true h383)
                refine d_take (i := 17) rfl (by kernel_rfl) (by kernel_rfl) (by kernel_rfl) (fun c a w h => hP334 c _ _ _ _ h) rfl (by decide) hR384 (want_t hR384 rfl rfl rfl (by decide) rfl) (fun x hx => m_field (j' := 2) (st_yield hR384 rfl (by decide)) hR384 rfl rfl rfl Tryd.underlying32 rfl sz3 rfl rfl (by decide) (fun _ h => ⟨h.get _ _ rfl, rfl⟩)) hSw364 (fun a385 hR386 => ?_)
                refine d_take (i := 18) rfl (by kernel_rfl) (by kernel_rfl) (by kernel_rfl) (fun c a w h => hP334 c _ _ _ _ h) rfl (by decide) hR386 (want_t hR386 rfl rfl rfl (by decide) rfl) (fun x hx => m_loadC (st_yield hR386 rfl (by decide)) hR386 rfl rfl rfl hx.2.2.2.1 Tryd.underlying3 rfl (by decide) (fun _ h => ⟨h.get _ _ rfl, rfl⟩)) hSw364 (fun a387 hR388 => ?_)
                refine d_take (i := 19) rfl (by kernel_rfl) (by kernel_rfl) (by kernel_rfl) (fun c a w h => hP334 c _ _ _ _ h) rfl (by decide) hR388 (want_t hR388 rfl rfl rfl (by decide) rfl) (fun x hx => r_leq (st_yield hR388 rfl (by decide)) hR388 rfl rfl rfl rfl (by decide) (fun _ h => ⟨h.get _ _ rfl, rfl⟩)) hSw364 (fun a389 hR390 => ?_)
                refine d_take (i := 20) rfl (by kernel_rfl) (by kernel_rfl) (by kernel_rfl) (fun c a w h => hP334 c _ _ _ _ h) rfl (by decide) hR390 (want_n rfl) (fun x hx => r_pick_t (st_yield hR390 rfl (by decide)) hR390 rfl rfl rfl rfl (by decide) (fun _ h => ⟨h.get _ _ rfl, rfl⟩)) hSw364 (fun a391 hR392 => ?_)
                refine d_take (i := 21) rfl (by kernel_rfl) (by kernel_rfl) (by kernel_rfl) (fun c a w h => hP334 c _ _ _ _ h) rfl (by decide) hR392 (want_n rfl) (fun x hx => r_assign (st_yield hR392 rfl (by decide)) hR392 rfl rfl rfl (by decide) (fun _ h => ⟨h.get _ _ rfl, rfl⟩)) hSw364 (fun a393 hR394 => ?_)
                refine wpAnyH_done (by kernel_rfl) (hN335 _ _ ?_) _
                refine x_then_n (hK327 _ _ ?_)
                refine wp_ret ?_
                refine x_block_r ?_
                refine x_then_r ?_
                refine e_ret1 hR394 rfl rfl ?_
                refine ⟨?_, hS363.fr⟩
                exact congrArg Ending.returned (ret_b (by first | exact (right_sort h264 (by assumption)).symm | exact (right_big h264).symm | (rw [right_con' h264 (by assumption)]; first | rfl | (simp <;> omega) | (simp [h48, h56, h58, h264, h292, h324, h345, h371, h383]; done) | (rw [Bool.eq_iff_iff]; simp <;> omega)) | (rw [right_elim' h264 (by assumption)]; first | rfl | (simp <;> omega) | (simp [h48, h56, h58, h264, h292, h324, h345, h371, h383]; done) | (rw [Bool.eq_iff_iff]; simp <;> omega)) | (rw [right_oth h264 (by omega) (by omega) (by assumption) (by assumption) (by assumption)]; first | rfl | (simp <;> omega) | (simp [h48, h56, h58, h264, h292, h324, h345, h371, h383]; done) | (rw [Bool.eq_iff_iff]; simp <;> omega))))
              · skip
                have hR395 := hR382.setb (d := 77) (b := false) rfl (decide_eq_false h383)
                refine d_pass (i := 17) rfl (by kernel_rfl) (by kernel_rfl) (by kernel_rfl) (fun c a w h => hP334 c _ _ _ _ h) rfl (by decide) hR395 (want_f hR395 rfl rfl rfl (by decide) rfl rfl) hSw364 (fun a396 hR397 => ?_)
                refine d_pass (i := 18) rfl (by kernel_rfl) (by kernel_rfl) (by kernel_rfl) (fun c a w h => hP334 c _ _ _ _ h) rfl (by decide) hR397 (want_f hR397 rfl rfl rfl (by decide) rfl rfl) hSw364 (fun a398 hR399 => ?_)
                refine d_pass (i := 19) rfl (by kernel_rfl) (by kernel_rfl) (by kernel_rfl) (fun c a w h => hP334 c _ _ _ _ h) rfl (by decide) hR399 (want_f hR399 rfl rfl rfl (by decide) rfl rfl) hSw364 (fun a400 hR401 => ?_)
                refine d_take (i := 20) rfl (by kernel_rfl) (by kernel_rfl) (by kernel_rfl) (fun c a w h => hP334 c _ _ _ _ h) rfl (by decide) hR401 (want_n rfl) (fun x hx => r_pick_f (st_yield hR401 rfl (by decide)) hR401 rfl rfl rfl rfl (by decide) (fun _ h => ⟨h.get _ _ rfl, rfl⟩)) hSw364 (fun a402 hR403 => ?_)
                refine d_take (i := 21) rfl (by kernel_rfl) (by kernel_rfl) (by kernel_rfl) (fun c a w h => hP334 c _ _ _ _ h) rfl (by decide) hR403 (want_n rfl) (fun x hx => r_assign (st_yield hR403 rfl (by decide)) hR403 rfl rfl rfl (by decide) (fun _ h => ⟨h.get _ _ rfl, rfl⟩)) hSw364 (fun a404 hR405 => ?_)
                refine wpAnyH_done (by kernel_rfl) (hN335 _ _ ?_) _
                refine x_then_n (hK327 _ _ ?_)
                refine wp_ret ?_
                refine x_block_r ?_
                refine x_then_r ?_
                refine e_ret1 hR405 rfl rfl ?_
                refine ⟨?_, hS363.fr⟩
                exact congrArg Ending.returned (ret_b (by first | exact (right_sort h264 (by assumption)).symm | exact (right_big h264).symm | (rw [right_con' h264 (by assumption)]; first | rfl | (simp <;> omega) | (simp [h48, h56, h58, h264, h292, h324, h345, h371, h383]; done) | (rw [Bool.eq_iff_iff]; simp <;> omega)) | (rw [right_elim' h264 (by assumption)]; first | rfl | (simp <;> omega) | (simp [h48, h56, h58, h264, h292, h324, h345, h371, h383]; done) | (rw [Bool.eq_iff_iff]; simp <;> omega)) | (rw [right_oth h264 (by omega) (by omega) (by assumption) (by assumption) (by assumption)]; first | rfl | (simp <;> omega) | (simp [h48, h56, h58, h264, h292, h324, h345, h371, h383]; done) | (rw [Bool.eq_iff_iff]; simp <;> omega))))
            · skip
              have hR406 := hR370.setb (d := 72) (b := false) rfl (decide_eq_false h371)
              refine d_pass (i := 12) rfl (by kernel_rfl) (by kernel_rfl) (by kernel_rfl) (fun c a w h => hP334 c _ _ _ _ h) rfl (by decide) hR406 (want_f hR406 rfl rfl rfl (by decide) rfl rfl) hSw364 (fun a407 hR408 => ?_)
              refine d_pass (i := 13) rfl (by kernel_rfl) (by kernel_rfl) (by kernel_rfl) (fun c a w h => hP334 c _ _ _ _ h) rfl (by decide) hR408 (want_f hR408 rfl rfl rfl (by decide) rfl rfl) hSw364 (fun a409 hR410 => ?_)
              refine d_pass (i := 14) rfl (by kernel_rfl) (by kernel_rfl) (by kernel_rfl) (fun c a w h => hP334 c _ _ _ _ h) rfl (by decide) hR410 (want_f hR410 rfl rfl rfl (by decide) rfl rfl) hSw364 (fun a411 hR412 => ?_)
              refine d_take (i := 15) rfl (by kernel_rfl) (by kernel_rfl) (by kernel_rfl) (fun c a w h => hP334 c _ _ _ _ h) rfl (by decide) hR412 (want_n rfl) (fun x hx => r_pick_f (st_yield hR412 rfl (by decide)) hR412 rfl rfl rfl rfl (by decide) (fun _ h => ⟨h.get _ _ rfl, rfl⟩)) hSw364 (fun a413 hR414 => ?_)
              refine d_take (i := 16) rfl (by kernel_rfl) (by kernel_rfl) (by kernel_rfl) (fun c a w h => hP334 c _ _ _ _ h) rfl (by decide) hR414 (want_n rfl) (fun x hx => r_move (st_yield hR414 rfl (by decide)) hR414 rfl rfl rfl (by decide) (fun _ h => ⟨h.get _ _ rfl, rfl⟩)) hSw364 (fun a415 hR416 => ?_)
              refine d_pass (i := 17) rfl (by kernel_rfl) (by kernel_rfl) (by kernel_rfl) (fun c a w h => hP334 c _ _ _ _ h) rfl (by decide) hR416 (want_f hR416 rfl rfl rfl (by decide) rfl rfl) hSw364 (fun a417 hR418 => ?_)
              refine d_pass (i := 18) rfl (by kernel_rfl) (by kernel_rfl) (by kernel_rfl) (fun c a w h => hP334 c _ _ _ _ h) rfl (by decide) hR418 (want_f hR418 rfl rfl rfl (by decide) rfl rfl) hSw364 (fun a419 hR420 => ?_)
              refine d_pass (i := 19) rfl (by kernel_rfl) (by kernel_rfl) (by kernel_rfl) (fun c a w h => hP334 c _ _ _ _ h) rfl (by decide) hR420 (want_f hR420 rfl rfl rfl (by decide) rfl rfl) hSw364 (fun a421 hR422 => ?_)
              refine d_take (i := 20) rfl (by kernel_rfl) (by kernel_rfl) (by kernel_rfl) (fun c a w h => hP334 c _ _ _ _ h) rfl (by decide) hR422 (want_n rfl) (fun x hx => r_pick_f (st_yield hR422 rfl (by decide)) hR422 rfl rfl rfl rfl (by decide) (fun _ h => ⟨h.get _ _ rfl, rfl⟩)) hSw364 (fun a423 hR424 => ?_)
              refine d_take (i := 21) rfl (by kernel_rfl) (by kernel_rfl) (by kernel_rfl) (fun c a w h => hP334 c _ _ _ _ h) rfl (by decide) hR424 (want_n rfl) (fun x hx => r_assign (st_yield hR424 rfl (by decide)) hR424 rfl rfl rfl (by decide) (fun _ h => ⟨h.get _ _ rfl, rfl⟩)) hSw364 (fun a425 hR426 => ?_)
              refine wpAnyH_done (by kernel_rfl) (hN335 _ _ ?_) _
              refine x_then_n (hK327 _ _ ?_)
              refine wp_ret ?_
              refine x_block_r ?_
              refine x_then_r ?_
              refine e_ret1 hR426 rfl rfl ?_
              refine ⟨?_, hS363.fr⟩
              exact congrArg Ending.returned (ret_b (by first | exact (right_sort h264 (by assumption)).symm | exact (right_big h264).symm | (rw [right_con' h264 (by assumption)]; first | rfl | (simp <;> omega) | (simp [h48, h56, h58, h264, h292, h324, h345, h371]; done) | (rw [Bool.eq_iff_iff]; simp <;> omega)) | (rw [right_elim' h264 (by assumption)]; first | rfl | (simp <;> omega) | (simp [h48, h56, h58, h264, h292, h324, h345, h371]; done) | (rw [Bool.eq_iff_iff]; simp <;> omega)) | (rw [right_oth h264 (by omega) (by omega) (by assumption) (by assumption) (by assumption)]; first | rfl | (simp <;> omega) | (simp [h48, h56, h58, h264, h292, h324, h345, h371]; done) | (rw [Bool.eq_iff_iff]; simp <;> omega))))
          · skip
            have hR427 := hR344.setb (d := 64) (b := false) rfl (decide_eq_false h345)
            refine d_pass (i := 4) rfl (by kernel_rfl) (by kernel_rfl) (by kernel_rfl) (fun c a w h => hP334 c _ _ _ _ h) rfl (by decide) hR427 (want_f hR427 rfl rfl rfl (by decide) rfl rfl) hSw336 (fun a428 hR429 => ?_)
            refine d_pass (i := 5) rfl (by kernel_rfl) (by kernel_rfl) (by kernel_rfl) (fun c a w h => hP334 c _ _ _ _ h) rfl (by decide) hR429 (want_f hR429 rfl rfl rfl (by decide) rfl rfl) hSw336 (fun a430 hR431 => ?_)
            refine d_pass (i := 6) rfl (by kernel_rfl) (by kernel_rfl) (by kernel_rfl) (fun c a w h => hP334 c _ _ _ _ h) rfl (by decide) hR431 (want_f hR431 rfl rfl rfl (by decide) rfl rfl) hSw336 (fun a432 hR433 => ?_)
            refine d_pass (i := 7) rfl (by kernel_rfl) (by kernel_rfl) (by kernel_rfl) (fun c a w h => hP334 c _ _ _ _ h) rfl (by decide) hR433 (want_f hR433 rfl rfl rfl (by decide) rfl rfl) hSw336 (fun a434 hR435 => ?_)
            refine d_pass (i := 8) rfl (by kernel_rfl) (by kernel_rfl) (by kernel_rfl) (fun c a w h => hP334 c _ _ _ _ h) rfl (by decide) hR435 (want_f hR435 rfl rfl rfl (by decide) rfl rfl) hSw336 (fun a436 hR437 => ?_)
            refine d_pass (i := 9) rfl (by kernel_rfl) (by kernel_rfl) (by kernel_rfl) (fun c a w h => hP334 c _ _ _ _ h) rfl (by decide) hR437 (want_f hR437 rfl rfl rfl (by decide) rfl rfl) hSw336 (fun a438 hR439 => ?_)
            refine d_take (i := 10) rfl (by kernel_rfl) (by kernel_rfl) (by kernel_rfl) (fun c a w h => hP334 c _ _ _ _ h) rfl (by decide) hR439 (want_n rfl) (fun x hx => r_pick_f (st_yield hR439 rfl (by decide)) hR439 rfl rfl rfl rfl (by decide) (fun _ h => ⟨h.get _ _ rfl, rfl⟩)) hSw336 (fun a440 hR441 => ?_)
            refine d_take (i := 11) rfl (by kernel_rfl) (by kernel_rfl) (by kernel_rfl) (fun c a w h => hP334 c _ _ _ _ h) rfl (by decide) hR441 (want_n rfl) (fun x hx => r_move (st_yield hR441 rfl (by decide)) hR441 rfl rfl rfl (by decide) (fun _ h => ⟨h.get _ _ rfl, rfl⟩)) hSw336 (fun a442 hR443 => ?_)
            refine d_pass (i := 12) rfl (by kernel_rfl) (by kernel_rfl) (by kernel_rfl) (fun c a w h => hP334 c _ _ _ _ h) rfl (by decide) hR443 (want_f hR443 rfl rfl rfl (by decide) rfl rfl) hSw336 (fun a444 hR445 => ?_)
            refine d_pass (i := 13) rfl (by kernel_rfl) (by kernel_rfl) (by kernel_rfl) (fun c a w h => hP334 c _ _ _ _ h) rfl (by decide) hR445 (want_f hR445 rfl rfl rfl (by decide) rfl rfl) hSw336 (fun a446 hR447 => ?_)
            refine d_pass (i := 14) rfl (by kernel_rfl) (by kernel_rfl) (by kernel_rfl) (fun c a w h => hP334 c _ _ _ _ h) rfl (by decide) hR447 (want_f hR447 rfl rfl rfl (by decide) rfl rfl) hSw336 (fun a448 hR449 => ?_)
            refine d_take (i := 15) rfl (by kernel_rfl) (by kernel_rfl) (by kernel_rfl) (fun c a w h => hP334 c _ _ _ _ h) rfl (by decide) hR449 (want_n rfl) (fun x hx => r_pick_f (st_yield hR449 rfl (by decide)) hR449 rfl rfl rfl rfl (by decide) (fun _ h => ⟨h.get _ _ rfl, rfl⟩)) hSw336 (fun a450 hR451 => ?_)
            refine d_take (i := 16) rfl (by kernel_rfl) (by kernel_rfl) (by kernel_rfl) (fun c a w h => hP334 c _ _ _ _ h) rfl (by decide) hR451 (want_n rfl) (fun x hx => r_move (st_yield hR451 rfl (by decide)) hR451 rfl rfl rfl (by decide) (fun _ h => ⟨h.get _ _ rfl, rfl⟩)) hSw336 (fun a452 hR453 => ?_)
            refine d_pass (i := 17) rfl (by kernel_rfl) (by kernel_rfl) (by kernel_rfl) (fun c a w h => hP334 c _ _ _ _ h) rfl (by decide) hR453 (want_f hR453 rfl rfl rfl (by decide) rfl rfl) hSw336 (fun a454 hR455 => ?_)
            refine d_pass (i := 18) rfl (by kernel_rfl) (by kernel_rfl) (by kernel_rfl) (fun c a w h => hP334 c _ _ _ _ h) rfl (by decide) hR455 (want_f hR455 rfl rfl rfl (by decide) rfl rfl) hSw336 (fun a456 hR457 => ?_)
            refine d_pass (i := 19) rfl (by kernel_rfl) (by kernel_rfl) (by kernel_rfl) (fun c a w h => hP334 c _ _ _ _ h) rfl (by decide) hR457 (want_f hR457 rfl rfl rfl (by decide) rfl rfl) hSw336 (fun a458 hR459 => ?_)
            refine d_take (i := 20) rfl (by kernel_rfl) (by kernel_rfl) (by kernel_rfl) (fun c a w h => hP334 c _ _ _ _ h) rfl (by decide) hR459 (want_n rfl) (fun x hx => r_pick_f (st_yield hR459 rfl (by decide)) hR459 rfl rfl rfl rfl (by decide) (fun _ h => ⟨h.get _ _ rfl, rfl⟩)) hSw336 (fun a460 hR461 => ?_)
            refine d_take (i := 21) rfl (by kernel_rfl) (by kernel_rfl) (by kernel_rfl) (fun c a w h => hP334 c _ _ _ _ h) rfl (by decide) hR461 (want_n rfl) (fun x hx => r_assign (st_yield hR461 rfl (by decide)) hR461 rfl rfl rfl (by decide) (fun _ h => ⟨h.get _ _ rfl, rfl⟩)) hSw336 (fun a462 hR463 => ?_)
            refine wpAnyH_done (by kernel_rfl) (hN335 _ _ ?_) _
            refine x_then_n (hK327 _ _ ?_)
            refine wp_ret ?_
            refine x_block_r ?_
            refine x_then_r ?_
            refine e_ret1 hR463 rfl rfl ?_
            refine ⟨?_, hS332.fr⟩
            exact congrArg Ending.returned (ret_b (by first | exact (right_sort h264 (by assumption)).symm | exact (right_big h264).symm | (rw [right_con' h264 (by assumption)]; first | rfl | (simp <;> omega) | (simp [h48, h56, h58, h264, h292, h324, h345]; done) | (rw [Bool.eq_iff_iff]; simp <;> omega)) | (rw [right_elim' h264 (by assumption)]; first | rfl | (simp <;> omega) | (simp [h48, h56, h58, h264, h292, h324, h345]; done) | (rw [Bool.eq_iff_iff]; simp <;> omega)) | (rw [right_oth h264 (by omega) (by omega) (by assumption) (by assumption) (by assumption)]; first | rfl | (simp <;> omega) | (simp [h48, h56, h58, h264, h292, h324, h345]; done) | (rw [Bool.eq_iff_iff]; simp <;> omega))))
        · skip
          have hR464 := hR323.setb (d := 57) (b := false) rfl (decide_eq_false h324)
          refine wp_cond_false (hR464.ev rfl) ?_
          refine wp_seq_k (fun K465 hK466 => ?_)
          refine c_region ?_
          refine m_field (j' := 0) (st_listV rfl) hR464 rfl rfl rfl Tryd.underlying32 rfl sz3 rfl rfl (by decide) (fun a467 hR468 => ?_)
          refine m_load (i := 0) (st_listV rfl) hR468 hS263 rfl rfl rfl rfl rfl Tryd.underlying3 rfl (by decide) (fun a469 hR470 => ?_)
          refine r_eql (st_listV rfl) hR470 rfl rfl rfl rfl (by decide) (fun a471 hR472 => ?_)
          refine r_assign (st_listV rfl) hR472 rfl rfl rfl (by decide) (fun a473 hR474 => ?_)
          refine wpList_nil ?_
          refine x_then_n (hK466 _ _ ?_)
          rcases Decidable.em ((n.K) = 27) with h475 | h475
          · skip
            have hR476 := hR474.setb (d := 82) (b := true) rfl (decide_eq_true h475)
            refine wp_cond_true (hR476.ev rfl) ?_
            refine wp_seq_k (fun K477 hK478 => ?_)
            refine c_region ?_
            refine m_field (j' := 2) (st_listV rfl) hR476 rfl rfl rfl Tryd.underlying32 rfl sz3 rfl rfl (by decide) (fun a479 hR480 => ?_)
            refine m_load (i := 0) (st_listV rfl) hR480 hS263 rfl rfl rfl rfl rfl Tryd.underlying3 rfl (by decide) (fun a481 hR482 => ?_)
            refine r_geq (st_listV rfl) hR482 rfl rfl rfl rfl (by decide) (fun a483 hR484 => ?_)
            refine r_move (st_listV rfl) hR484 rfl rfl rfl (by decide) (fun a485 hR486 => ?_)
            refine l_join (fun ga gw => Reg ga 110 [(1, .pointer (some ⟨g8, 0, none⟩)), (2, .bool false), (3, .pointer (some ⟨g77, 0, none⟩)), (93, .bool ((decide (0 ≤ (n.M))) && (decide ((n.M) ≤ 6))))] ∧ St w0 Z none_ gw [.box g8 32 [.int .i64 (n.K), .int .i64 (n.N), .int .i64 (n.M), .string n.S], .box g77 129 [.slice A68 ((shp (((n.K)).toNat)).b.length) c69, .bool ((shp (((n.K)).toNat)).n), .bool ((shp (((n.K)).toNat)).m), .bool ((shp (((n.K)).toNat)).s)]] [dShapes, dRow 1 A68 (shp (((n.K)).toNat)).b.length c69 (encIs (shp (((n.K)).toNat)).b)]) 4 ?_ ?_
            · skip
              rcases Decidable.em (0 ≤ (n.M)) with h487 | h487
              · skip
                have hR488 := hR486.setb (d := 89) (b := true) rfl (decide_eq_true h487)
                refine m_field (j' := 2) (st_listV_w (want_t hR488 rfl rfl rfl (by decide) rfl)) hR488 rfl rfl rfl Tryd.underlying32 rfl sz3 rfl rfl (by decide) (fun a489 hR490 => ?_)
                refine m_load (i := 0) (st_listV_w (want_t hR490 rfl rfl rfl (by decide) rfl)) hR490 hS263 rfl rfl rfl rfl rfl Tryd.underlying3 rfl (by decide) (fun a491 hR492 => ?_)
                refine r_leq (st_listV_w (want_t hR492 rfl rfl rfl (by decide) rfl)) hR492 rfl rfl rfl rfl (by decide) (fun a493 hR494 => ?_)
                refine r_pick_t (st_listV rfl) hR494 rfl rfl rfl rfl (by decide) (fun a495 hR496 => ?_)
                refine wpList_nil ?_
                exact x_then_n ⟨(Reg.cons hR496 (Reg.cons hR496 (Reg.cons hR496 (Reg.consb hR496 (hR496.nil) rfl (by first | rfl | (simp only [decide_eq_true h487, if_pos h487, Bool.true_and, Bool.and_true, Bool.false_and, Bool.and_false, Bool.true_or, Bool.or_true, Bool.false_or, Bool.or_false, Bool.not_true, Bool.not_false, if_true, ite_true, ite_false, Bool.false_eq_true]; done) | (simp [h487]; done) | (simp [h487]; omega))) rfl) rfl) rfl), hS263⟩
              · skip
                have hR497 := hR486.setb (d := 89) (b := false) rfl (decide_eq_false h487)
                refine s_pass hR497 rfl (by decide) (want_f hR497 rfl rfl rfl (by decide) rfl rfl) (fun a498 hR499 => ?_)
                refine s_pass hR499 rfl (by decide) (want_f hR499 rfl rfl rfl (by decide) rfl rfl) (fun a500 hR501 => ?_)
                refine s_pass hR501 rfl (by decide) (want_f hR501 rfl rfl rfl (by decide) rfl rfl) (fun a502 hR503 => ?_)
                refine r_pick_f (st_listV rfl) hR503 rfl rfl rfl rfl (by decide) (fun a504 hR505 => ?_)
                refine wpList_nil ?_
                exact x_then_n ⟨(Reg.cons hR505 (Reg.cons hR505 (Reg.cons hR505 (Reg.consb hR505 (hR505.nil) rfl (by first | rfl | (simp only [decide_eq_false h487, if_neg h487, Bool.true_and, Bool.and_true, Bool.false_and, Bool.and_false, Bool.true_or, Bool.or_true, Bool.false_or, Bool.or_false, Bool.not_true, Bool.not_false, if_true, ite_true, ite_false, Bool.false_eq_true]; done) | (simp [h487]; done) | (simp [h487]; omega))) rfl) rfl) rfl), hS263⟩
            rintro a506 w507 ⟨hR508, hS509⟩
            refine r_assign (st_listV rfl) hR508 rfl rfl rfl (by decide) (fun a510 hR511 => ?_)
            refine wpList_nil ?_
            refine x_then_n (hK478 _ _ ?_)
            refine wp_ret ?_
            refine x_block_r ?_
            refine x_then_r ?_
            refine e_ret1 hR511 rfl rfl ?_
            refine ⟨?_, hS509.fr⟩
            exact congrArg Ending.returned (ret_b (by first | exact (right_sort h264 (by assumption)).symm | exact (right_big h264).symm | (rw [right_con' h264 (by assumption)]; first | rfl | (simp <;> omega) | (simp [h48, h56, h58, h264, h292, h324, h475]; done) | (rw [Bool.eq_iff_iff]; simp <;> omega)) | (rw [right_elim' h264 (by assumption)]; first | rfl | (simp <;> omega) | (simp [h48, h56, h58, h264, h292, h324, h475]; done) | (rw [Bool.eq_iff_iff]; simp <;> omega)) | (rw [right_oth h264 (by omega) (by omega) (by assumption) (by assumption) (by assumption)]; first | rfl | (simp <;> omega) | (simp [h48, h56, h58, h264, h292, h324, h475]; done) | (rw [Bool.eq_iff_iff]; simp <;> omega))))
          · skip
            have hR512 := hR474.setb (d := 82) (b := false) rfl (decide_eq_false h475)
            refine wp_cond_false (hR512.ev rfl) ?_
            refine wp_skip ?_
            refine x_block_n ?_
            refine x_then_n (hK85 _ _ ?_)
            refine wp_seq_k (fun K513 hK514 => ?_)
            obtain ⟨J515, hJ516, hS517⟩ := hS263.agree
            refine d_region2 (S := (fun x => (∀ k, J515 k → x.heap[k]? = w261.heap[k]?) ∧ (x.cell? ⟨g8, 0, none⟩ = some (.int .i64 (n.K))) ∧ (x.cell? ⟨g8, 1, none⟩ = some (.int .i64 (n.N))) ∧ (x.cell? ⟨g8, 2, none⟩ = some (.int .i64 (n.M))) ∧ (x.cell? ⟨g8, 3, none⟩ = some (.string n.S)) ∧ (x.cell? ⟨g77, 0, none⟩ = some (.slice A68 ((shp (((n.K)).toNat)).b.length) c69)) ∧ (x.cell? ⟨g77, 1, none⟩ = some (.bool ((shp (((n.K)).toNat)).n))) ∧ (x.cell? ⟨g77, 2, none⟩ = some (.bool ((shp (((n.K)).toNat)).m))) ∧ (x.cell? ⟨g77, 3, none⟩ = some (.bool ((shp (((n.K)).toNat)).s))) ∧ (True))) (n := 17) mixed rfl hS517 (pan_then pan_body) (fun Q520 hP521 hN522 w518 hS519 => ?_)
            have hSw523 : (∀ k, J515 k → w518.heap[k]? = w261.heap[k]?) ∧ (w518.cell? ⟨g8, 0, none⟩ = some (.int .i64 (n.K))) ∧ (w518.cell? ⟨g8, 1, none⟩ = some (.int .i64 (n.N))) ∧ (w518.cell? ⟨g8, 2, none⟩ = some (.int .i64 (n.M))) ∧ (w518.cell? ⟨g8, 3, none⟩ = some (.string n.S)) ∧ (w518.cell? ⟨g77, 0, none⟩ = some (.slice A68 ((shp (((n.K)).toNat)).b.length) c69)) ∧ (w518.cell? ⟨g77, 1, none⟩ = some (.bool ((shp (((n.K)).toNat)).n))) ∧ (w518.cell? ⟨g77, 2, none⟩ = some (.bool ((shp (((n.K)).toNat)).m))) ∧ (w518.cell? ⟨g77, 3, none⟩ = some (.bool ((shp (((n.K)).toNat)).s))) ∧ (True) := ⟨fun k hk => (hS519.get (i := 2) rfl k hk).2, (box_cell (hS519.res (i := 0) rfl) rfl), (box_cell (hS519.res (i := 0) rfl) rfl), (box_cell (hS519.res (i := 0) rfl) rfl), (box_cell (hS519.res (i := 0) rfl) rfl), (box_cell (hS519.res (i := 1) rfl) rfl), (box_cell (hS519.res (i := 1) rfl) rfl), (box_cell (hS519.res (i := 1) rfl) rfl), (box_cell (hS519.res (i := 1) rfl) rfl), trivial⟩
            refine d_take (i := 0) rfl (by kernel_rfl) (by kernel_rfl) (by kernel_rfl) (fun c a w h => hP521 c _ _ _ _ h) rfl (by decide) hR512 (want_n rfl) (fun x hx => m_field (j' := 1) (st_yield hR512 rfl (by decide)) hR512 rfl rfl rfl Tryd.underlying129 rfl sz4 rfl rfl (by decide) (fun _ h => ⟨h.get _ _ rfl, rfl⟩)) hSw523 (fun a524 hR525 => ?_)
            refine d_take (i := 1) rfl (by kernel_rfl) (by kernel_rfl) (by kernel_rfl) (fun c a w h => hP521 c _ _ _ _ h) rfl (by decide) hR525 (want_n rfl) (fun x hx => m_loadC (st_yield hR525 rfl (by decide)) hR525 rfl rfl rfl hx.2.2.2.2.2.2.1 Tryd.underlying4 rfl (by decide) (fun _ h => ⟨h.get _ _ rfl, rfl⟩)) hSw523 (fun a526 hR527 => ?_)
            refine d_take (i := 2) rfl (by kernel_rfl) (by kernel_rfl) (by kernel_rfl) (fun c a w h => hP521 c _ _ _ _ h) rfl (by decide) hR527 (want_n rfl) (fun x hx => r_not (st_yield hR527 rfl (by decide)) hR527 rfl rfl rfl (by decide) (fun _ h => ⟨h.get _ _ rfl, rfl⟩)) hSw523 (fun a528 hR529 => ?_)
            refine d_take (i := 3) rfl (by kernel_rfl) (by kernel_rfl) (by kernel_rfl) (fun c a w h => hP521 c _ _ _ _ h) rfl (by decide) hR529 (want_n rfl) (fun x hx => r_move (st_yield hR529 rfl (by decide)) hR529 rfl rfl rfl (by decide) (fun _ h => ⟨h.get _ _ rfl, rfl⟩)) hSw523 (fun a530 hR531 => ?_)
            rcases Bool.eq_false_or_eq_true ((shp (((n.K)).toNat)).n) with h532 | h532
            · skip
              have hR533 := hR531.setb (d := 97) (b := false) rfl (by rw [h532]; rfl)
              refine d_take (i := 4) rfl (by kernel_rfl) (by kernel_rfl) (by kernel_rfl) (fun c a w h => hP521 c _ _ _ _ h) rfl (by decide) hR533 (want_t hR533 rfl rfl rfl (by decide) rfl) (fun x hx => m_field (j' := 1) (st_yield hR533 rfl (by decide)) hR533 rfl rfl rfl Tryd.underlying32 rfl sz3 rfl rfl (by decide) (fun _ h => ⟨h.get _ _ rfl, rfl⟩)) hSw523 (fun a534 hR535 => ?_)
              refine d_take (i := 5) rfl (by kernel_rfl) (by kernel_rfl) (by kernel_rfl) (fun c a w h => hP521 c _ _ _ _ h) rfl (by decide) hR535 (want_t hR535 rfl rfl rfl (by decide) rfl) (fun x hx => m_loadC (st_yield hR535 rfl (by decide)) hR535 rfl rfl rfl hx.2.2.1 Tryd.underlying3 rfl (by decide) (fun _ h => ⟨h.get _ _ rfl, rfl⟩)) hSw523 (fun a536 hR537 => ?_)
              refine d_take (i := 6) rfl (by kernel_rfl) (by kernel_rfl) (by kernel_rfl) (fun c a w h => hP521 c _ _ _ _ h) rfl (by decide) hR537 (want_t hR537 rfl rfl rfl (by decide) rfl) (fun x hx => r_geq (st_yield hR537 rfl (by decide)) hR537 rfl rfl rfl rfl (by decide) (fun _ h => ⟨h.get _ _ rfl, rfl⟩)) hSw523 (fun a538 hR539 => ?_)
              refine d_take (i := 7) rfl (by kernel_rfl) (by kernel_rfl) (by kernel_rfl) (fun c a w h => hP521 c _ _ _ _ h) rfl (by decide) hR539 (want_t hR539 rfl rfl rfl (by decide) rfl) (fun x hx => r_move (st_yield hR539 rfl (by decide)) hR539 rfl rfl rfl (by decide) (fun _ h => ⟨h.get _ _ rfl, rfl⟩)) hSw523 (fun a540 hR541 => ?_)
              rcases Decidable.em (0 ≤ (n.N)) with h542 | h542
              · skip
                have hR543 := hR541.setb (d := 101) (b := true) rfl (decide_eq_true h542)
                refine d_take (i := 8) rfl (by kernel_rfl) (by kernel_rfl) (by kernel_rfl) (fun c a w h => hP521 c _ _ _ _ h) rfl (by decide) hR543 (want_t hR543 rfl rfl rfl (by decide) rfl) (fun x hx => m_field (j' := 1) (st_yield hR543 rfl (by decide)) hR543 rfl rfl rfl Tryd.underlying32 rfl sz3 rfl rfl (by decide) (fun _ h => ⟨h.get _ _ rfl, rfl⟩)) hSw523 (fun a544 hR545 => ?_)
                refine d_take (i := 9) rfl (by kernel_rfl) (by kernel_rfl) (by kernel_rfl) (fun c a w h => hP521 c _ _ _ _ h) rfl (by decide) hR545 (want_t hR545 rfl rfl rfl (by decide) rfl) (fun x hx => m_loadC (st_yield hR545 rfl (by decide)) hR545 rfl rfl rfl hx.2.2.1 Tryd.underlying3 rfl (by decide) (fun _ h => ⟨h.get _ _ rfl, rfl⟩)) hSw523 (fun a546 hR547 => ?_)
                refine d_take (i := 10) rfl (by kernel_rfl) (by kernel_rfl) (by kernel_rfl) (fun c a w h => hP521 c _ _ _ _ h) rfl (by decide) hR547 (want_t hR547 rfl rfl rfl (by decide) rfl) (fun x hx => m_field (j' := 0) (st_yield hR547 rfl (by decide)) hR547 rfl rfl rfl Tryd.underlying32 rfl sz3 rfl rfl (by decide) (fun _ h => ⟨h.get _ _ rfl, rfl⟩)) hSw523 (fun a548 hR549 => ?_)
                refine d_take (i := 11) rfl (by kernel_rfl) (by kernel_rfl) (by kernel_rfl) (fun c a w h => hP521 c _ _ _ _ h) rfl (by decide) hR549 (want_t hR549 rfl rfl rfl (by decide) rfl) (fun x hx => m_loadC (st_yield hR549 rfl (by decide)) hR549 rfl rfl rfl hx.2.1 Tryd.underlying3 rfl (by decide) (fun _ h => ⟨h.get _ _ rfl, rfl⟩)) hSw523 (fun a550 hR551 => ?_)
                refine d_one (i := 12) (by kernel_rfl) ?_
                have hS552 : St w0 Z none_ w518 [.box g8 32 [.int .i64 (n.K), .int .i64 (n.N), .int .i64 (n.M), .string n.S], .box g77 129 [.slice A68 ((shp (((n.K)).toNat)).b.length) c69, .bool ((shp (((n.K)).toNat)).n), .bool ((shp (((n.K)).toNat)).m), .bool ((shp (((n.K)).toNat)).s)]] [dShapes, dRow 1 A68 (shp (((n.K)).toNat)).b.length c69 (encIs (shp (((n.K)).toNat)).b), dAg w261 J515] := hS519
                refine k_call (xs := [.tmp 105]) (st_op rfl (want_t hR551 rfl rfl rfl (by decide) rfl)) hR551 rfl rfl rfl (by decide) ok130 (most_calls _ (imm Z w0 [.box g8 32 [.int .i64 (n.K), .int .i64 (n.N), .int .i64 (n.M), .string n.S], .box g77 129 [.slice A68 ((shp (((n.K)).toNat)).b.length) c69, .bool ((shp (((n.K)).toNat)).n), .bool ((shp (((n.K)).toNat)).m), .bool ((shp (((n.K)).toNat)).s)]] _) (fun _ h => h.1) (n.K)) ?_
                rintro e559 w554 ⟨rfl, hf557⟩
                have hS560 := hS552.below hf557.below
                refine ⟨_, rfl, fun a553 hR555 => ?_⟩
                have hSw561 : (∀ k, J515 k → w554.heap[k]? = w261.heap[k]?) ∧ (w554.cell? ⟨g8, 0, none⟩ = some (.int .i64 (n.K))) ∧ (w554.cell? ⟨g8, 1, none⟩ = some (.int .i64 (n.N))) ∧ (w554.cell? ⟨g8, 2, none⟩ = some (.int .i64 (n.M))) ∧ (w554.cell? ⟨g8, 3, none⟩ = some (.string n.S)) ∧ (w554.cell? ⟨g77, 0, none⟩ = some (.slice A68 ((shp (((n.K)).toNat)).b.length) c69)) ∧ (w554.cell? ⟨g77, 1, none⟩ = some (.bool ((shp (((n.K)).toNat)).n))) ∧ (w554.cell? ⟨g77, 2, none⟩ = some (.bool ((shp (((n.K)).toNat)).m))) ∧ (w554.cell? ⟨g77, 3, none⟩ = some (.bool ((shp (((n.K)).toNat)).s))) ∧ (True) := ⟨fun k hk => (hS560.get (i := 2) rfl k hk).2, (box_cell (hS560.res (i := 0) rfl) rfl), (box_cell (hS560.res (i := 0) rfl) rfl), (box_cell (hS560.res (i := 0) rfl) rfl), (box_cell (hS560.res (i := 0) rfl) rfl), (box_cell (hS560.res (i := 1) rfl) rfl), (box_cell (hS560.res (i := 1) rfl) rfl), (box_cell (hS560.res (i := 1) rfl) rfl), (box_cell (hS560.res (i := 1) rfl) rfl), trivial⟩
                refine ⟨hSw561, ?_⟩
                refine d_take (i := 13) rfl (by kernel_rfl) (by kernel_rfl) (by kernel_rfl) (fun c a w h => hP521 c _ _ _ _ h) rfl (by decide) hR555 (want_t hR555 rfl rfl rfl (by decide) rfl) (fun x hx => r_leq (st_yield hR555 rfl (by decide)) hR555 rfl rfl rfl rfl (by decide) (fun _ h => ⟨h.get _ _ rfl, rfl⟩)) hSw561 (fun a562 hR563 => ?_)
                refine d_take (i := 14) rfl (by kernel_rfl) (by kernel_rfl) (by kernel_rfl) (fun c a w h => hP521 c _ _ _ _ h) rfl (by decide) hR563 (want_t hR563 rfl rfl rfl (by decide) rfl) (fun x hx => r_pick_t (st_yield hR563 rfl (by decide)) hR563 rfl rfl rfl rfl (by decide) (fun _ h => ⟨h.get _ _ rfl, rfl⟩)) hSw561 (fun a564 hR565 => ?_)
                refine d_take (i := 15) rfl (by kernel_rfl) (by kernel_rfl) (by kernel_rfl) (fun c a w h => hP521 c _ _ _ _ h) rfl (by decide) hR565 (want_n rfl) (fun x hx => r_pick_f (st_yield hR565 rfl (by decide)) hR565 rfl rfl rfl rfl (by decide) (fun _ h => ⟨h.get _ _ rfl, rfl⟩)) hSw561 (fun a566 hR567 => ?_)
                refine d_take (i := 16) rfl (by kernel_rfl) (by kernel_rfl) (by kernel_rfl) (fun c a w h => hP521 c _ _ _ _ h) rfl (by decide) hR567 (want_n rfl) (fun x hx => r_assign (st_yield hR567 rfl (by decide)) hR567 rfl rfl rfl (by decide) (fun _ h => ⟨h.get _ _ rfl, rfl⟩)) hSw561 (fun a568 hR569 => ?_)
                refine wpAnyH_done (by kernel_rfl) (hN522 _ _ ?_) _
                refine x_then_n (hK514 _ _ ?_)
                refine wp_ret ?_
                refine e_ret1 hR569 rfl rfl ?_
                refine ⟨?_, hS560.fr⟩
                exact congrArg Ending.returned (ret_b (by first | exact (right_sort h264 (by assumption)).symm | exact (right_big h264).symm | (rw [right_con' h264 (by assumption)]; first | rfl | (simp <;> omega) | (simp [h48, h56, h58, h264, h292, h324, h475, h532, h542]; done) | (rw [Bool.eq_iff_iff]; simp <;> omega)) | (rw [right_elim' h264 (by assumption)]; first | rfl | (simp <;> omega) | (simp [h48, h56, h58, h264, h292, h324, h475, h532, h542]; done) | (rw [Bool.eq_iff_iff]; simp <;> omega)) | (rw [right_oth h264 (by omega) (by omega) (by assumption) (by assumption) (by assumption)]; first | rfl | (simp <;> omega) | (simp [h48, h56, h58, h264, h292, h324, h475, h532, h542]; done) | (rw [Bool.eq_iff_iff]; simp <;> omega))))
              · skip
                have hR570 := hR541.setb (d := 101) (b := false) rfl (decide_eq_false h542)
                refine d_pass (i := 8) rfl (by kernel_rfl) (by kernel_rfl) (by kernel_rfl) (fun c a w h => hP521 c _ _ _ _ h) rfl (by decide) hR570 (want_f hR570 rfl rfl rfl (by decide) rfl rfl) hSw523 (fun a571 hR572 => ?_)
                refine d_pass (i := 9) rfl (by kernel_rfl) (by kernel_rfl) (by kernel_rfl) (fun c a w h => hP521 c _ _ _ _ h) rfl (by decide) hR572 (want_f hR572 rfl rfl rfl (by decide) rfl rfl) hSw523 (fun a573 hR574 => ?_)
                refine d_pass (i := 10) rfl (by kernel_rfl) (by kernel_rfl) (by kernel_rfl) (fun c a w h => hP521 c _ _ _ _ h) rfl (by decide) hR574 (want_f hR574 rfl rfl rfl (by decide) rfl rfl) hSw523 (fun a575 hR576 => ?_)
                refine d_pass (i := 11) rfl (by kernel_rfl) (by kernel_rfl) (by kernel_rfl) (fun c a w h => hP521 c _ _ _ _ h) rfl (by decide) hR576 (want_f hR576 rfl rfl rfl (by decide) rfl rfl) hSw523 (fun a577 hR578 => ?_)
                refine d_pass (i := 12) rfl (by kernel_rfl) (by kernel_rfl) (by kernel_rfl) (fun c a w h => hP521 c _ _ _ _ h) rfl (by decide) hR578 (want_f hR578 rfl rfl rfl (by decide) rfl rfl) hSw523 (fun a579 hR580 => ?_)
                refine d_pass (i := 13) rfl (by kernel_rfl) (by kernel_rfl) (by kernel_rfl) (fun c a w h => hP521 c _ _ _ _ h) rfl (by decide) hR580 (want_f hR580 rfl rfl rfl (by decide) rfl rfl) hSw523 (fun a581 hR582 => ?_)
                refine d_take (i := 14) rfl (by kernel_rfl) (by kernel_rfl) (by kernel_rfl) (fun c a w h => hP521 c _ _ _ _ h) rfl (by decide) hR582 (want_t hR582 rfl rfl rfl (by decide) rfl) (fun x hx => r_pick_f (st_yield hR582 rfl (by decide)) hR582 rfl rfl rfl rfl (by decide) (fun _ h => ⟨h.get _ _ rfl, rfl⟩)) hSw523 (fun a583 hR584 => ?_)
                refine d_take (i := 15) rfl (by kernel_rfl) (by kernel_rfl) (by kernel_rfl) (fun c a w h => hP521 c _ _ _ _ h) rfl (by decide) hR584 (want_n rfl) (fun x hx => r_pick_f (st_yield hR584 rfl (by decide)) hR584 rfl rfl rfl rfl (by decide) (fun _ h => ⟨h.get _ _ rfl, rfl⟩)) hSw523 (fun a585 hR586 => ?_)
                refine d_take (i := 16) rfl (by kernel_rfl) (by kernel_rfl) (by kernel_rfl) (fun c a w h => hP521 c _ _ _ _ h) rfl (by decide) hR586 (want_n rfl) (fun x hx => r_assign (st_yield hR586 rfl (by decide)) hR586 rfl rfl rfl (by decide) (fun _ h => ⟨h.get _ _ rfl, rfl⟩)) hSw523 (fun a587 hR588 => ?_)
                refine wpAnyH_done (by kernel_rfl) (hN522 _ _ ?_) _
                refine x_then_n (hK514 _ _ ?_)
                refine wp_ret ?_
                refine e_ret1 hR588 rfl rfl ?_
                refine ⟨?_, hS519.fr⟩
                exact congrArg Ending.returned (ret_b (by first | exact (right_sort h264 (by assumption)).symm | exact (right_big h264).symm | (rw [right_con' h264 (by assumption)]; first | rfl | (simp <;> omega) | (simp [h48, h56, h58, h264, h292, h324, h475, h532, h542]; done) | (rw [Bool.eq_iff_iff]; simp <;> omega)) | (rw [right_elim' h264 (by assumption)]; first | rfl | (simp <;> omega) | (simp [h48, h56, h58, h264, h292, h324, h475, h532, h542]; done) | (rw [Bool.eq_iff_iff]; simp <;> omega)) | (rw [right_oth h264 (by omega) (by omega) (by assumption) (by assumption) (by assumption)]; first | rfl | (simp <;> omega) | (simp [h48, h56, h58, h264, h292, h324, h475, h532, h542]; done) | (rw [Bool.eq_iff_iff]; simp <;> omega))))
            · skip
              have hR589 := hR531.setb (d := 97) (b := true) rfl (by rw [h532]; rfl)
              refine d_pass (i := 4) rfl (by kernel_rfl) (by kernel_rfl) (by kernel_rfl) (fun c a w h => hP521 c _ _ _ _ h) rfl (by decide) hR589 (want_f hR589 rfl rfl rfl (by decide) rfl rfl) hSw523 (fun a590 hR591 => ?_)
              refine d_pass (i := 5) rfl (by kernel_rfl) (by kernel_rfl) (by kernel_rfl) (fun c a w h => hP521 c _ _ _ _ h) rfl (by decide) hR591 (want_f hR591 rfl rfl rfl (by decide) rfl rfl) hSw523 (fun a592 hR593 => ?_)
              refine d_pass (i := 6) rfl (by kernel_rfl) (by kernel_rfl) (by kernel_rfl) (fun c a w h => hP521 c _ _ _ _ h) rfl (by decide) hR593 (want_f hR593 rfl rfl rfl (by decide) rfl rfl) hSw523 (fun a594 hR595 => ?_)
              refine d_pass (i := 7) rfl (by kernel_rfl) (by kernel_rfl) (by kernel_rfl) (fun c a w h => hP521 c _ _ _ _ h) rfl (by decide) hR595 (want_f hR595 rfl rfl rfl (by decide) rfl rfl) hSw523 (fun a596 hR597 => ?_)
              refine d_pass (i := 8) rfl (by kernel_rfl) (by kernel_rfl) (by kernel_rfl) (fun c a w h => hP521 c _ _ _ _ h) rfl (by decide) hR597 (want_u hR597 rfl rfl rfl (by decide) rfl) hSw523 (fun a598 hR599 => ?_)
              refine d_pass (i := 9) rfl (by kernel_rfl) (by kernel_rfl) (by kernel_rfl) (fun c a w h => hP521 c _ _ _ _ h) rfl (by decide) hR599 (want_u hR599 rfl rfl rfl (by decide) rfl) hSw523 (fun a600 hR601 => ?_)
              refine d_pass (i := 10) rfl (by kernel_rfl) (by kernel_rfl) (by kernel_rfl) (fun c a w h => hP521 c _ _ _ _ h) rfl (by decide) hR601 (want_u hR601 rfl rfl rfl (by decide) rfl) hSw523 (fun a602 hR603 => ?_)
              refine d_pass (i := 11) rfl (by kernel_rfl) (by kernel_rfl) (by kernel_rfl) (fun c a w h => hP521 c _ _ _ _ h) rfl (by decide) hR603 (want_u hR603 rfl rfl rfl (by decide) rfl) hSw523 (fun a604 hR605 => ?_)
              refine d_pass (i := 12) rfl (by kernel_rfl) (by kernel_rfl) (by kernel_rfl) (fun c a w h => hP521 c _ _ _ _ h) rfl (by decide) hR605 (want_u hR605 rfl rfl rfl (by decide) rfl) hSw523 (fun a606 hR607 => ?_)
              refine d_pass (i := 13) rfl (by kernel_rfl) (by kernel_rfl) (by kernel_rfl) (fun c a w h => hP521 c _ _ _ _ h) rfl (by decide) hR607 (want_u hR607 rfl rfl rfl (by decide) rfl) hSw523 (fun a608 hR609 => ?_)
              refine d_pass (i := 14) rfl (by kernel_rfl) (by kernel_rfl) (by kernel_rfl) (fun c a w h => hP521 c _ _ _ _ h) rfl (by decide) hR609 (want_f hR609 rfl rfl rfl (by decide) rfl rfl) hSw523 (fun a610 hR611 => ?_)
              refine d_take (i := 15) rfl (by kernel_rfl) (by kernel_rfl) (by kernel_rfl) (fun c a w h => hP521 c _ _ _ _ h) rfl (by decide) hR611 (want_n rfl) (fun x hx => r_pick_t (st_yield hR611 rfl (by decide)) hR611 rfl rfl rfl rfl (by decide) (fun _ h => ⟨h.get _ _ rfl, rfl⟩)) hSw523 (fun a612 hR613 => ?_)
              refine d_take (i := 16) rfl (by kernel_rfl) (by kernel_rfl) (by kernel_rfl) (fun c a w h => hP521 c _ _ _ _ h) rfl (by decide) hR613 (want_n rfl) (fun x hx => r_assign (st_yield hR613 rfl (by decide)) hR613 rfl rfl rfl (by decide) (fun _ h => ⟨h.get _ _ rfl, rfl⟩)) hSw523 (fun a614 hR615 => ?_)
              refine wpAnyH_done (by kernel_rfl) (hN522 _ _ ?_) _
              refine x_then_n (hK514 _ _ ?_)
              refine wp_ret ?_
              refine e_ret1 hR615 rfl rfl ?_
              refine ⟨?_, hS519.fr⟩
              exact congrArg Ending.returned (ret_b (by first | exact (right_sort h264 (by assumption)).symm | exact (right_big h264).symm | (rw [right_con' h264 (by assumption)]; first | rfl | (simp <;> omega) | (simp [h48, h56, h58, h264, h292, h324, h475, h532]; done) | (rw [Bool.eq_iff_iff]; simp <;> omega)) | (rw [right_elim' h264 (by assumption)]; first | rfl | (simp <;> omega) | (simp [h48, h56, h58, h264, h292, h324, h475, h532]; done) | (rw [Bool.eq_iff_iff]; simp <;> omega)) | (rw [right_oth h264 (by omega) (by omega) (by assumption) (by assumption) (by assumption)]; first | rfl | (simp <;> omega) | (simp [h48, h56, h58, h264, h292, h324, h475, h532]; done) | (rw [Bool.eq_iff_iff]; simp <;> omega))))
end Go.Proofs.YtobgdeffhdefeaaDoor
