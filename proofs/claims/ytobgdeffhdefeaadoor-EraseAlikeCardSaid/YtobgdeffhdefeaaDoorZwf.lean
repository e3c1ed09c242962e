import Derived.Test.YtobgdeffhdefeaaDoorZwe
/- Contracts of functions, one theorem each: what the call returns, and that nothing old is changed. Printed by gen.py. -/
namespace Go.Proofs.YtobgdeffhdefeaaDoor
open Go Go.RowKit
set_option linter.unusedSimpArgs false
set_option linter.unusedVariables false

set_option maxRecDepth 100000 in
set_option maxHeartbeats 1000000 in
theorem right_calls (w0 : World) (Z : Nat → Prop) (hZ : ∀ k, Z k → k < w0.heap.size) (n : Nd) (hShp : Shapes w0 Z) (hs : n.S.size < 1000000) :
    Calls Tryd.prog 112 [.agg #[.int .i64 (n.K), .int .i64 (n.N), .int .i64 (n.M), .string n.S]].toArray w0 (fun e w' => e = .returned (.bool (right n)) ∧ Fr none_ w0 w') := by
  have hstart : ∀ k, Z k → imm Z w0 [] w0 k ∧ w0.heap[k]? = w0.heap[k]? := fun k hk => ⟨⟨hZ k hk, fun _ => hk, fun _ h => by cases h⟩, rfl⟩
  have hS3 : St w0 Z none_ w0 [] [dShapes] := St.start w0 Z none_ _ (by
    intro d hd
    simp only [List.mem_cons, List.not_mem_nil, or_false] at hd
    rcases hd with rfl
    · exact Dat.mono _ _ _ _ _ (Nat.le_refl _) hShp hstart
    )
  refine c_enter Tryd.func112 rfl Tryd.ntmps112 rfl (fun a1 hR2 => ?_)
  refine wp_seq_k (fun K4 hK5 => ?_)
  refine c_region ?_
  refine m_box (cs := [.int .i64 (n.K), .int .i64 (n.N), .int .i64 (n.M), .string n.S]) sv hR2 hS3 rfl rfl rfl rfl (by decide) (fun a6 w7 g8 hR9 hS10 => ?_)
  refine asg hR9 (fun a11 hR12 => ?_)
  refine wpList_nil (x_then_n (hK5 _ _ ?_))
  refine wp_seq_k (fun K13 hK14 => ?_)
  refine wp_seq_k (fun K15 hK16 => ?_)
  refine c_region ?_
  refine m_field (j' := 0) sv hR12 rfl rfl rfl Tryd.underlying32 rfl sz3 rfl rfl (by decide) (fun a17 hR18 => ?_)
  refine m_load (i := 0) sv hR18 hS10 rfl rfl rfl rfl rfl Tryd.underlying3 rfl (by decide) (fun a19 hR20 => ?_)
  refine r_lss sv hR20 rfl rfl rfl rfl (by decide) (fun a21 hR22 => ?_)
  refine mv hR22 (fun a23 hR24 => ?_)
  refine l_join (fun ga gw => Reg ga 110 [(1, .pointer (some ⟨g8, 0, none⟩)), (2, .bool false), (11, .bool ((decide ((n.K) < 0)) || (decide (30 ≤ (n.K))))), (1000000, .bool false)] ∧ St w0 Z none_ gw [.box g8 32 [.int .i64 (n.K), .int .i64 (n.N), .int .i64 (n.M), .string n.S]] [dShapes]) 4 ?_ ?_
  · skip
    rcases Decidable.em ((n.K) < 0) with h25 | h25
    · skip
      have hR26 := hR24.setb (d := 7) (b := true) rfl (decide_eq_true h25)
      refine sps hR26 (wff hR26) (fun a27 hR28 => ?_)
      refine sps hR28 (wff hR28) (fun a29 hR30 => ?_)
      refine sps hR30 (wff hR30) (fun a31 hR32 => ?_)
      refine r_pick_t sv hR32 rfl rfl rfl rfl (by decide) (fun a33 hR34 => ?_)
      refine wpList_nil ?_
      exact x_then_n ⟨(hR34.sub (rc rfl (rc rfl (rc (rb rfl (by first | rfl | (simp only [decide_eq_true h25, if_pos h25, bl]; done) | (simp [h25]; done) | (simp [h25]; omega))) (rc rfl rnl))))), hS10⟩
    · skip
      have hR35 := hR24.setb (d := 7) (b := false) rfl (decide_eq_false h25)
      refine m_field (j' := 0) (st_listV_w (wt hR35)) hR35 rfl rfl rfl Tryd.underlying32 rfl sz3 rfl rfl (by decide) (fun a36 hR37 => ?_)
      refine m_load (i := 0) (st_listV_w (wt hR37)) hR37 hS10 rfl rfl rfl rfl rfl Tryd.underlying3 rfl (by decide) (fun a38 hR39 => ?_)
      refine r_geq (st_listV_w (wt hR39)) hR39 rfl rfl rfl rfl (by decide) (fun a40 hR41 => ?_)
      refine r_pick_f sv hR41 rfl rfl rfl rfl (by decide) (fun a42 hR43 => ?_)
      refine wpList_nil ?_
      exact x_then_n ⟨(hR43.sub (rc rfl (rc rfl (rc (rb rfl (by first | rfl | (simp only [decide_eq_false h25, if_neg h25, bl]; done) | (simp [h25]; done) | (simp [h25]; omega))) (rc rfl rnl))))), hS10⟩
  rintro a44 w45 ⟨hR46, hS47⟩
  refine wpList_nil (x_then_n (hK16 _ _ ?_))
  rcases Bool.eq_false_or_eq_true (((decide ((n.K) < 0)) || (decide (30 ≤ (n.K))))) with h48 | h48
  · skip
    have hq49 := h48
    try simp only [Bool.or_eq_true, Bool.and_eq_true, Bool.not_eq_true', Bool.not_eq_false', decide_eq_true_eq, decide_eq_false_iff_not, Bool.or_eq_false_iff, Bool.and_eq_false_iff] at hq49
    have hR50 := hR46.setb (d := 11) (b := true) rfl h48
    refine wp_cond_true (hR50.ev rfl) ?_
    refine wp_seq_k (fun K51 hK52 => ?_)
    refine c_region ?_
    refine asg hR50 (fun a53 hR54 => ?_)
    refine wpList_nil (x_then_n (hK52 _ _ ?_))
    refine wp_ret ?_
    refine x_then_r ?_
    refine e_ret1 hR54 rfl rfl rfl ?_
    refine ⟨?_, hS47.fr⟩
    exact congrArg Ending.returned (ret_b (by exact (right_bad (by omega)).symm))
  · skip
    have h55 := or_fl h48
    have h56 := of_decide_eq_false h55
    have h57 := or_fr h48
    have h58 := of_decide_eq_false h57
    have hR59 := hR46.setb (d := 11) (b := false) rfl h48
    refine wp_cond_false (hR59.ev rfl) ?_
    refine wp_skip ?_
    refine x_then_n (hK14 _ _ ?_)
    refine wp_seq_k (fun K60 hK61 => ?_)
    refine c_region ?_
    refine m_field (j' := 0) sv hR59 rfl rfl rfl Tryd.underlying32 rfl sz3 rfl rfl (by decide) (fun a62 hR63 => ?_)
    refine m_load (i := 0) sv hR63 hS47 rfl rfl rfl rfl rfl Tryd.underlying3 rfl (by decide) (fun a64 hR65 => ?_)
    refine m_indexA (i := ((n.K)).toNat) (j := (((n.K)).toNat) * 4) sv hR65 rfl rfl rfl rfl Tryd.underlying130 sz129 (by omega) (by omega) rfl (by decide) (fun a66 hR67 => ?_)
    obtain ⟨A68, c69, hd70, he71⟩ := shapes_at (hS47.get (i := 0) rfl) (((n.K)).toNat) (by omega)
    have hS72 := hS47.data (dRow 1 A68 (shp (((n.K)).toNat)).b.length c69 (encIs (shp (((n.K)).toNat)).b)) hd70
    refine m_loadEN sv hR67 rfl rfl rfl he71 Tryd.underlying129 rfl sz129 (by decide) (fun a73 hR74 => ?_)
    refine m_alloc (cs := [.slice none 0 0, .bool false, .bool false, .bool false]) sv hR74 hS72 rfl rfl ze129 rfl (by decide) (fun a75 w76 g77 hR78 hS79 => ?_)
    refine m_store (i := 1) (cs' := [.slice A68 ((shp (((n.K)).toNat)).b.length) c69, .bool ((shp (((n.K)).toNat)).n), .bool ((shp (((n.K)).toNat)).m), .bool ((shp (((n.K)).toNat)).s)]) se hR78 hS79 rfl rfl rfl rfl rfl sz129 rfl rfl rfl (fun a80 w81 hR82 hS83 => ?_)
    refine wpList_nil (x_then_n (hK61 _ _ ?_))
    refine wp_seq_k (fun K84 hK85 => ?_)
    refine wp_block ?_
    refine c_join (fun ga gw => Reg ga 110 [(1, .pointer (some ⟨g8, 0, none⟩)), (2, .bool false), (3, .pointer (some ⟨g77, 0, none⟩)), (16, .bool (((!((shp (((n.K)).toNat)).n)) && (!(decide ((n.N) = 0)))) || (((!((shp (((n.K)).toNat)).m)) && (!(decide ((n.M) = 0)))) || (((!((shp (((n.K)).toNat)).s)) && (!(decide (n.S = (⟨#[]⟩ : ByteArray))))) || (((shp (((n.K)).toNat)).s) && (!(nameOk n.S))))))), (1000000, .bool false)] ∧ St w0 Z none_ gw [.box g8 32 [.int .i64 (n.K), .int .i64 (n.N), .int .i64 (n.M), .string n.S], .box g77 129 [.slice A68 ((shp (((n.K)).toNat)).b.length) c69, .bool ((shp (((n.K)).toNat)).n), .bool ((shp (((n.K)).toNat)).m), .bool ((shp (((n.K)).toNat)).s)]] [dShapes, dRow 1 A68 (shp (((n.K)).toNat)).b.length c69 (encIs (shp (((n.K)).toNat)).b)]) ?_ ?_
    · skip
      refine wp_seq_k (fun K86 hK87 => ?_)
      refine c_region ?_
      refine m_field (j' := 1) sv hR82 rfl rfl rfl Tryd.underlying129 rfl sz4 rfl rfl (by decide) (fun a88 hR89 => ?_)
      refine m_load (i := 1) sv hR89 hS83 rfl rfl rfl rfl rfl Tryd.underlying4 rfl (by decide) (fun a90 hR91 => ?_)
      refine r_not sv hR91 rfl rfl rfl (by decide) (fun a92 hR93 => ?_)
      refine mv hR93 (fun a94 hR95 => ?_)
      refine l_join (fun ga gw => Reg ga 110 [(1, .pointer (some ⟨g8, 0, none⟩)), (2, .bool false), (3, .pointer (some ⟨g77, 0, none⟩)), (24, .bool ((!((shp (((n.K)).toNat)).n)) && (!(decide ((n.N) = 0))))), (1000000, .bool false)] ∧ St w0 Z none_ gw [.box g8 32 [.int .i64 (n.K), .int .i64 (n.N), .int .i64 (n.M), .string n.S], .box g77 129 [.slice A68 ((shp (((n.K)).toNat)).b.length) c69, .bool ((shp (((n.K)).toNat)).n), .bool ((shp (((n.K)).toNat)).m), .bool ((shp (((n.K)).toNat)).s)]] [dShapes, dRow 1 A68 (shp (((n.K)).toNat)).b.length c69 (encIs (shp (((n.K)).toNat)).b)]) 4 ?_ ?_
      · skip
        rcases Bool.eq_false_or_eq_true ((shp (((n.K)).toNat)).n) with h96 | h96
        · skip
          have hR97 := hR95.setb (d := 20) (b := false) rfl (by rw [h96]; rfl)
          refine sps hR97 (wff hR97) (fun a98 hR99 => ?_)
          refine sps hR99 (wff hR99) (fun a100 hR101 => ?_)
          refine sps hR101 (wff hR101) (fun a102 hR103 => ?_)
          refine r_pick_f sv hR103 rfl rfl rfl rfl (by decide) (fun a104 hR105 => ?_)
          refine wpList_nil ?_
          exact x_then_n ⟨(hR105.sub (rc rfl (rc rfl (rc rfl (rc (rb rfl (by first | rfl | (simp only [h96, bl]; done) | (simp [h96]; done) | (simp [h96]; omega))) (rc rfl rnl)))))), hS83⟩
        · skip
          have hR106 := hR95.setb (d := 20) (b := true) rfl (by rw [h96]; rfl)
          refine m_field (j' := 1) (st_listV_w (wt hR106)) hR106 rfl rfl rfl Tryd.underlying32 rfl sz3 rfl rfl (by decide) (fun a107 hR108 => ?_)
          refine m_load (i := 0) (st_listV_w (wt hR108)) hR108 hS83 rfl rfl rfl rfl rfl Tryd.underlying3 rfl (by decide) (fun a109 hR110 => ?_)
          refine r_neq (st_listV_w (wt hR110)) hR110 rfl rfl rfl rfl (by decide) (fun a111 hR112 => ?_)
          refine r_pick_t sv hR112 rfl rfl rfl rfl (by decide) (fun a113 hR114 => ?_)
          refine wpList_nil ?_
          exact x_then_n ⟨(hR114.sub (rc rfl (rc rfl (rc rfl (rc (rb rfl (by first | rfl | (simp only [h96, bl]; done) | (simp [h96]; done) | (simp [h96]; omega))) (rc rfl rnl)))))), hS83⟩
      rintro a115 w116 ⟨hR117, hS118⟩
      refine asg hR117 (fun a119 hR120 => ?_)
      refine wpList_nil (x_then_n (hK87 _ _ ?_))
      rcases Bool.eq_false_or_eq_true (((!((shp (((n.K)).toNat)).n)) && (!(decide ((n.N) = 0))))) with h121 | h121
      · skip
        have h122 := and_tl h121
        have h123 := not_t h122
        have h124 := and_tr h121
        have h125 := not_t h124
        have h126 := of_decide_eq_false h125
        have hR127 := hR120.setb (d := 16) (b := true) rfl h121
        refine wp_cond_true (hR127.ev rfl) ?_
        refine wp_skip ?_
        exact x_then_n ⟨(hR127.sub (rc rfl (rc rfl (rc rfl (rc (rb rfl (by first | rfl | (simp only [h121, bl]; done) | (simp [h121]; done) | (simp [h121]; omega))) (rc rfl rnl)))))), hS118⟩
      · skip
        have hq128 := h121
        try simp only [Bool.or_eq_true, Bool.and_eq_true, Bool.not_eq_true', Bool.not_eq_false', decide_eq_true_eq, decide_eq_false_iff_not, Bool.or_eq_false_iff, Bool.and_eq_false_iff] at hq128
        have hR129 := hR120.setb (d := 16) (b := false) rfl h121
        refine wp_cond_false (hR129.ev rfl) ?_
        refine wp_seq_k (fun K130 hK131 => ?_)
        refine c_region ?_
        refine m_field (j' := 2) sv hR129 rfl rfl rfl Tryd.underlying129 rfl sz4 rfl rfl (by decide) (fun a132 hR133 => ?_)
        refine m_load (i := 1) sv hR133 hS118 rfl rfl rfl rfl rfl Tryd.underlying4 rfl (by decide) (fun a134 hR135 => ?_)
        refine r_not sv hR135 rfl rfl rfl (by decide) (fun a136 hR137 => ?_)
        refine mv hR137 (fun a138 hR139 => ?_)
        refine l_join (fun ga gw => Reg ga 110 [(1, .pointer (some ⟨g8, 0, none⟩)), (2, .bool false), (3, .pointer (some ⟨g77, 0, none⟩)), (16, .bool false), (32, .bool ((!((shp (((n.K)).toNat)).m)) && (!(decide ((n.M) = 0))))), (1000000, .bool false)] ∧ St w0 Z none_ gw [.box g8 32 [.int .i64 (n.K), .int .i64 (n.N), .int .i64 (n.M), .string n.S], .box g77 129 [.slice A68 ((shp (((n.K)).toNat)).b.length) c69, .bool ((shp (((n.K)).toNat)).n), .bool ((shp (((n.K)).toNat)).m), .bool ((shp (((n.K)).toNat)).s)]] [dShapes, dRow 1 A68 (shp (((n.K)).toNat)).b.length c69 (encIs (shp (((n.K)).toNat)).b)]) 4 ?_ ?_
        · skip
          rcases Bool.eq_false_or_eq_true ((shp (((n.K)).toNat)).m) with h140 | h140
          · skip
            have hR141 := hR139.setb (d := 28) (b := false) rfl (by rw [h140]; rfl)
            refine sps hR141 (wff hR141) (fun a142 hR143 => ?_)
            refine sps hR143 (wff hR143) (fun a144 hR145 => ?_)
            refine sps hR145 (wff hR145) (fun a146 hR147 => ?_)
            refine r_pick_f sv hR147 rfl rfl rfl rfl (by decide) (fun a148 hR149 => ?_)
            refine wpList_nil ?_
            exact x_then_n ⟨(hR149.sub (rc rfl (rc rfl (rc rfl (rc rfl (rc (rb rfl (by first | rfl | (simp only [h140, bl]; done) | (simp [h140]; done) | (simp [h140]; omega))) (rc rfl rnl))))))), hS118⟩
          · skip
            have hR150 := hR139.setb (d := 28) (b := true) rfl (by rw [h140]; rfl)
            refine m_field (j' := 2) (st_listV_w (wt hR150)) hR150 rfl rfl rfl Tryd.underlying32 rfl sz3 rfl rfl (by decide) (fun a151 hR152 => ?_)
            refine m_load (i := 0) (st_listV_w (wt hR152)) hR152 hS118 rfl rfl rfl rfl rfl Tryd.underlying3 rfl (by decide) (fun a153 hR154 => ?_)
            refine r_neq (st_listV_w (wt hR154)) hR154 rfl rfl rfl rfl (by decide) (fun a155 hR156 => ?_)
            refine r_pick_t sv hR156 rfl rfl rfl rfl (by decide) (fun a157 hR158 => ?_)
            refine wpList_nil ?_
            exact x_then_n ⟨(hR158.sub (rc rfl (rc rfl (rc rfl (rc rfl (rc (rb rfl (by first | rfl | (simp only [h140, bl]; done) | (simp [h140]; done) | (simp [h140]; omega))) (rc rfl rnl))))))), hS118⟩
        rintro a159 w160 ⟨hR161, hS162⟩
        refine asg hR161 (fun a163 hR164 => ?_)
        refine wpList_nil (x_then_n (hK131 _ _ ?_))
        rcases Bool.eq_false_or_eq_true (((!((shp (((n.K)).toNat)).m)) && (!(decide ((n.M) = 0))))) with h165 | h165
        · skip
          have h166 := and_tl h165
          have h167 := not_t h166
          have h168 := and_tr h165
          have h169 := not_t h168
          have h170 := of_decide_eq_false h169
          have hR171 := hR164.setb (d := 16) (b := true) rfl h165
          refine wp_cond_true (hR171.ev rfl) ?_
          refine wp_skip ?_
          exact x_then_n ⟨(hR171.sub (rc rfl (rc rfl (rc rfl (rc (rb rfl (by first | rfl | (simp only [h121, h165, bl]; done) | (simp [h121, h165]; done) | (simp [h121, h165]; omega))) (rc rfl rnl)))))), hS162⟩
        · skip
          have hq172 := h165
          try simp only [Bool.or_eq_true, Bool.and_eq_true, Bool.not_eq_true', Bool.not_eq_false', decide_eq_true_eq, decide_eq_false_iff_not, Bool.or_eq_false_iff, Bool.and_eq_false_iff] at hq172
          have hR173 := hR164.setb (d := 16) (b := false) rfl h165
          refine wp_cond_false (hR173.ev rfl) ?_
          refine wp_seq_k (fun K174 hK175 => ?_)
          refine c_region ?_
          refine m_field (j' := 3) sv hR173 rfl rfl rfl Tryd.underlying129 rfl sz4 rfl rfl (by decide) (fun a176 hR177 => ?_)
          refine m_load (i := 1) sv hR177 hS162 rfl rfl rfl rfl rfl Tryd.underlying4 rfl (by decide) (fun a178 hR179 => ?_)
          refine r_not sv hR179 rfl rfl rfl (by decide) (fun a180 hR181 => ?_)
          refine mv hR181 (fun a182 hR183 => ?_)
          refine l_join (fun ga gw => Reg ga 110 [(1, .pointer (some ⟨g8, 0, none⟩)), (2, .bool false), (3, .pointer (some ⟨g77, 0, none⟩)), (16, .bool false), (40, .bool ((!((shp (((n.K)).toNat)).s)) && (!(decide (n.S = (⟨#[]⟩ : ByteArray)))))), (1000000, .bool false)] ∧ St w0 Z none_ gw [.box g8 32 [.int .i64 (n.K), .int .i64 (n.N), .int .i64 (n.M), .string n.S], .box g77 129 [.slice A68 ((shp (((n.K)).toNat)).b.length) c69, .bool ((shp (((n.K)).toNat)).n), .bool ((shp (((n.K)).toNat)).m), .bool ((shp (((n.K)).toNat)).s)]] [dShapes, dRow 1 A68 (shp (((n.K)).toNat)).b.length c69 (encIs (shp (((n.K)).toNat)).b)]) 4 ?_ ?_
          · skip
            rcases Bool.eq_false_or_eq_true ((shp (((n.K)).toNat)).s) with h184 | h184
            · skip
              have hR185 := hR183.setb (d := 36) (b := false) rfl (by rw [h184]; rfl)
              refine sps hR185 (wff hR185) (fun a186 hR187 => ?_)
              refine sps hR187 (wff hR187) (fun a188 hR189 => ?_)
              refine sps hR189 (wff hR189) (fun a190 hR191 => ?_)
              refine r_pick_f sv hR191 rfl rfl rfl rfl (by decide) (fun a192 hR193 => ?_)
              refine wpList_nil ?_
              exact x_then_n ⟨(hR193.sub (rc rfl (rc rfl (rc rfl (rc rfl (rc (rb rfl (by first | rfl | (simp only [h184, bl]; done) | (simp [h184]; done) | (simp [h184]; omega))) (rc rfl rnl))))))), hS162⟩
            · skip
              have hR194 := hR183.setb (d := 36) (b := true) rfl (by rw [h184]; rfl)
              refine m_field (j' := 3) (st_listV_w (wt hR194)) hR194 rfl rfl rfl Tryd.underlying32 rfl sz9 rfl rfl (by decide) (fun a195 hR196 => ?_)
              refine m_load (i := 0) (st_listV_w (wt hR196)) hR196 hS162 rfl rfl rfl rfl rfl Tryd.underlying9 rfl (by decide) (fun a197 hR198 => ?_)
              refine r_neqS (st_listV_w (wt hR198)) hR198 rfl rfl rfl rfl (by decide) (fun a199 hR200 => ?_)
              refine r_pick_t sv hR200 rfl rfl rfl rfl (by decide) (fun a201 hR202 => ?_)
              refine wpList_nil ?_
              exact x_then_n ⟨(hR202.sub (rc rfl (rc rfl (rc rfl (rc rfl (rc (rb rfl (by first | rfl | (simp only [h184, bl]; done) | (simp [h184]; done) | (simp [h184]; omega))) (rc rfl rnl))))))), hS162⟩
          rintro a203 w204 ⟨hR205, hS206⟩
          refine asg hR205 (fun a207 hR208 => ?_)
          refine wpList_nil (x_then_n (hK175 _ _ ?_))
          rcases Bool.eq_false_or_eq_true (((!((shp (((n.K)).toNat)).s)) && (!(decide (n.S = (⟨#[]⟩ : ByteArray)))))) with h209 | h209
          · skip
            have h210 := and_tl h209
            have h211 := not_t h210
            have h212 := and_tr h209
            have h213 := not_t h212
            have h214 := of_decide_eq_false h213
            have hR215 := hR208.setb (d := 16) (b := true) rfl h209
            refine wp_cond_true (hR215.ev rfl) ?_
            refine wp_skip ?_
            exact x_then_n ⟨(hR215.sub (rc rfl (rc rfl (rc rfl (rc (rb rfl (by first | rfl | (simp only [h121, h165, h209, bl]; done) | (simp [h121, h165, h209]; done) | (simp [h121, h165, h209]; omega))) (rc rfl rnl)))))), hS206⟩
          · skip
            have hq216 := h209
            try simp only [Bool.or_eq_true, Bool.and_eq_true, Bool.not_eq_true', Bool.not_eq_false', decide_eq_true_eq, decide_eq_false_iff_not, Bool.or_eq_false_iff, Bool.and_eq_false_iff] at hq216
            have hR217 := hR208.setb (d := 16) (b := false) rfl h209
            refine wp_cond_false (hR217.ev rfl) ?_
            refine c_region ?_
            refine m_field (j' := 3) sv hR217 rfl rfl rfl Tryd.underlying129 rfl sz4 rfl rfl (by decide) (fun a218 hR219 => ?_)
            refine m_load (i := 1) sv hR219 hS206 rfl rfl rfl rfl rfl Tryd.underlying4 rfl (by decide) (fun a220 hR221 => ?_)
            refine mv hR221 (fun a222 hR223 => ?_)
            refine l_join (fun ga gw => Reg ga 110 [(1, .pointer (some ⟨g8, 0, none⟩)), (2, .bool false), (3, .pointer (some ⟨g77, 0, none⟩)), (16, .bool false), (48, .bool (((shp (((n.K)).toNat)).s) && (!(nameOk n.S)))), (1000000, .bool false)] ∧ St w0 Z none_ gw [.box g8 32 [.int .i64 (n.K), .int .i64 (n.N), .int .i64 (n.M), .string n.S], .box g77 129 [.slice A68 ((shp (((n.K)).toNat)).b.length) c69, .bool ((shp (((n.K)).toNat)).n), .bool ((shp (((n.K)).toNat)).m), .bool ((shp (((n.K)).toNat)).s)]] [dShapes, dRow 1 A68 (shp (((n.K)).toNat)).b.length c69 (encIs (shp (((n.K)).toNat)).b)]) 5 ?_ ?_
            · skip
              rcases Bool.eq_false_or_eq_true ((shp (((n.K)).toNat)).s) with h224 | h224
              · skip
                have hR225 := hR223.setb (d := 43) (b := true) rfl h224
                refine m_field (j' := 3) (st_listV_w (wt hR225)) hR225 rfl rfl rfl Tryd.underlying32 rfl sz9 rfl rfl (by decide) (fun a226 hR227 => ?_)
                refine m_load (i := 0) (st_listV_w (wt hR227)) hR227 hS206 rfl rfl rfl rfl rfl Tryd.underlying9 rfl (by decide) (fun a228 hR229 => ?_)
                have hS230 : St w0 Z none_ w204 [.box g8 32 [.int .i64 (n.K), .int .i64 (n.N), .int .i64 (n.M), .string n.S], .box g77 129 [.slice A68 ((shp (((n.K)).toNat)).b.length) c69, .bool ((shp (((n.K)).toNat)).n), .bool ((shp (((n.K)).toNat)).m), .bool ((shp (((n.K)).toNat)).s)]] [dShapes, dRow 1 A68 (shp (((n.K)).toNat)).b.length c69 (encIs (shp (((n.K)).toNat)).b)] := hS206
                refine k_call (xs := [.tmp 45]) (st_list_w (wt hR229)) hR229 rfl rfl rfl (by decide) ok128 (name_calls _ (imm Z w0 [.box g8 32 [.int .i64 (n.K), .int .i64 (n.N), .int .i64 (n.M), .string n.S], .box g77 129 [.slice A68 ((shp (((n.K)).toNat)).b.length) c69, .bool ((shp (((n.K)).toNat)).n), .bool ((shp (((n.K)).toNat)).m), .bool ((shp (((n.K)).toNat)).s)]] _) (fun _ h => h.1) n.S (by first | assumption | omega | (simp; done) | (simp; omega))) ?_
                rintro e237 w232 ⟨rfl, hf235⟩
                have hS238 := hS230.below hf235.below
                refine ⟨_, rfl, fun a231 hR233 => ?_⟩
                refine r_not (st_listV_w (wt hR233)) hR233 rfl rfl rfl (by decide) (fun a239 hR240 => ?_)
                refine r_pick_t sv hR240 rfl rfl rfl rfl (by decide) (fun a241 hR242 => ?_)
                refine wpList_nil ?_
                exact x_then_n ⟨(hR242.sub (rc rfl (rc rfl (rc rfl (rc rfl (rc (rb rfl (by first | rfl | (simp only [h224, bl]; done) | (simp [h224]; done) | (simp [h224]; omega))) (rc rfl rnl))))))), hS238⟩
              · skip
                have hR243 := hR223.setb (d := 43) (b := false) rfl h224
                refine sps hR243 (wff hR243) (fun a244 hR245 => ?_)
                refine sps hR245 (wff hR245) (fun a246 hR247 => ?_)
                refine sps hR247 (wff hR247) (fun a248 hR249 => ?_)
                refine sps hR249 (wff hR249) (fun a250 hR251 => ?_)
                refine r_pick_f sv hR251 rfl rfl rfl rfl (by decide) (fun a252 hR253 => ?_)
                refine wpList_nil ?_
                exact x_then_n ⟨(hR253.sub (rc rfl (rc rfl (rc rfl (rc rfl (rc (rb rfl (by first | rfl | (simp only [h224, bl]; done) | (simp [h224]; done) | (simp [h224]; omega))) (rc rfl rnl))))))), hS206⟩
            rintro a254 w255 ⟨hR256, hS257⟩
            refine asg hR256 (fun a258 hR259 => ?_)
            refine wpList_nil ?_
            exact x_then_n ⟨(hR259.sub (rc rfl (rc rfl (rc rfl (rc (rb rfl (by first | rfl | (simp only [h121, h165, h209, bl]; done) | (simp [h121, h165, h209]; done) | (simp [h121, h165, h209]; omega))) (rc rfl rnl)))))), hS257⟩
    rintro a260 w261 ⟨hR262, hS263⟩
    rcases Bool.eq_false_or_eq_true ((((!((shp (((n.K)).toNat)).n)) && (!(decide ((n.N) = 0)))) || (((!((shp (((n.K)).toNat)).m)) && (!(decide ((n.M) = 0)))) || (((!((shp (((n.K)).toNat)).s)) && (!(decide (n.S = (⟨#[]⟩ : ByteArray))))) || (((shp (((n.K)).toNat)).s) && (!(nameOk n.S))))))) with h264 | h264
    · skip
      have hq265 := h264
      try simp only [Bool.or_eq_true, Bool.and_eq_true, Bool.not_eq_true', Bool.not_eq_false', decide_eq_true_eq, decide_eq_false_iff_not, Bool.or_eq_false_iff, Bool.and_eq_false_iff] at hq265
      have hR266 := hR262.setb (d := 16) (b := true) rfl h264
      refine wp_cond_true (hR266.ev rfl) ?_
      refine wp_seq_k (fun K267 hK268 => ?_)
      refine c_region ?_
      refine asg hR266 (fun a269 hR270 => ?_)
      refine wpList_nil (x_then_n (hK268 _ _ ?_))
      refine wp_ret ?_
      refine x_block_r ?_
      refine x_then_r ?_
      refine e_ret1 hR270 rfl rfl rfl ?_
      refine ⟨?_, hS263.fr⟩
      exact congrArg Ending.returned (ret_b (by first | exact (right_sort h264 (by assumption)).symm | exact (right_big h264).symm | (rw [right_con' h264 (by assumption)]; first | rfl | (simp <;> omega) | (simp [h48, h56, h58, h264]; done) | (rw [Bool.eq_iff_iff]; simp <;> omega)) | (rw [right_elim' h264 (by assumption)]; first | rfl | (simp <;> omega) | (simp [h48, h56, h58, h264]; done) | (rw [Bool.eq_iff_iff]; simp <;> omega)) | (rw [right_oth h264 (by omega) (by omega) (by assumption) (by assumption) (by assumption)]; first | rfl | (simp <;> omega) | (simp [h48, h56, h58, h264]; done) | (rw [Bool.eq_iff_iff]; simp <;> omega))))
    · skip
      have h271 := or_fl h264
      have hq272 := h271
      try simp only [Bool.or_eq_true, Bool.and_eq_true, Bool.not_eq_true', Bool.not_eq_false', decide_eq_true_eq, decide_eq_false_iff_not, Bool.or_eq_false_iff, Bool.and_eq_false_iff] at hq272
      have h273 := or_fr h264
      have h274 := or_fl h273
      have hq275 := h274
      try simp only [Bool.or_eq_true, Bool.and_eq_true, Bool.not_eq_true', Bool.not_eq_false', decide_eq_true_eq, decide_eq_false_iff_not, Bool.or_eq_false_iff, Bool.and_eq_false_iff] at hq275
      have h276 := or_fr h273
      have h277 := or_fl h276
      have hq278 := h277
      try simp only [Bool.or_eq_true, Bool.and_eq_true, Bool.not_eq_true', Bool.not_eq_false', decide_eq_true_eq, decide_eq_false_iff_not, Bool.or_eq_false_iff, Bool.and_eq_false_iff] at hq278
      have h279 := or_fr h276
      have hq280 := h279
      try simp only [Bool.or_eq_true, Bool.and_eq_true, Bool.not_eq_true', Bool.not_eq_false', decide_eq_true_eq, decide_eq_false_iff_not, Bool.or_eq_false_iff, Bool.and_eq_false_iff] at hq280
      have hR281 := hR262.setb (d := 16) (b := false) rfl h264
      refine wp_cond_false (hR281.ev rfl) ?_
      refine wp_seq_k (fun K282 hK283 => ?_)
      refine c_region ?_
      refine m_field (j' := 0) sv hR281 rfl rfl rfl Tryd.underlying32 rfl sz3 rfl rfl (by decide) (fun a284 hR285 => ?_)
      refine m_load (i := 0) sv hR285 hS263 rfl rfl rfl rfl rfl Tryd.underlying3 rfl (by decide) (fun a286 hR287 => ?_)
      refine r_eql sv hR287 rfl rfl rfl rfl (by decide) (fun a288 hR289 => ?_)
      refine asg hR289 (fun a290 hR291 => ?_)
      refine wpList_nil (x_then_n (hK283 _ _ ?_))
      rcases Decidable.em ((n.K) = 2) with h292 | h292
      · skip
        have hR293 := hR291.setb (d := 49) (b := true) rfl (decide_eq_true h292)
        refine wp_cond_true (hR293.ev rfl) ?_
        refine wp_seq_k (fun K294 hK295 => ?_)
        refine c_region ?_
        refine m_field (j' := 1) sv hR293 rfl rfl rfl Tryd.underlying32 rfl sz3 rfl rfl (by decide) (fun a296 hR297 => ?_)
        refine m_load (i := 0) sv hR297 hS263 rfl rfl rfl rfl rfl Tryd.underlying3 rfl (by decide) (fun a298 hR299 => ?_)
        have hS300 : St w0 Z none_ w261 [.box g8 32 [.int .i64 (n.K), .int .i64 (n.N), .int .i64 (n.M), .string n.S], .box g77 129 [.slice A68 ((shp (((n.K)).toNat)).b.length) c69, .bool ((shp (((n.K)).toNat)).n), .bool ((shp (((n.K)).toNat)).m), .bool ((shp (((n.K)).toNat)).s)]] [dShapes, dRow 1 A68 (shp (((n.K)).toNat)).b.length c69 (encIs (shp (((n.K)).toNat)).b)] := hS263
        refine k_call (xs := [.tmp 54]) se hR299 rfl rfl rfl (by decide) ok129 (lvCheck_calls _ (imm Z w0 [.box g8 32 [.int .i64 (n.K), .int .i64 (n.N), .int .i64 (n.M), .string n.S], .box g77 129 [.slice A68 ((shp (((n.K)).toNat)).b.length) c69, .bool ((shp (((n.K)).toNat)).n), .bool ((shp (((n.K)).toNat)).m), .bool ((shp (((n.K)).toNat)).s)]] _) (fun _ h => h.1) (n.N)) ?_
        rintro e307 w302 ⟨rfl, hf305⟩
        have hS308 := hS300.below hf305.below
        refine ⟨_, rfl, fun a301 hR303 => ?_⟩
        refine r_eql sv hR303 rfl rfl rfl rfl (by decide) (fun a309 hR310 => ?_)
        refine asg hR310 (fun a311 hR312 => ?_)
        refine wpList_nil (x_then_n (hK295 _ _ ?_))
        refine wp_ret ?_
        refine x_block_r ?_
        refine x_then_r ?_
        refine e_ret1 hR312 rfl rfl rfl ?_
        refine ⟨?_, hS308.fr⟩
        exact congrArg Ending.returned (ret_b (by first | exact (right_sort h264 (by assumption)).symm | exact (right_big h264).symm | (rw [right_con' h264 (by assumption)]; first | rfl | (simp <;> omega) | (simp [h48, h56, h58, h264, h292]; done) | (rw [Bool.eq_iff_iff]; simp <;> omega)) | (rw [right_elim' h264 (by assumption)]; first | rfl | (simp <;> omega) | (simp [h48, h56, h58, h264, h292]; done) | (rw [Bool.eq_iff_iff]; simp <;> omega)) | (rw [right_oth h264 (by omega) (by omega) (by assumption) (by assumption) (by assumption)]; first | rfl | (simp <;> omega) | (simp [h48, h56, h58, h264, h292]; done) | (rw [Bool.eq_iff_iff]; simp <;> omega))))
      · skip
        have hR313 := hR291.setb (d := 49) (b := false) rfl (decide_eq_false h292)
        refine wp_cond_false (hR313.ev rfl) ?_
        refine wp_seq_k (fun K314 hK315 => ?_)
        refine c_region ?_
        refine m_field (j' := 0) sv hR313 rfl rfl rfl Tryd.underlying32 rfl sz3 rfl rfl (by decide) (fun a316 hR317 => ?_)
        refine m_load (i := 0) sv hR317 hS263 rfl rfl rfl rfl rfl Tryd.underlying3 rfl (by decide) (fun a318 hR319 => ?_)
        refine r_eql sv hR319 rfl rfl rfl rfl (by decide) (fun a320 hR321 => ?_)
        refine asg hR321 (fun a322 hR323 => ?_)
        refine wpList_nil (x_then_n (hK315 _ _ ?_))
        rcases Decidable.em ((n.K) = 26) with h324 | h324
        · skip
          have hR325 := hR323.setb (d := 57) (b := true) rfl (decide_eq_true h324)
          refine wp_cond_true (hR325.ev rfl) ?_
          refine wp_seq_k (fun K326 hK327 => ?_)
          obtain ⟨J328, hJ329, hS330⟩ := hS263.agree
          refine d_region2 (S := (fun x => agr w261 J328 x ∧ cel g8 0 (.int .i64 (n.K)) x ∧ cel g8 1 (.int .i64 (n.N)) x ∧ cel g8 2 (.int .i64 (n.M)) x ∧ cel g8 3 (.string n.S) x ∧ True)) (n := 22) mixed rfl hS330 (pan_then (pan_block (pan_then pan_body))) (fun Q333 hP334 hN335 w331 hS332 => ?_)
          have hSw336 : agr w261 J328 w331 ∧ cel g8 0 (.int .i64 (n.K)) w331 ∧ cel g8 1 (.int .i64 (n.N)) w331 ∧ cel g8 2 (.int .i64 (n.M)) w331 ∧ cel g8 3 (.string n.S) w331 ∧ True := ⟨⟨(hS332.get (i := 2) rfl).1, fun k hk => ((hS332.get (i := 2) rfl).2 k hk).2⟩, (box_cell (hS332.res (i := 0) rfl) rfl), (box_cell (hS332.res (i := 0) rfl) rfl), (box_cell (hS332.res (i := 0) rfl) rfl), (box_cell (hS332.res (i := 0) rfl) rfl), trivial⟩
          refine dt 0 rfl hP334 hR325 (want_n rfl) (fun x hx => m_field (j' := 1) (sy hR325) hR325 rfl rfl rfl Tryd.underlying32 rfl sz3 rfl rfl (by decide) gt) hSw336 (fun a337 hR338 => ?_)
          refine dt 1 rfl hP334 hR338 (want_n rfl) (fun x hx => m_loadC (sy hR338) hR338 rfl rfl rfl hx.2.2.1 Tryd.underlying3 rfl (by decide) gt) hSw336 (fun a339 hR340 => ?_)
          refine dt 2 rfl hP334 hR340 (want_n rfl) (fun x hx => r_geq (sy hR340) hR340 rfl rfl rfl rfl (by decide) gt) hSw336 (fun a341 hR342 => ?_)
          refine dt 3 rfl hP334 hR342 (want_n rfl) (fun x hx => r_move (sy hR342) hR342 rfl rfl rfl (by decide) gt) hSw336 (fun a343 hR344 => ?_)
          rcases Decidable.em (0 ≤ (n.N)) with h345 | h345
          · skip
            have hR346 := hR344.setb (d := 64) (b := true) rfl (decide_eq_true h345)
            refine dt 4 rfl hP334 hR346 (wt hR346) (fun x hx => m_field (j' := 1) (sy hR346) hR346 rfl rfl rfl Tryd.underlying32 rfl sz3 rfl rfl (by decide) gt) hSw336 (fun a347 hR348 => ?_)
            refine dt 5 rfl hP334 hR348 (wt hR348) (fun x hx => m_loadC (sy hR348) hR348 rfl rfl rfl hx.2.2.1 Tryd.underlying3 rfl (by decide) gt) hSw336 (fun a349 hR350 => ?_)
            refine dt 6 rfl hP334 hR350 (wt hR350) (fun x hx => m_field (j' := 0) (sy hR350) hR350 rfl rfl rfl Tryd.underlying32 rfl sz3 rfl rfl (by decide) gt) hSw336 (fun a351 hR352 => ?_)
            refine dt 7 rfl hP334 hR352 (wt hR352) (fun x hx => m_loadC (sy hR352) hR352 rfl rfl rfl hx.2.1 Tryd.underlying3 rfl (by decide) gt) hSw336 (fun a353 hR354 => ?_)
            refine d_one (i := 8) (by kernel_rfl) ?_
            have hS355 : St w0 Z none_ w331 [.box g8 32 [.int .i64 (n.K), .int .i64 (n.N), .int .i64 (n.M), .string n.S], .box g77 129 [.slice A68 ((shp (((n.K)).toNat)).b.length) c69, .bool ((shp (((n.K)).toNat)).n), .bool ((shp (((n.K)).toNat)).m), .bool ((shp (((n.K)).toNat)).s)]] [dShapes, dRow 1 A68 (shp (((n.K)).toNat)).b.length c69 (encIs (shp (((n.K)).toNat)).b), dAg w261 J328] := hS332
            refine k_call (xs := [.tmp 68]) (st_op rfl (wt hR354)) hR354 rfl rfl rfl (by decide) ok130 (most_calls _ (imm Z w0 [.box g8 32 [.int .i64 (n.K), .int .i64 (n.N), .int .i64 (n.M), .string n.S], .box g77 129 [.slice A68 ((shp (((n.K)).toNat)).b.length) c69, .bool ((shp (((n.K)).toNat)).n), .bool ((shp (((n.K)).toNat)).m), .bool ((shp (((n.K)).toNat)).s)]] _) (fun _ h => h.1) (n.K)) ?_
            rintro e362 w357 ⟨rfl, hf360⟩
            have hS363 := hS355.below hf360.below
            refine ⟨_, rfl, fun a356 hR358 => ?_⟩
            have hSw364 : agr w261 J328 w357 ∧ cel g8 0 (.int .i64 (n.K)) w357 ∧ cel g8 1 (.int .i64 (n.N)) w357 ∧ cel g8 2 (.int .i64 (n.M)) w357 ∧ cel g8 3 (.string n.S) w357 ∧ True := ⟨⟨(hS363.get (i := 2) rfl).1, fun k hk => ((hS363.get (i := 2) rfl).2 k hk).2⟩, (box_cell (hS363.res (i := 0) rfl) rfl), (box_cell (hS363.res (i := 0) rfl) rfl), (box_cell (hS363.res (i := 0) rfl) rfl), (box_cell (hS363.res (i := 0) rfl) rfl), trivial⟩
            refine ⟨hSw364, ?_⟩
            refine dt 9 rfl hP334 hR358 (wt hR358) (fun x hx => r_leq (sy hR358) hR358 rfl rfl rfl rfl (by decide) gt) hSw364 (fun a365 hR366 => ?_)
            refine dt 10 rfl hP334 hR366 (want_n rfl) (fun x hx => r_pick_t (sy hR366) hR366 rfl rfl rfl rfl (by decide) gt) hSw364 (fun a367 hR368 => ?_)
            refine dt 11 rfl hP334 hR368 (want_n rfl) (fun x hx => r_move (sy hR368) hR368 rfl rfl rfl (by decide) gt) hSw364 (fun a369 hR370 => ?_)
            rcases Decidable.em ((n.N) ≤ ((most (n.K)))) with h371 | h371
            · skip
              have hR372 := hR370.setb (d := 72) (b := true) rfl (decide_eq_true h371)
              refine dt 12 rfl hP334 hR372 (wt hR372) (fun x hx => m_field (j' := 2) (sy hR372) hR372 rfl rfl rfl Tryd.underlying32 rfl sz3 rfl rfl (by decide) gt) hSw364 (fun a373 hR374 => ?_)
              refine dt 13 rfl hP334 hR374 (wt hR374) (fun x hx => m_loadC (sy hR374) hR374 rfl rfl rfl hx.2.2.2.1 Tryd.underlying3 rfl (by decide) gt) hSw364 (fun a375 hR376 => ?_)
              refine dt 14 rfl hP334 hR376 (wt hR376) (fun x hx => r_geq (sy hR376) hR376 rfl rfl rfl rfl (by decide) gt) hSw364 (fun a377 hR378 => ?_)
              refine dt 15 rfl hP334 hR378 (want_n rfl) (fun x hx => r_pick_t (sy hR378) hR378 rfl rfl rfl rfl (by decide) gt) hSw364 (fun a379 hR380 => ?_)
              refine dt 16 rfl hP334 hR380 (want_n rfl) (fun x hx => r_move (sy hR380) hR380 rfl rfl rfl (by decide) gt) hSw364 (fun a381 hR382 => ?_)
              rcases Decidable.em (0 ≤ (n.M)) with h383 | h383
              · skip
                have hR384 := hR382.setb (d := 77) (b := true) rfl (decide_eq_true h383)
                refine dt 17 rfl hP334 hR384 (wt hR384) (fun x hx => m_field (j' := 2) (sy hR384) hR384 rfl rfl rfl Tryd.underlying32 rfl sz3 rfl rfl (by decide) gt) hSw364 (fun a385 hR386 => ?_)
                refine dt 18 rfl hP334 hR386 (wt hR386) (fun x hx => m_loadC (sy hR386) hR386 rfl rfl rfl hx.2.2.2.1 Tryd.underlying3 rfl (by decide) gt) hSw364 (fun a387 hR388 => ?_)
                refine dt 19 rfl hP334 hR388 (wt hR388) (fun x hx => r_leq (sy hR388) hR388 rfl rfl rfl rfl (by decide) gt) hSw364 (fun a389 hR390 => ?_)
                refine dt 20 rfl hP334 hR390 (want_n rfl) (fun x hx => r_pick_t (sy hR390) hR390 rfl rfl rfl rfl (by decide) gt) hSw364 (fun a391 hR392 => ?_)
                refine dt 21 rfl hP334 hR392 (want_n rfl) (fun x hx => r_assign (sy hR392) hR392 rfl rfl rfl (by decide) gt) hSw364 (fun a393 hR394 => ?_)
                refine wpAnyH_done (by kernel_rfl) (hN335 _ _ ?_) _
                refine x_then_n (hK327 _ _ ?_)
                refine wp_ret ?_
                refine x_block_r ?_
                refine x_then_r ?_
                refine e_ret1 hR394 rfl rfl rfl ?_
                refine ⟨?_, hS363.fr⟩
                exact congrArg Ending.returned (ret_b (by first | exact (right_sort h264 (by assumption)).symm | exact (right_big h264).symm | (rw [right_con' h264 (by assumption)]; first | rfl | (simp <;> omega) | (simp [h48, h56, h58, h264, h292, h324, h345, h371, h383]; done) | (rw [Bool.eq_iff_iff]; simp <;> omega)) | (rw [right_elim' h264 (by assumption)]; first | rfl | (simp <;> omega) | (simp [h48, h56, h58, h264, h292, h324, h345, h371, h383]; done) | (rw [Bool.eq_iff_iff]; simp <;> omega)) | (rw [right_oth h264 (by omega) (by omega) (by assumption) (by assumption) (by assumption)]; first | rfl | (simp <;> omega) | (simp [h48, h56, h58, h264, h292, h324, h345, h371, h383]; done) | (rw [Bool.eq_iff_iff]; simp <;> omega))))
              · skip
                have hR395 := hR382.setb (d := 77) (b := false) rfl (decide_eq_false h383)
                refine dp 17 rfl hP334 hR395 (wff hR395) hSw364 (fun a396 hR397 => ?_)
                refine dp 18 rfl hP334 hR397 (wff hR397) hSw364 (fun a398 hR399 => ?_)
                refine dp 19 rfl hP334 hR399 (wff hR399) hSw364 (fun a400 hR401 => ?_)
                refine dt 20 rfl hP334 hR401 (want_n rfl) (fun x hx => r_pick_f (sy hR401) hR401 rfl rfl rfl rfl (by decide) gt) hSw364 (fun a402 hR403 => ?_)
                refine dt 21 rfl hP334 hR403 (want_n rfl) (fun x hx => r_assign (sy hR403) hR403 rfl rfl rfl (by decide) gt) hSw364 (fun a404 hR405 => ?_)
                refine wpAnyH_done (by kernel_rfl) (hN335 _ _ ?_) _
                refine x_then_n (hK327 _ _ ?_)
                refine wp_ret ?_
                refine x_block_r ?_
                refine x_then_r ?_
                refine e_ret1 hR405 rfl rfl rfl ?_
                refine ⟨?_, hS363.fr⟩
                exact congrArg Ending.returned (ret_b (by first | exact (right_sort h264 (by assumption)).symm | exact (right_big h264).symm | (rw [right_con' h264 (by assumption)]; first | rfl | (simp <;> omega) | (simp [h48, h56, h58, h264, h292, h324, h345, h371, h383]; done) | (rw [Bool.eq_iff_iff]; simp <;> omega)) | (rw [right_elim' h264 (by assumption)]; first | rfl | (simp <;> omega) | (simp [h48, h56, h58, h264, h292, h324, h345, h371, h383]; done) | (rw [Bool.eq_iff_iff]; simp <;> omega)) | (rw [right_oth h264 (by omega) (by omega) (by assumption) (by assumption) (by assumption)]; first | rfl | (simp <;> omega) | (simp [h48, h56, h58, h264, h292, h324, h345, h371, h383]; done) | (rw [Bool.eq_iff_iff]; simp <;> omega))))
            · skip
              have hR406 := hR370.setb (d := 72) (b := false) rfl (decide_eq_false h371)
              refine dp 12 rfl hP334 hR406 (wff hR406) hSw364 (fun a407 hR408 => ?_)
              refine dp 13 rfl hP334 hR408 (wff hR408) hSw364 (fun a409 hR410 => ?_)
              refine dp 14 rfl hP334 hR410 (wff hR410) hSw364 (fun a411 hR412 => ?_)
              refine dt 15 rfl hP334 hR412 (want_n rfl) (fun x hx => r_pick_f (sy hR412) hR412 rfl rfl rfl rfl (by decide) gt) hSw364 (fun a413 hR414 => ?_)
              refine dt 16 rfl hP334 hR414 (want_n rfl) (fun x hx => r_move (sy hR414) hR414 rfl rfl rfl (by decide) gt) hSw364 (fun a415 hR416 => ?_)
              refine dp 17 rfl hP334 hR416 (wff hR416) hSw364 (fun a417 hR418 => ?_)
              refine dp 18 rfl hP334 hR418 (wff hR418) hSw364 (fun a419 hR420 => ?_)
              refine dp 19 rfl hP334 hR420 (wff hR420) hSw364 (fun a421 hR422 => ?_)
              refine dt 20 rfl hP334 hR422 (want_n rfl) (fun x hx => r_pick_f (sy hR422) hR422 rfl rfl rfl rfl (by decide) gt) hSw364 (fun a423 hR424 => ?_)
              refine dt 21 rfl hP334 hR424 (want_n rfl) (fun x hx => r_assign (sy hR424) hR424 rfl rfl rfl (by decide) gt) hSw364 (fun a425 hR426 => ?_)
              refine wpAnyH_done (by kernel_rfl) (hN335 _ _ ?_) _
              refine x_then_n (hK327 _ _ ?_)
              refine wp_ret ?_
              refine x_block_r ?_
              refine x_then_r ?_
              refine e_ret1 hR426 rfl rfl rfl ?_
              refine ⟨?_, hS363.fr⟩
              exact congrArg Ending.returned (ret_b (by first | exact (right_sort h264 (by assumption)).symm | exact (right_big h264).symm | (rw [right_con' h264 (by assumption)]; first | rfl | (simp <;> omega) | (simp [h48, h56, h58, h264, h292, h324, h345, h371]; done) | (rw [Bool.eq_iff_iff]; simp <;> omega)) | (rw [right_elim' h264 (by assumption)]; first | rfl | (simp <;> omega) | (simp [h48, h56, h58, h264, h292, h324, h345, h371]; done) | (rw [Bool.eq_iff_iff]; simp <;> omega)) | (rw [right_oth h264 (by omega) (by omega) (by assumption) (by assumption) (by assumption)]; first | rfl | (simp <;> omega) | (simp [h48, h56, h58, h264, h292, h324, h345, h371]; done) | (rw [Bool.eq_iff_iff]; simp <;> omega))))
          · skip
            have hR427 := hR344.setb (d := 64) (b := false) rfl (decide_eq_false h345)
            refine dp 4 rfl hP334 hR427 (wff hR427) hSw336 (fun a428 hR429 => ?_)
            refine dp 5 rfl hP334 hR429 (wff hR429) hSw336 (fun a430 hR431 => ?_)
            refine dp 6 rfl hP334 hR431 (wff hR431) hSw336 (fun a432 hR433 => ?_)
            refine dp 7 rfl hP334 hR433 (wff hR433) hSw336 (fun a434 hR435 => ?_)
            refine dp 8 rfl hP334 hR435 (wff hR435) hSw336 (fun a436 hR437 => ?_)
            refine dp 9 rfl hP334 hR437 (wff hR437) hSw336 (fun a438 hR439 => ?_)
            refine dt 10 rfl hP334 hR439 (want_n rfl) (fun x hx => r_pick_f (sy hR439) hR439 rfl rfl rfl rfl (by decide) gt) hSw336 (fun a440 hR441 => ?_)
            refine dt 11 rfl hP334 hR441 (want_n rfl) (fun x hx => r_move (sy hR441) hR441 rfl rfl rfl (by decide) gt) hSw336 (fun a442 hR443 => ?_)
            refine dp 12 rfl hP334 hR443 (wff hR443) hSw336 (fun a444 hR445 => ?_)
            refine dp 13 rfl hP334 hR445 (wff hR445) hSw336 (fun a446 hR447 => ?_)
            refine dp 14 rfl hP334 hR447 (wff hR447) hSw336 (fun a448 hR449 => ?_)
            refine dt 15 rfl hP334 hR449 (want_n rfl) (fun x hx => r_pick_f (sy hR449) hR449 rfl rfl rfl rfl (by decide) gt) hSw336 (fun a450 hR451 => ?_)
            refine dt 16 rfl hP334 hR451 (want_n rfl) (fun x hx => r_move (sy hR451) hR451 rfl rfl rfl (by decide) gt) hSw336 (fun a452 hR453 => ?_)
            refine dp 17 rfl hP334 hR453 (wff hR453) hSw336 (fun a454 hR455 => ?_)
            refine dp 18 rfl hP334 hR455 (wff hR455) hSw336 (fun a456 hR457 => ?_)
            refine dp 19 rfl hP334 hR457 (wff hR457) hSw336 (fun a458 hR459 => ?_)
            refine dt 20 rfl hP334 hR459 (want_n rfl) (fun x hx => r_pick_f (sy hR459) hR459 rfl rfl rfl rfl (by decide) gt) hSw336 (fun a460 hR461 => ?_)
            refine dt 21 rfl hP334 hR461 (want_n rfl) (fun x hx => r_assign (sy hR461) hR461 rfl rfl rfl (by decide) gt) hSw336 (fun a462 hR463 => ?_)
            refine wpAnyH_done (by kernel_rfl) (hN335 _ _ ?_) _
            refine x_then_n (hK327 _ _ ?_)
            refine wp_ret ?_
            refine x_block_r ?_
            refine x_then_r ?_
            refine e_ret1 hR463 rfl rfl rfl ?_
            refine ⟨?_, hS332.fr⟩
            exact congrArg Ending.returned (ret_b (by first | exact (right_sort h264 (by assumption)).symm | exact (right_big h264).symm | (rw [right_con' h264 (by assumption)]; first | rfl | (simp <;> omega) | (simp [h48, h56, h58, h264, h292, h324, h345]; done) | (rw [Bool.eq_iff_iff]; simp <;> omega)) | (rw [right_elim' h264 (by assumption)]; first | rfl | (simp <;> omega) | (simp [h48, h56, h58, h264, h292, h324, h345]; done) | (rw [Bool.eq_iff_iff]; simp <;> omega)) | (rw [right_oth h264 (by omega) (by omega) (by assumption) (by assumption) (by assumption)]; first | rfl | (simp <;> omega) | (simp [h48, h56, h58, h264, h292, h324, h345]; done) | (rw [Bool.eq_iff_iff]; simp <;> omega))))
        · skip
          have hR464 := hR323.setb (d := 57) (b := false) rfl (decide_eq_false h324)
          refine wp_cond_false (hR464.ev rfl) ?_
          refine wp_seq_k (fun K465 hK466 => ?_)
          refine c_region ?_
          refine m_field (j' := 0) sv hR464 rfl rfl rfl Tryd.underlying32 rfl sz3 rfl rfl (by decide) (fun a467 hR468 => ?_)
          refine m_load (i := 0) sv hR468 hS263 rfl rfl rfl rfl rfl Tryd.underlying3 rfl (by decide) (fun a469 hR470 => ?_)
          refine r_eql sv hR470 rfl rfl rfl rfl (by decide) (fun a471 hR472 => ?_)
          refine asg hR472 (fun a473 hR474 => ?_)
          refine wpList_nil (x_then_n (hK466 _ _ ?_))
          rcases Decidable.em ((n.K) = 27) with h475 | h475
          · skip
            have hR476 := hR474.setb (d := 82) (b := true) rfl (decide_eq_true h475)
            refine wp_cond_true (hR476.ev rfl) ?_
            refine wp_seq_k (fun K477 hK478 => ?_)
            refine c_region ?_
            refine m_field (j' := 2) sv hR476 rfl rfl rfl Tryd.underlying32 rfl sz3 rfl rfl (by decide) (fun a479 hR480 => ?_)
            refine m_load (i := 0) sv hR480 hS263 rfl rfl rfl rfl rfl Tryd.underlying3 rfl (by decide) (fun a481 hR482 => ?_)
            refine r_geq sv hR482 rfl rfl rfl rfl (by decide) (fun a483 hR484 => ?_)
            refine mv hR484 (fun a485 hR486 => ?_)
            refine l_join (fun ga gw => Reg ga 110 [(1, .pointer (some ⟨g8, 0, none⟩)), (2, .bool false), (3, .pointer (some ⟨g77, 0, none⟩)), (93, .bool ((decide (0 ≤ (n.M))) && (decide ((n.M) ≤ 6)))), (1000000, .bool false)] ∧ St w0 Z none_ gw [.box g8 32 [.int .i64 (n.K), .int .i64 (n.N), .int .i64 (n.M), .string n.S], .box g77 129 [.slice A68 ((shp (((n.K)).toNat)).b.length) c69, .bool ((shp (((n.K)).toNat)).n), .bool ((shp (((n.K)).toNat)).m), .bool ((shp (((n.K)).toNat)).s)]] [dShapes, dRow 1 A68 (shp (((n.K)).toNat)).b.length c69 (encIs (shp (((n.K)).toNat)).b)]) 4 ?_ ?_
            · skip
              rcases Decidable.em (0 ≤ (n.M)) with h487 | h487
              · skip
                have hR488 := hR486.setb (d := 89) (b := true) rfl (decide_eq_true h487)
                refine m_field (j' := 2) (st_listV_w (wt hR488)) hR488 rfl rfl rfl Tryd.underlying32 rfl sz3 rfl rfl (by decide) (fun a489 hR490 => ?_)
                refine m_load (i := 0) (st_listV_w (wt hR490)) hR490 hS263 rfl rfl rfl rfl rfl Tryd.underlying3 rfl (by decide) (fun a491 hR492 => ?_)
                refine r_leq (st_listV_w (wt hR492)) hR492 rfl rfl rfl rfl (by decide) (fun a493 hR494 => ?_)
                refine r_pick_t sv hR494 rfl rfl rfl rfl (by decide) (fun a495 hR496 => ?_)
                refine wpList_nil ?_
                exact x_then_n ⟨(hR496.sub (rc rfl (rc rfl (rc rfl (rc (rb rfl (by first | rfl | (simp only [decide_eq_true h487, if_pos h487, bl]; done) | (simp [h487]; done) | (simp [h487]; omega))) (rc rfl rnl)))))), hS263⟩
              · skip
                have hR497 := hR486.setb (d := 89) (b := false) rfl (decide_eq_false h487)
                refine sps hR497 (wff hR497) (fun a498 hR499 => ?_)
                refine sps hR499 (wff hR499) (fun a500 hR501 => ?_)
                refine sps hR501 (wff hR501) (fun a502 hR503 => ?_)
                refine r_pick_f sv hR503 rfl rfl rfl rfl (by decide) (fun a504 hR505 => ?_)
                refine wpList_nil ?_
                exact x_then_n ⟨(hR505.sub (rc rfl (rc rfl (rc rfl (rc (rb rfl (by first | rfl | (simp only [decide_eq_false h487, if_neg h487, bl]; done) | (simp [h487]; done) | (simp [h487]; omega))) (rc rfl rnl)))))), hS263⟩
            rintro a506 w507 ⟨hR508, hS509⟩
            refine asg hR508 (fun a510 hR511 => ?_)
            refine wpList_nil (x_then_n (hK478 _ _ ?_))
            refine wp_ret ?_
            refine x_block_r ?_
            refine x_then_r ?_
            refine e_ret1 hR511 rfl rfl rfl ?_
            refine ⟨?_, hS509.fr⟩
            exact congrArg Ending.returned (ret_b (by first | exact (right_sort h264 (by assumption)).symm | exact (right_big h264).symm | (rw [right_con' h264 (by assumption)]; first | rfl | (simp <;> omega) | (simp [h48, h56, h58, h264, h292, h324, h475]; done) | (rw [Bool.eq_iff_iff]; simp <;> omega)) | (rw [right_elim' h264 (by assumption)]; first | rfl | (simp <;> omega) | (simp [h48, h56, h58, h264, h292, h324, h475]; done) | (rw [Bool.eq_iff_iff]; simp <;> omega)) | (rw [right_oth h264 (by omega) (by omega) (by assumption) (by assumption) (by assumption)]; first | rfl | (simp <;> omega) | (simp [h48, h56, h58, h264, h292, h324, h475]; done) | (rw [Bool.eq_iff_iff]; simp <;> omega))))
          · skip
            have hR512 := hR474.setb (d := 82) (b := false) rfl (decide_eq_false h475)
            refine wp_cond_false (hR512.ev rfl) ?_
            refine wp_skip ?_
            refine x_block_n ?_
            refine x_then_n (hK85 _ _ ?_)
            refine wp_seq_k (fun K513 hK514 => ?_)
            obtain ⟨J515, hJ516, hS517⟩ := hS263.agree
            refine d_region2 (S := (fun x => agr w261 J515 x ∧ cel g8 0 (.int .i64 (n.K)) x ∧ cel g8 1 (.int .i64 (n.N)) x ∧ cel g8 2 (.int .i64 (n.M)) x ∧ cel g8 3 (.string n.S) x ∧ cel g77 0 (.slice A68 ((shp (((n.K)).toNat)).b.length) c69) x ∧ cel g77 1 (.bool ((shp (((n.K)).toNat)).n)) x ∧ cel g77 2 (.bool ((shp (((n.K)).toNat)).m)) x ∧ cel g77 3 (.bool ((shp (((n.K)).toNat)).s)) x ∧ True)) (n := 17) mixed rfl hS517 (pan_then pan_body) (fun Q520 hP521 hN522 w518 hS519 => ?_)
            have hSw523 : agr w261 J515 w518 ∧ cel g8 0 (.int .i64 (n.K)) w518 ∧ cel g8 1 (.int .i64 (n.N)) w518 ∧ cel g8 2 (.int .i64 (n.M)) w518 ∧ cel g8 3 (.string n.S) w518 ∧ cel g77 0 (.slice A68 ((shp (((n.K)).toNat)).b.length) c69) w518 ∧ cel g77 1 (.bool ((shp (((n.K)).toNat)).n)) w518 ∧ cel g77 2 (.bool ((shp (((n.K)).toNat)).m)) w518 ∧ cel g77 3 (.bool ((shp (((n.K)).toNat)).s)) w518 ∧ True := ⟨⟨(hS519.get (i := 2) rfl).1, fun k hk => ((hS519.get (i := 2) rfl).2 k hk).2⟩, (box_cell (hS519.res (i := 0) rfl) rfl), (box_cell (hS519.res (i := 0) rfl) rfl), (box_cell (hS519.res (i := 0) rfl) rfl), (box_cell (hS519.res (i := 0) rfl) rfl), (box_cell (hS519.res (i := 1) rfl) rfl), (box_cell (hS519.res (i := 1) rfl) rfl), (box_cell (hS519.res (i := 1) rfl) rfl), (box_cell (hS519.res (i := 1) rfl) rfl), trivial⟩
            refine dt 0 rfl hP521 hR512 (want_n rfl) (fun x hx => m_field (j' := 1) (sy hR512) hR512 rfl rfl rfl Tryd.underlying129 rfl sz4 rfl rfl (by decide) gt) hSw523 (fun a524 hR525 => ?_)
            refine dt 1 rfl hP521 hR525 (want_n rfl) (fun x hx => m_loadC (sy hR525) hR525 rfl rfl rfl hx.2.2.2.2.2.2.1 Tryd.underlying4 rfl (by decide) gt) hSw523 (fun a526 hR527 => ?_)
            refine dt 2 rfl hP521 hR527 (want_n rfl) (fun x hx => r_not (sy hR527) hR527 rfl rfl rfl (by decide) gt) hSw523 (fun a528 hR529 => ?_)
            refine dt 3 rfl hP521 hR529 (want_n rfl) (fun x hx => r_move (sy hR529) hR529 rfl rfl rfl (by decide) gt) hSw523 (fun a530 hR531 => ?_)
            rcases Bool.eq_false_or_eq_true ((shp (((n.K)).toNat)).n) with h532 | h532
            · skip
              have hR533 := hR531.setb (d := 97) (b := false) rfl (by rw [h532]; rfl)
              refine dt 4 rfl hP521 hR533 (wt hR533) (fun x hx => m_field (j' := 1) (sy hR533) hR533 rfl rfl rfl Tryd.underlying32 rfl sz3 rfl rfl (by decide) gt) hSw523 (fun a534 hR535 => ?_)
              refine dt 5 rfl hP521 hR535 (wt hR535) (fun x hx => m_loadC (sy hR535) hR535 rfl rfl rfl hx.2.2.1 Tryd.underlying3 rfl (by decide) gt) hSw523 (fun a536 hR537 => ?_)
              refine dt 6 rfl hP521 hR537 (wt hR537) (fun x hx => r_geq (sy hR537) hR537 rfl rfl rfl rfl (by decide) gt) hSw523 (fun a538 hR539 => ?_)
              refine dt 7 rfl hP521 hR539 (wt hR539) (fun x hx => r_move (sy hR539) hR539 rfl rfl rfl (by decide) gt) hSw523 (fun a540 hR541 => ?_)
              rcases Decidable.em (0 ≤ (n.N)) with h542 | h542
              · skip
                have hR543 := hR541.setb (d := 101) (b := true) rfl (decide_eq_true h542)
                refine dt 8 rfl hP521 hR543 (wt hR543) (fun x hx => m_field (j' := 1) (sy hR543) hR543 rfl rfl rfl Tryd.underlying32 rfl sz3 rfl rfl (by decide) gt) hSw523 (fun a544 hR545 => ?_)
                refine dt 9 rfl hP521 hR545 (wt hR545) (fun x hx => m_loadC (sy hR545) hR545 rfl rfl rfl hx.2.2.1 Tryd.underlying3 rfl (by decide) gt) hSw523 (fun a546 hR547 => ?_)
                refine dt 10 rfl hP521 hR547 (wt hR547) (fun x hx => m_field (j' := 0) (sy hR547) hR547 rfl rfl rfl Tryd.underlying32 rfl sz3 rfl rfl (by decide) gt) hSw523 (fun a548 hR549 => ?_)
                refine dt 11 rfl hP521 hR549 (wt hR549) (fun x hx => m_loadC (sy hR549) hR549 rfl rfl rfl hx.2.1 Tryd.underlying3 rfl (by decide) gt) hSw523 (fun a550 hR551 => ?_)
                refine d_one (i := 12) (by kernel_rfl) ?_
                have hS552 : St w0 Z none_ w518 [.box g8 32 [.int .i64 (n.K), .int .i64 (n.N), .int .i64 (n.M), .string n.S], .box g77 129 [.slice A68 ((shp (((n.K)).toNat)).b.length) c69, .bool ((shp (((n.K)).toNat)).n), .bool ((shp (((n.K)).toNat)).m), .bool ((shp (((n.K)).toNat)).s)]] [dShapes, dRow 1 A68 (shp (((n.K)).toNat)).b.length c69 (encIs (shp (((n.K)).toNat)).b), dAg w261 J515] := hS519
                refine k_call (xs := [.tmp 105]) (st_op rfl (wt hR551)) hR551 rfl rfl rfl (by decide) ok130 (most_calls _ (imm Z w0 [.box g8 32 [.int .i64 (n.K), .int .i64 (n.N), .int .i64 (n.M), .string n.S], .box g77 129 [.slice A68 ((shp (((n.K)).toNat)).b.length) c69, .bool ((shp (((n.K)).toNat)).n), .bool ((shp (((n.K)).toNat)).m), .bool ((shp (((n.K)).toNat)).s)]] _) (fun _ h => h.1) (n.K)) ?_
                rintro e559 w554 ⟨rfl, hf557⟩
                have hS560 := hS552.below hf557.below
                refine ⟨_, rfl, fun a553 hR555 => ?_⟩
                have hSw561 : agr w261 J515 w554 ∧ cel g8 0 (.int .i64 (n.K)) w554 ∧ cel g8 1 (.int .i64 (n.N)) w554 ∧ cel g8 2 (.int .i64 (n.M)) w554 ∧ cel g8 3 (.string n.S) w554 ∧ cel g77 0 (.slice A68 ((shp (((n.K)).toNat)).b.length) c69) w554 ∧ cel g77 1 (.bool ((shp (((n.K)).toNat)).n)) w554 ∧ cel g77 2 (.bool ((shp (((n.K)).toNat)).m)) w554 ∧ cel g77 3 (.bool ((shp (((n.K)).toNat)).s)) w554 ∧ True := ⟨⟨(hS560.get (i := 2) rfl).1, fun k hk => ((hS560.get (i := 2) rfl).2 k hk).2⟩, (box_cell (hS560.res (i := 0) rfl) rfl), (box_cell (hS560.res (i := 0) rfl) rfl), (box_cell (hS560.res (i := 0) rfl) rfl), (box_cell (hS560.res (i := 0) rfl) rfl), (box_cell (hS560.res (i := 1) rfl) rfl), (box_cell (hS560.res (i := 1) rfl) rfl), (box_cell (hS560.res (i := 1) rfl) rfl), (box_cell (hS560.res (i := 1) rfl) rfl), trivial⟩
                refine ⟨hSw561, ?_⟩
                refine dt 13 rfl hP521 hR555 (wt hR555) (fun x hx => r_leq (sy hR555) hR555 rfl rfl rfl rfl (by decide) gt) hSw561 (fun a562 hR563 => ?_)
                refine dt 14 rfl hP521 hR563 (wt hR563) (fun x hx => r_pick_t (sy hR563) hR563 rfl rfl rfl rfl (by decide) gt) hSw561 (fun a564 hR565 => ?_)
                refine dt 15 rfl hP521 hR565 (want_n rfl) (fun x hx => r_pick_f (sy hR565) hR565 rfl rfl rfl rfl (by decide) gt) hSw561 (fun a566 hR567 => ?_)
                refine dt 16 rfl hP521 hR567 (want_n rfl) (fun x hx => r_assign (sy hR567) hR567 rfl rfl rfl (by decide) gt) hSw561 (fun a568 hR569 => ?_)
                refine wpAnyH_done (by kernel_rfl) (hN522 _ _ ?_) _
                refine x_then_n (hK514 _ _ ?_)
                refine wp_ret ?_
                refine e_ret1 hR569 rfl rfl rfl ?_
                refine ⟨?_, hS560.fr⟩
                exact congrArg Ending.returned (ret_b (by first | exact (right_sort h264 (by assumption)).symm | exact (right_big h264).symm | (rw [right_con' h264 (by assumption)]; first | rfl | (simp <;> omega) | (simp [h48, h56, h58, h264, h292, h324, h475, h532, h542]; done) | (rw [Bool.eq_iff_iff]; simp <;> omega)) | (rw [right_elim' h264 (by assumption)]; first | rfl | (simp <;> omega) | (simp [h48, h56, h58, h264, h292, h324, h475, h532, h542]; done) | (rw [Bool.eq_iff_iff]; simp <;> omega)) | (rw [right_oth h264 (by omega) (by omega) (by assumption) (by assumption) (by assumption)]; first | rfl | (simp <;> omega) | (simp [h48, h56, h58, h264, h292, h324, h475, h532, h542]; done) | (rw [Bool.eq_iff_iff]; simp <;> omega))))
              · skip
                have hR570 := hR541.setb (d := 101) (b := false) rfl (decide_eq_false h542)
                refine dp 8 rfl hP521 hR570 (wff hR570) hSw523 (fun a571 hR572 => ?_)
                refine dp 9 rfl hP521 hR572 (wff hR572) hSw523 (fun a573 hR574 => ?_)
                refine dp 10 rfl hP521 hR574 (wff hR574) hSw523 (fun a575 hR576 => ?_)
                refine dp 11 rfl hP521 hR576 (wff hR576) hSw523 (fun a577 hR578 => ?_)
                refine dp 12 rfl hP521 hR578 (wff hR578) hSw523 (fun a579 hR580 => ?_)
                refine dp 13 rfl hP521 hR580 (wff hR580) hSw523 (fun a581 hR582 => ?_)
                refine dt 14 rfl hP521 hR582 (wt hR582) (fun x hx => r_pick_f (sy hR582) hR582 rfl rfl rfl rfl (by decide) gt) hSw523 (fun a583 hR584 => ?_)
                refine dt 15 rfl hP521 hR584 (want_n rfl) (fun x hx => r_pick_f (sy hR584) hR584 rfl rfl rfl rfl (by decide) gt) hSw523 (fun a585 hR586 => ?_)
                refine dt 16 rfl hP521 hR586 (want_n rfl) (fun x hx => r_assign (sy hR586) hR586 rfl rfl rfl (by decide) gt) hSw523 (fun a587 hR588 => ?_)
                refine wpAnyH_done (by kernel_rfl) (hN522 _ _ ?_) _
                refine x_then_n (hK514 _ _ ?_)
                refine wp_ret ?_
                refine e_ret1 hR588 rfl rfl rfl ?_
                refine ⟨?_, hS519.fr⟩
                exact congrArg Ending.returned (ret_b (by first | exact (right_sort h264 (by assumption)).symm | exact (right_big h264).symm | (rw [right_con' h264 (by assumption)]; first | rfl | (simp <;> omega) | (simp [h48, h56, h58, h264, h292, h324, h475, h532, h542]; done) | (rw [Bool.eq_iff_iff]; simp <;> omega)) | (rw [right_elim' h264 (by assumption)]; first | rfl | (simp <;> omega) | (simp [h48, h56, h58, h264, h292, h324, h475, h532, h542]; done) | (rw [Bool.eq_iff_iff]; simp <;> omega)) | (rw [right_oth h264 (by omega) (by omega) (by assumption) (by assumption) (by assumption)]; first | rfl | (simp <;> omega) | (simp [h48, h56, h58, h264, h292, h324, h475, h532, h542]; done) | (rw [Bool.eq_iff_iff]; simp <;> omega))))
            · skip
              have hR589 := hR531.setb (d := 97) (b := true) rfl (by rw [h532]; rfl)
              refine dp 4 rfl hP521 hR589 (wff hR589) hSw523 (fun a590 hR591 => ?_)
              refine dp 5 rfl hP521 hR591 (wff hR591) hSw523 (fun a592 hR593 => ?_)
              refine dp 6 rfl hP521 hR593 (wff hR593) hSw523 (fun a594 hR595 => ?_)
              refine dp 7 rfl hP521 hR595 (wff hR595) hSw523 (fun a596 hR597 => ?_)
              refine dp 8 rfl hP521 hR597 (wu hR597) hSw523 (fun a598 hR599 => ?_)
              refine dp 9 rfl hP521 hR599 (wu hR599) hSw523 (fun a600 hR601 => ?_)
              refine dp 10 rfl hP521 hR601 (wu hR601) hSw523 (fun a602 hR603 => ?_)
              refine dp 11 rfl hP521 hR603 (wu hR603) hSw523 (fun a604 hR605 => ?_)
              refine dp 12 rfl hP521 hR605 (wu hR605) hSw523 (fun a606 hR607 => ?_)
              refine dp 13 rfl hP521 hR607 (wu hR607) hSw523 (fun a608 hR609 => ?_)
              refine dp 14 rfl hP521 hR609 (wff hR609) hSw523 (fun a610 hR611 => ?_)
              refine dt 15 rfl hP521 hR611 (want_n rfl) (fun x hx => r_pick_t (sy hR611) hR611 rfl rfl rfl rfl (by decide) gt) hSw523 (fun a612 hR613 => ?_)
              refine dt 16 rfl hP521 hR613 (want_n rfl) (fun x hx => r_assign (sy hR613) hR613 rfl rfl rfl (by decide) gt) hSw523 (fun a614 hR615 => ?_)
              refine wpAnyH_done (by kernel_rfl) (hN522 _ _ ?_) _
              refine x_then_n (hK514 _ _ ?_)
              refine wp_ret ?_
              refine e_ret1 hR615 rfl rfl rfl ?_
              refine ⟨?_, hS519.fr⟩
              exact congrArg Ending.returned (ret_b (by first | exact (right_sort h264 (by assumption)).symm | exact (right_big h264).symm | (rw [right_con' h264 (by assumption)]; first | rfl | (simp <;> omega) | (simp [h48, h56, h58, h264, h292, h324, h475, h532]; done) | (rw [Bool.eq_iff_iff]; simp <;> omega)) | (rw [right_elim' h264 (by assumption)]; first | rfl | (simp <;> omega) | (simp [h48, h56, h58, h264, h292, h324, h475, h532]; done) | (rw [Bool.eq_iff_iff]; simp <;> omega)) | (rw [right_oth h264 (by omega) (by omega) (by assumption) (by assumption) (by assumption)]; first | rfl | (simp <;> omega) | (simp [h48, h56, h58, h264, h292, h324, h475, h532]; done) | (rw [Bool.eq_iff_iff]; simp <;> omega))))
end Go.Proofs.YtobgdeffhdefeaaDoor
/- Contracts of functions, one theorem each: what the call returns, and that nothing old is changed. Printed by gen.py. -/
namespace Go.Proofs.YtobgdeffhdefeaaDoor
open Go Go.RowKit
set_option linter.unusedSimpArgs false
set_option linter.unusedVariables false

set_option maxRecDepth 100000 in
set_option maxHeartbeats 1000000 in
theorem measured_calls (w0 : World) (Z : Nat → Prop) (hZ : ∀ k, Z k → k < w0.heap.size) (tA : Option Addr) (tc : Nat) (t : List Nd) (hShp : Shapes w0 Z) (ht : (dRow 4 tA t.length tc (encNs t)).φ w0 Z) (hl : t.length ≤ 4000) (hsm : sml t) :
    Calls Tryd.prog 106 [.slice tA t.length tc].toArray w0 (fun e w' => ∃ (rA0 : Option Addr) (rc0 : Nat), e = .returned (.tuple #[.slice rA0 (measL t).length rc0, .bool (measB t)]) ∧ Fr none_ w0 w' ∧ (dRow 2 rA0 ((measL t).length) rc0 (encMs (measL t))).φ w' (nxt Z w0 w')) := by
  have hstart : ∀ k, Z k → imm Z w0 [] w0 k ∧ w0.heap[k]? = w0.heap[k]? := fun k hk => ⟨⟨hZ k hk, fun _ => hk, fun _ h => by cases h⟩, rfl⟩
  have hS3 : St w0 Z none_ w0 [] [dShapes, dRow 4 tA t.length tc (encNs t)] := St.start w0 Z none_ _ (by
    intro d hd
    simp only [List.mem_cons, List.not_mem_nil, or_false] at hd
    rcases hd with rfl | rfl
    · exact Dat.mono _ _ _ _ _ (Nat.le_refl _) hShp hstart
    · exact Dat.mono _ _ _ _ _ (Nat.le_refl _) ht hstart
    )
  refine c_enter Tryd.func106 rfl Tryd.ntmps106 rfl (fun a1 hR2 => ?_)
  refine wp_seq_k (fun K4 hK5 => ?_)
  refine c_region ?_
  refine asg hR2 (fun a6 hR7 => ?_)
  refine asg hR7 (fun a8 hR9 => ?_)
  refine wpList_nil (x_then_n (hK5 _ _ ?_))
  refine wp_seq_k (fun K10 hK11 => ?_)
  refine c_region ?_
  refine asg hR9 (fun a12 hR13 => ?_)
  refine asg hR13 (fun a14 hR15 => ?_)
  refine wpList_nil (x_then_n (hK11 _ _ ?_))
  refine wp_seq_k (fun K16 hK17 => ?_)
  refine wp_seq_k (fun K18 hK19 => ?_)
  refine c_region ?_
  refine mv hR15 (fun a20 hR21 => ?_)
  refine r_len sv hR21 rfl rfl rfl rfl Tryd.underlying22 (by decide) (fun a22 hR23 => ?_)
  refine mv hR23 (fun a24 hR25 => ?_)
  refine wpList_nil (x_then_n (hK19 _ _ ?_))
  refine wp_block ?_
  have hS26 := hS3.nilrow 121 2
  have hS27 := hS26.nilrow 121 2
  refine wp_loop_ghost (fun gn ga gw => ∃ k : Nat, ∃ st : List T, ∃ Aa : Option Addr, ∃ ca : Nat, ∃ Ao : Option Addr, ∃ co : Nat, (Reg ga 73 [(1000000, .bool false), (12, .slice tA t.length tc), (13, .int .i64 ((t.length : Nat) : Int)), (14, .int .i64 ((k : Nat) : Int)), (4, .slice Aa ((allTs 0 st).length) ca), (5, .slice Ao ((meas 0 st).length) co)]) ∧ (St w0 Z none_ gw [.row Aa ((allTs 0 st).length) ca 121 2 (encMs (allTs 0 st)), .row Ao ((meas 0 st).length) co 121 2 (encMs (meas 0 st))] [dShapes, dRow 4 tA t.length tc (encNs t)]) ∧ (k ≤ t.length) ∧ (scanT [] (t.take k) = some st) ∧ (t.length - k) = gn) _ ⟨0, [], none, 0, none, 0, (hR25.sub (rc rfl (rc rfl (rc rfl (rc rfl (rc rfl (rc rfl rnl))))))), hS27, by omega, rfl, rfl⟩ ?_
  rintro r28 a29 w30 ⟨k, st, Aa, ca, Ao, co, hR31, hS32, hk, hsc, hn33⟩
  have hfl := scan_flats hsc hk
  have hml := meas_length 0 st
  have hal := allTs_length 0 st
  have hsl := flats_len_ge st
  refine wp_seq_k (fun K34 hK35 => ?_)
  refine c_region ?_
  refine r_lss sv hR31 rfl rfl rfl rfl (by decide) (fun a36 hR37 => ?_)
  refine wpList_nil (x_then_n (hK35 _ _ ?_))
  refine wp_seq_k (fun K38 hK39 => ?_)
  rcases Decidable.em (((k : Nat) : Int) < ((t.length : Nat) : Int)) with h40 | h40
  · skip
    have hR41 := hR37.setb (d := 15) (b := true) rfl (decide_eq_true h40)
    refine wp_cond_true (hR41.ev rfl) ?_
    refine wp_skip ?_
    refine x_then_n (hK39 _ _ ?_)
    refine wp_seq_k (fun K42 hK43 => ?_)
    refine wp_block ?_
    refine wp_seq_k (fun K44 hK45 => ?_)
    refine c_region ?_
    refine mv hR41 (fun a46 hR47 => ?_)
    refine m_index (i := k) (j := k * 4) sv hR47 rfl rfl rfl rfl Tryd.underlying22 sz32 (by omega) (by omega) (nds_elem (t := t) (k := k) (hS32.row (i := 1) rfl).2 (by omega)).some_ rfl (by decide) (fun a48 hR49 => ?_)
    refine m_loadEN sv hR49 rfl rfl rfl (nds_elem (t := t) (k := k) (hS32.row (i := 1) rfl).2 (by omega)) Tryd.underlying32 rfl sz32 (by decide) (fun a50 hR51 => ?_)
    refine m_alloc (cs := [.int .i64 0, .int .i64 0, .int .i64 0, .string (⟨#[]⟩ : ByteArray)]) sv hR51 hS32 rfl rfl ze32 rfl (by decide) (fun a52 w53 g54 hR55 hS56 => ?_)
    refine asg hR55 (fun a57 hR58 => ?_)
    refine m_store (i := 2) (cs' := [.int .i64 (((nth t k).K)), .int .i64 (((nth t k).N)), .int .i64 (((nth t k).M)), .string ((nth t k).S)]) se hR58 hS56 rfl rfl rfl rfl rfl sz32 rfl rfl rfl (fun a59 w60 hR61 hS62 => ?_)
    refine wpList_nil (x_then_n (hK45 _ _ ?_))
    refine wp_seq_k (fun K63 hK64 => ?_)
    refine wp_seq_k (fun K65 hK66 => ?_)
    refine c_region ?_
    refine m_loadN (i := 2) (vs := [.int .i64 (((nth t k).K)), .int .i64 (((nth t k).N)), .int .i64 (((nth t k).M)), .string ((nth t k).S)]) sv hR61 hS62 rfl rfl rfl rfl rfl Tryd.underlying32 rfl sz32 (by decide) (fun a67 hR68 => ?_)
    have hS69 : St w0 Z none_ w60 [.row Aa ((allTs 0 st).length) ca 121 2 (encMs (allTs 0 st)), .row Ao ((meas 0 st).length) co 121 2 (encMs (meas 0 st)), .box g54 32 [.int .i64 (((nth t k).K)), .int .i64 (((nth t k).N)), .int .i64 (((nth t k).M)), .string ((nth t k).S)]] [dShapes, dRow 4 tA t.length tc (encNs t)] := hS62
    refine k_call (xs := [.tmp 19]) se hR68 rfl rfl rfl (by decide) ok112 (right_calls _ (imm Z w0 [.row Aa ((allTs 0 st).length) ca 121 2 (encMs (allTs 0 st)), .row Ao ((meas 0 st).length) co 121 2 (encMs (meas 0 st)), .box g54 32 [.int .i64 (((nth t k).K)), .int .i64 (((nth t k).N)), .int .i64 (((nth t k).M)), .string ((nth t k).S)]] _) (fun _ h => h.1) (nth t k) (hS69.get (i := 0) rfl) (hsm _ (by omega))) ?_
    rintro e76 w71 ⟨rfl, hf74⟩
    have hS77 := hS69.below hf74.below
    refine ⟨_, rfl, fun a70 hR72 => ?_⟩
    refine r_not sv hR72 rfl rfl rfl (by decide) (fun a78 hR79 => ?_)
    refine mv hR79 (fun a80 hR81 => ?_)
    refine l_join (fun ga gw => Reg ga 73 [(4, .slice Aa ((allTs 0 st).length) ca), (5, .slice Ao ((meas 0 st).length) co), (6, .int .i64 ((k : Nat) : Int)), (7, .pointer (some ⟨g54, 0, none⟩)), (12, .slice tA t.length tc), (13, .int .i64 ((t.length : Nat) : Int)), (14, .int .i64 ((k : Nat) : Int)), (28, .bool ((!(right (nth t k))) || (decide ((((meas 0 st).length : Nat) : Int) < ((many (nth t k) : Nat) : Int))))), (1000000, .bool false)] ∧ St w0 Z none_ gw [.row Aa ((allTs 0 st).length) ca 121 2 (encMs (allTs 0 st)), .row Ao ((meas 0 st).length) co 121 2 (encMs (meas 0 st)), .box g54 32 [.int .i64 (((nth t k).K)), .int .i64 (((nth t k).N)), .int .i64 (((nth t k).M)), .string ((nth t k).S)]] [dShapes, dRow 4 tA t.length tc (encNs t)]) 6 ?_ ?_
    · skip
      rcases Bool.eq_false_or_eq_true (right (nth t k)) with h82 | h82
      · skip
        have hR83 := hR81.setb (d := 22) (b := false) rfl (by rw [h82]; rfl)
        refine m_loadN (i := 2) (vs := [.int .i64 (((nth t k).K)), .int .i64 (((nth t k).N)), .int .i64 (((nth t k).M)), .string ((nth t k).S)]) (st_listV_w (wt hR83)) hR83 hS77 rfl rfl rfl rfl rfl Tryd.underlying32 rfl sz32 (by decide) (fun a84 hR85 => ?_)
        have hS86 : St w0 Z none_ w71 [.row Aa ((allTs 0 st).length) ca 121 2 (encMs (allTs 0 st)), .row Ao ((meas 0 st).length) co 121 2 (encMs (meas 0 st)), .box g54 32 [.int .i64 (((nth t k).K)), .int .i64 (((nth t k).N)), .int .i64 (((nth t k).M)), .string ((nth t k).S)]] [dShapes, dRow 4 tA t.length tc (encNs t)] := hS77
        refine k_call (xs := [.tmp 23]) (st_list_w (wt hR85)) hR85 rfl rfl rfl (by decide) ok126 (many_calls _ (imm Z w0 [.row Aa ((allTs 0 st).length) ca 121 2 (encMs (allTs 0 st)), .row Ao ((meas 0 st).length) co 121 2 (encMs (meas 0 st)), .box g54 32 [.int .i64 (((nth t k).K)), .int .i64 (((nth t k).N)), .int .i64 (((nth t k).M)), .string ((nth t k).S)]] _) (fun _ h => h.1) (nth t k) (hS86.get (i := 0) rfl) (by first | assumption | omega | (simp; done) | (simp; omega))) ?_
        rintro e93 w88 ⟨rfl, hf91⟩
        have hS94 := hS86.below hf91.below
        refine ⟨_, rfl, fun a87 hR89 => ?_⟩
        refine r_move (st_listV_w (wt hR89)) hR89 rfl rfl rfl (by decide) (fun a95 hR96 => ?_)
        refine r_len (st_listV_w (wt hR96)) hR96 rfl rfl rfl rfl Tryd.underlying87 (by decide) (fun a97 hR98 => ?_)
        refine r_gtr (st_listV_w (wt hR98)) hR98 rfl rfl rfl rfl (by decide) (fun a99 hR100 => ?_)
        refine r_pick_f sv hR100 rfl rfl rfl rfl (by decide) (fun a101 hR102 => ?_)
        refine wpList_nil ?_
        exact x_then_n ⟨(hR102.sub (rc rfl (rc rfl (rc rfl (rc rfl (rc rfl (rc rfl (rc rfl (rc (rb rfl (by first | rfl | (simp only [h82, bl]; done) | (simp [h82]; done) | (simp [h82]; omega))) (rc rfl rnl)))))))))), hS94⟩
      · skip
        have hR103 := hR81.setb (d := 22) (b := true) rfl (by rw [h82]; rfl)
        refine sps hR103 (wff hR103) (fun a104 hR105 => ?_)
        refine sps hR105 (wff hR105) (fun a106 hR107 => ?_)
        refine sps hR107 (wff hR107) (fun a108 hR109 => ?_)
        refine sps hR109 (wff hR109) (fun a110 hR111 => ?_)
        refine sps hR111 (wff hR111) (fun a112 hR113 => ?_)
        refine r_pick_t sv hR113 rfl rfl rfl rfl (by decide) (fun a114 hR115 => ?_)
        refine wpList_nil ?_
        exact x_then_n ⟨(hR115.sub (rc rfl (rc rfl (rc rfl (rc rfl (rc rfl (rc rfl (rc rfl (rc (rb rfl (by first | rfl | (simp only [h82, bl]; done) | (simp [h82]; done) | (simp [h82]; omega))) (rc rfl rnl)))))))))), hS77⟩
    rintro a116 w117 ⟨hR118, hS119⟩
    refine wpList_nil (x_then_n (hK66 _ _ ?_))
    rcases Bool.eq_false_or_eq_true (((!(right (nth t k))) || (decide ((((meas 0 st).length : Nat) : Int) < ((many (nth t k) : Nat) : Int))))) with h120 | h120
    · skip
      have hq121 := h120
      try simp only [Bool.or_eq_true, Bool.and_eq_true, Bool.not_eq_true', Bool.not_eq_false', decide_eq_true_eq, decide_eq_false_iff_not, Bool.or_eq_false_iff, Bool.and_eq_false_iff] at hq121
      have hR122 := hR118.setb (d := 28) (b := true) rfl h120
      refine wp_cond_true (hR122.ev rfl) ?_
      refine wp_seq_k (fun K123 hK124 => ?_)
      refine c_region ?_
      refine asg hR122 (fun a125 hR126 => ?_)
      refine asg hR126 (fun a127 hR128 => ?_)
      refine wpList_nil (x_then_n (hK124 _ _ ?_))
      refine wp_ret ?_
      refine x_then_r ?_
      refine x_block_r ?_
      refine x_then_r ?_
      refine x_then_r ?_
      refine x_block_r ?_
      refine x_then_r ?_
      refine e_ret2 hR128 rfl rfl rfl rfl ?_
      have he129 : measL t = [] := (meas_bad (scan_none hsc (by omega) (push_none (by rcases hq121 with h | h; exact .inl h; exact .inr (by omega))))).1
      rw [he129]
      refine ⟨none, 0, ?_, hS119.fr, ⟨Nat.le_refl _, RowI.nil _ _ _ _⟩⟩
      exact ret_t2 rfl (ret_b (by exact (meas_bad (scan_none hsc (by omega) (push_none (by rcases hq121 with h | h; exact .inl h; exact .inr (by omega))))).2.symm))
    · skip
      have h130 := or_fl h120
      have h131 := not_f h130
      have h132 := or_fr h120
      have h133 := of_decide_eq_false h132
      have hR134 := hR118.setb (d := 28) (b := false) rfl h120
      refine wp_cond_false (hR134.ev rfl) ?_
      refine wp_skip ?_
      refine x_then_n (hK64 _ _ ?_)
      refine wp_seq_k (fun K135 hK136 => ?_)
      refine c_region ?_
      refine mv hR134 (fun a137 hR138 => ?_)
      refine r_len sv hR138 rfl rfl rfl rfl Tryd.underlying87 (by decide) (fun a139 hR140 => ?_)
      refine m_loadN (i := 2) (vs := [.int .i64 (((nth t k).K)), .int .i64 (((nth t k).N)), .int .i64 (((nth t k).M)), .string ((nth t k).S)]) sv hR140 hS119 rfl rfl rfl rfl rfl Tryd.underlying32 rfl sz32 (by decide) (fun a141 hR142 => ?_)
      have hS143 : St w0 Z none_ w117 [.row Aa ((allTs 0 st).length) ca 121 2 (encMs (allTs 0 st)), .row Ao ((meas 0 st).length) co 121 2 (encMs (meas 0 st)), .box g54 32 [.int .i64 (((nth t k).K)), .int .i64 (((nth t k).N)), .int .i64 (((nth t k).M)), .string ((nth t k).S)]] [dShapes, dRow 4 tA t.length tc (encNs t)] := hS119
      refine k_call (xs := [.tmp 31]) se hR142 rfl rfl rfl (by decide) ok126 (many_calls _ (imm Z w0 [.row Aa ((allTs 0 st).length) ca 121 2 (encMs (allTs 0 st)), .row Ao ((meas 0 st).length) co 121 2 (encMs (meas 0 st)), .box g54 32 [.int .i64 (((nth t k).K)), .int .i64 (((nth t k).N)), .int .i64 (((nth t k).M)), .string ((nth t k).S)]] _) (fun _ h => h.1) (nth t k) (hS143.get (i := 0) rfl) (by first | assumption | omega | (simp; done) | (simp; omega))) ?_
      rintro e150 w145 ⟨rfl, hf148⟩
      have hS151 := hS143.below hf148.below
      refine ⟨_, rfl, fun a144 hR146 => ?_⟩
      refine r_sub (z := ((((meas 0 st).length : Nat) : Int) - ((many (nth t k) : Nat) : Int))) sv hR146 rfl rfl rfl rfl (by decide) (by omega) (by omega) (by omega) (fun a152 hR153 => ?_)
      refine asg hR153 (fun a154 hR155 => ?_)
      refine wpList_nil (x_then_n (hK136 _ _ ?_))
      refine wp_seq_k (fun K156 hK157 => ?_)
      refine c_region ?_
      refine mv hR155 (fun a158 hR159 => ?_)
      refine m_build (ps := [(0, .tmp 34), (1, .const (.int .i64 1))]) (v := .agg #[.int .i64 ((k : Nat) : Int), .int .i64 1]) sv hR159 rfl rfl rfl (fun _ => by kernel_rfl) (by decide) (fun a160 hR161 => ?_)
      refine m_alloc (cs := [.int .i64 0, .int .i64 0]) sv hR161 hS151 rfl rfl ze121 rfl (by decide) (fun a162 w163 g164 hR165 hS166 => ?_)
      refine m_store (i := 3) (cs' := [.int .i64 ((k : Nat) : Int), .int .i64 1]) se hR165 hS166 rfl rfl rfl rfl rfl sz121 rfl rfl rfl (fun a167 w168 hR169 hS170 => ?_)
      refine wpList_nil (x_then_n (hK157 _ _ ?_))
      refine wp_seq_k (fun K171 hK172 => ?_)
      refine wp_seq_k (fun K173 hK174 => ?_)
      refine c_region ?_
      refine mv hR169 (fun a175 hR176 => ?_)
      refine mv hR176 (fun a177 hR178 => ?_)
      have hcap185 := own_cap (hS170.res (i := 1) rfl)
      refine m_sliceV (lo := some (.tmp 37)) (hi := none) (vlo := (some (.int .i64 ((((meas 0 st).length : Nat) : Int) - ((many (nth t k) : Nat) : Int))))) (vhi := none) (kd := .i64) (kd' := .i64) sv hR178 rfl rfl rfl rfl rfl (((meas 0 st).length) - (many (nth t k))) (many (nth t k)) (.inl (by first | rfl | (congr 2; omega))) (.inr ⟨rfl, by omega⟩) Tryd.underlying87 sz121 (by omega) (by decide) (fun a179 A181 c182 hc183 hv184 hR180 => ?_)
      refine r_len sv hR180 rfl rfl rfl rfl Tryd.underlying87 (by decide) (fun a186 hR187 => ?_)
      refine mv hR187 (fun a188 hR189 => ?_)
      refine wpList_nil (x_then_n (hK174 _ _ ?_))
      refine wp_block ?_
      refine wp_loop_ghost (fun gn ga gw => ∃ j : Nat, (Reg ga 73 [(4, .slice Aa ((allTs 0 st).length) ca), (5, .slice Ao ((meas 0 st).length) co), (12, .slice tA t.length tc), (13, .int .i64 ((t.length : Nat) : Int)), (14, .int .i64 ((k : Nat) : Int)), (1000000, .bool false), (8, .int .i64 ((((meas 0 st).length : Nat) : Int) - ((many (nth t k) : Nat) : Int))), (9, .pointer (some ⟨g164, 0, none⟩)), (38, .slice A181 (many (nth t k)) c182), (39, .int .i64 ((many (nth t k) : Nat) : Int)), (40, .int .i64 ((j : Nat) : Int))]) ∧ (St w0 Z none_ gw [.row Aa ((allTs 0 st).length) ca 121 2 (encMs (allTs 0 st)), .row Ao ((meas 0 st).length) co 121 2 (encMs (meas 0 st)), .box g54 32 [.int .i64 (((nth t k).K)), .int .i64 (((nth t k).N)), .int .i64 (((nth t k).M)), .string ((nth t k).S)], .box g164 121 [.int .i64 ((fromQ k (meas 0 st) (((meas 0 st).length) - (many (nth t k))) j)), .int .i64 ((deepQ (meas 0 st) (((meas 0 st).length) - (many (nth t k))) j))]] [dShapes, dRow 4 tA t.length tc (encNs t)]) ∧ (j ≤ many (nth t k)) ∧ (many (nth t k) - j) = gn) _ ⟨0, (hR189.sub (rc rfl (rc rfl (rc rfl (rc rfl (rc rfl (rc rfl (rc rfl (rc rfl (rc rfl (rc rfl (rc rfl rnl)))))))))))), hS170, by omega, rfl⟩ ?_
      rintro r190 a191 w192 ⟨j, hR193, hS194, hj, hn195⟩
      obtain ⟨hd1, hd2⟩ := deepQ_le (st := st) (b := ((meas 0 st).length) - (many (nth t k))) (q := j)
      obtain ⟨hd3, hd4⟩ := meas_deep_le (st := st) (i := (((meas 0 st).length) - (many (nth t k))) + j)
      refine wp_seq_k (fun K196 hK197 => ?_)
      refine c_region ?_
      refine r_lss sv hR193 rfl rfl rfl rfl (by decide) (fun a198 hR199 => ?_)
      refine wpList_nil (x_then_n (hK197 _ _ ?_))
      refine wp_seq_k (fun K200 hK201 => ?_)
      rcases Decidable.em (((j : Nat) : Int) < ((many (nth t k) : Nat) : Int)) with h202 | h202
      · skip
        have hR203 := hR199.setb (d := 41) (b := true) rfl (decide_eq_true h202)
        refine wp_cond_true (hR203.ev rfl) ?_
        refine wp_skip ?_
        refine x_then_n (hK201 _ _ ?_)
        refine wp_seq_k (fun K204 hK205 => ?_)
        refine wp_block ?_
        refine wp_seq_k (fun K206 hK207 => ?_)
        refine c_region ?_
        refine mv hR203 (fun a208 hR209 => ?_)
        refine m_index (i := j) (j := j * 2) sv hR209 rfl rfl rfl rfl Tryd.underlying87 sz121 (by omega) (by omega) (Cut.elem hv184 (by omega) (own_ms (t := meas 0 st) (k := (((meas 0 st).length) - (many (nth t k))) + j) (hS194.res (i := 1) rfl) (by omega))).some_ rfl (by decide) (fun a210 hR211 => ?_)
        refine m_loadEN sv hR211 rfl rfl rfl (Cut.elem hv184 (by omega) (own_ms (t := meas 0 st) (k := (((meas 0 st).length) - (many (nth t k))) + j) (hS194.res (i := 1) rfl) (by omega))) Tryd.underlying121 rfl sz121 (by decide) (fun a212 hR213 => ?_)
        refine m_alloc (cs := [.int .i64 0, .int .i64 0]) sv hR213 hS194 rfl rfl ze121 rfl (by decide) (fun a214 w215 g216 hR217 hS218 => ?_)
        refine asg hR217 (fun a219 hR220 => ?_)
        refine m_store (i := 4) (cs' := [.int .i64 (((nthM (meas 0 st) ((((meas 0 st).length) - (many (nth t k))) + j)).1)), .int .i64 (((nthM (meas 0 st) ((((meas 0 st).length) - (many (nth t k))) + j)).2))]) se hR220 hS218 rfl rfl rfl rfl rfl sz121 rfl rfl rfl (fun a221 w222 hR223 hS224 => ?_)
        refine wpList_nil (x_then_n (hK207 _ _ ?_))
        refine c_join (fun ga gw => Reg ga 73 [(4, .slice Aa ((allTs 0 st).length) ca), (5, .slice Ao ((meas 0 st).length) co), (8, .int .i64 ((((meas 0 st).length : Nat) : Int) - ((many (nth t k) : Nat) : Int))), (9, .pointer (some ⟨g164, 0, none⟩)), (11, .pointer (some ⟨g216, 0, none⟩)), (12, .slice tA t.length tc), (13, .int .i64 ((t.length : Nat) : Int)), (14, .int .i64 ((k : Nat) : Int)), (38, .slice A181 (many (nth t k)) c182), (39, .int .i64 ((many (nth t k) : Nat) : Int)), (40, .int .i64 ((j : Nat) : Int)), (1000000, .bool false)] ∧ St w0 Z none_ gw [.row Aa ((allTs 0 st).length) ca 121 2 (encMs (allTs 0 st)), .row Ao ((meas 0 st).length) co 121 2 (encMs (meas 0 st)), .box g54 32 [.int .i64 (((nth t k).K)), .int .i64 (((nth t k).N)), .int .i64 (((nth t k).M)), .string ((nth t k).S)], .box g164 121 [.int .i64 ((if (((j : Nat) : Int) = 0) then (((nthM (meas 0 st) ((((meas 0 st).length) - (many (nth t k))) + j)).1)) else ((fromQ k (meas 0 st) (((meas 0 st).length) - (many (nth t k))) j)))), .int .i64 ((deepQ (meas 0 st) (((meas 0 st).length) - (many (nth t k))) j))], .box g216 121 [.int .i64 (((nthM (meas 0 st) ((((meas 0 st).length) - (many (nth t k))) + j)).1)), .int .i64 (((nthM (meas 0 st) ((((meas 0 st).length) - (many (nth t k))) + j)).2))]] [dShapes, dRow 4 tA t.length tc (encNs t)]) ?_ ?_
        · skip
          refine wp_seq_k (fun K225 hK226 => ?_)
          refine c_region ?_
          refine mv hR223 (fun a227 hR228 => ?_)
          refine r_eql sv hR228 rfl rfl rfl rfl (by decide) (fun a229 hR230 => ?_)
          refine wpList_nil (x_then_n (hK226 _ _ ?_))
          rcases Decidable.em (((j : Nat) : Int) = 0) with h231 | h231
          · skip
            have hR232 := hR230.setb (d := 46) (b := true) rfl (decide_eq_true h231)
            refine wp_cond_true (hR232.ev rfl) ?_
            refine c_region ?_
            refine m_field (j' := 0) sv hR232 rfl rfl rfl Tryd.underlying121 rfl sz3 rfl rfl (by decide) (fun a233 hR234 => ?_)
            refine m_load (i := 4) sv hR234 hS224 rfl rfl rfl rfl rfl Tryd.underlying3 rfl (by decide) (fun a235 hR236 => ?_)
            refine m_field (j' := 0) sv hR236 rfl rfl rfl Tryd.underlying121 rfl sz3 rfl rfl (by decide) (fun a237 hR238 => ?_)
            refine m_store (i := 3) (cs' := [.int .i64 (((nthM (meas 0 st) ((((meas 0 st).length) - (many (nth t k))) + j)).1)), .int .i64 ((deepQ (meas 0 st) (((meas 0 st).length) - (many (nth t k))) j))]) se hR238 hS224 rfl rfl rfl rfl rfl sz3 rfl rfl rfl (fun a239 w240 hR241 hS242 => ?_)
            refine wpList_nil ?_
            have hSj := hS242
            exact x_then_n ⟨(hR241.sub (rc rfl (rc rfl (rc rfl (rc rfl (rc rfl (rc rfl (rc rfl (rc rfl (rc rfl (rc rfl (rc rfl (rc rfl rnl))))))))))))), by rw [(show (((if (((j : Nat) : Int) = 0) then (((nthM (meas 0 st) ((((meas 0 st).length) - (many (nth t k))) + j)).1)) else ((fromQ k (meas 0 st) (((meas 0 st).length) - (many (nth t k))) j)))) : Int) = (((nthM (meas 0 st) ((((meas 0 st).length) - (many (nth t k))) + j)).1)) by first | rfl | (simp only [decide_eq_true h231, if_pos h231, bl]; done) | (simp [h231]; done) | (simp [h231]; omega))]; exact hSj⟩
          · skip
            have hR243 := hR230.setb (d := 46) (b := false) rfl (decide_eq_false h231)
            refine wp_cond_false (hR243.ev rfl) ?_
            refine wp_skip ?_
            have hSj := hS224
            exact x_then_n ⟨(hR243.sub (rc rfl (rc rfl (rc rfl (rc rfl (rc rfl (rc rfl (rc rfl (rc rfl (rc rfl (rc rfl (rc rfl (rc rfl rnl))))))))))))), by rw [(show (((if (((j : Nat) : Int) = 0) then (((nthM (meas 0 st) ((((meas 0 st).length) - (many (nth t k))) + j)).1)) else ((fromQ k (meas 0 st) (((meas 0 st).length) - (many (nth t k))) j)))) : Int) = ((fromQ k (meas 0 st) (((meas 0 st).length) - (many (nth t k))) j)) by first | rfl | (simp only [decide_eq_false h231, if_neg h231, bl]; done) | (simp [h231]; done) | (simp [h231]; omega))]; exact hSj⟩
        rintro a244 w245 ⟨hR246, hS247⟩
        refine c_region ?_
        refine m_field (j' := 1) sv hR246 rfl rfl rfl Tryd.underlying121 rfl sz3 rfl rfl (by decide) (fun a248 hR249 => ?_)
        refine m_load (i := 3) sv hR249 hS247 rfl rfl rfl rfl rfl Tryd.underlying3 rfl (by decide) (fun a250 hR251 => ?_)
        refine m_field (j' := 1) sv hR251 rfl rfl rfl Tryd.underlying121 rfl sz3 rfl rfl (by decide) (fun a252 hR253 => ?_)
        refine m_load (i := 4) sv hR253 hS247 rfl rfl rfl rfl rfl Tryd.underlying3 rfl (by decide) (fun a254 hR255 => ?_)
        refine r_add (z := (((nthM (meas 0 st) ((((meas 0 st).length) - (many (nth t k))) + j)).2) + 1)) sv hR255 rfl rfl rfl rfl (by decide) (by omega) (by omega) (by omega) (fun a256 hR257 => ?_)
        refine r_max sv hR257 rfl rfl rfl rfl rfl (by decide) (fun a258 hR259 => ?_)
        refine m_field (j' := 1) sv hR259 rfl rfl rfl Tryd.underlying121 rfl sz3 rfl rfl (by decide) (fun a260 hR261 => ?_)
        refine m_store (i := 3) (cs' := [.int .i64 ((if (((j : Nat) : Int) = 0) then (((nthM (meas 0 st) ((((meas 0 st).length) - (many (nth t k))) + j)).1)) else ((fromQ k (meas 0 st) (((meas 0 st).length) - (many (nth t k))) j)))), .int .i64 ((max ((deepQ (meas 0 st) (((meas 0 st).length) - (many (nth t k))) j)) (((nthM (meas 0 st) ((((meas 0 st).length) - (many (nth t k))) + j)).2) + 1)))]) se hR261 hS247 rfl rfl rfl rfl rfl sz3 rfl rfl rfl (fun a262 w263 hR264 hS265 => ?_)
        refine wpList_nil ?_
        refine x_block_n ?_
        refine x_then_n (hK205 _ _ ?_)
        refine c_region ?_
        refine r_add (z := ((j + 1 : Nat) : Int)) sv hR264 rfl rfl rfl rfl (by decide) (by omega) (by omega) (by omega) (fun a266 hR267 => ?_)
        refine mv hR267 (fun a268 hR269 => ?_)
        refine wpList_nil ?_
        have he270 : ((if (((j : Nat) : Int) = 0) then (((nthM (meas 0 st) ((((meas 0 st).length) - (many (nth t k))) + j)).1)) else ((fromQ k (meas 0 st) (((meas 0 st).length) - (many (nth t k))) j)))) = ((fromQ k (meas 0 st) (((meas 0 st).length) - (many (nth t k))) (j + 1))) := by unfold fromQ; (repeat' split) <;> first | rfl | omega | (congr 2; omega) | (congr 3; omega)
        have hS271 := hS265
        rw [he270] at hS271
        have he272 : ((max ((deepQ (meas 0 st) (((meas 0 st).length) - (many (nth t k))) j)) (((nthM (meas 0 st) ((((meas 0 st).length) - (many (nth t k))) + j)).2) + 1))) = ((deepQ (meas 0 st) (((meas 0 st).length) - (many (nth t k))) (j + 1))) := rfl
        have hS273 := hS271
        rw [he272] at hS273
        have hS274 := hS273.erase 4
        exact ⟨_, by omega, j + 1, (hR269.sub (rc rfl (rc rfl (rc rfl (rc rfl (rc rfl (rc rfl (rc rfl (rc rfl (rc rfl (rc rfl (rc rfl rnl)))))))))))), hS274, by omega, rfl⟩
      · skip
        have hR275 := hR199.setb (d := 41) (b := false) rfl (decide_eq_false h202)
        refine wp_cond_false (hR275.ev rfl) ?_
        refine wp_exit ?_
        refine x_then_e ?_
        refine x_then_e ?_
        refine x_block_eq ?_
        refine x_then_n (hK172 _ _ ?_)
        refine wp_seq_k (fun K276 hK277 => ?_)
        obtain ⟨J278, hJ279, hS280⟩ := hS194.agree
        refine d_region2 (S := (fun x => agr w192 J278 x ∧ cel g164 0 (.int .i64 ((fromQ k (meas 0 st) (((meas 0 st).length) - (many (nth t k))) j))) x ∧ cel g164 1 (.int .i64 ((deepQ (meas 0 st) (((meas 0 st).length) - (many (nth t k))) j))) x ∧ True)) (n := 7) mixed rfl hS280 (pan_then (pan_block (pan_then (pan_then (pan_block (pan_then pan_body)))))) (fun Q283 hP284 hN285 w281 hS282 => ?_)
        have hSw286 : agr w192 J278 w281 ∧ cel g164 0 (.int .i64 ((fromQ k (meas 0 st) (((meas 0 st).length) - (many (nth t k))) j))) w281 ∧ cel g164 1 (.int .i64 ((deepQ (meas 0 st) (((meas 0 st).length) - (many (nth t k))) j))) w281 ∧ True := ⟨⟨(hS282.get (i := 2) rfl).1, fun k hk => ((hS282.get (i := 2) rfl).2 k hk).2⟩, (box_cell (hS282.res (i := 3) rfl) rfl), (box_cell (hS282.res (i := 3) rfl) rfl), trivial⟩
        refine dt 0 rfl hP284 hR275 (want_n rfl) (fun x hx => r_move (sy hR275) hR275 rfl rfl rfl (by decide) gt) hSw286 (fun a287 hR288 => ?_)
        refine dt 1 rfl hP284 hR288 (want_n rfl) (fun x hx => r_move (sy hR288) hR288 rfl rfl rfl (by decide) gt) hSw286 (fun a289 hR290 => ?_)
        refine dt 2 rfl hP284 hR290 (want_n rfl) (fun x hx => m_sliceP (q := ((meas 0 st).length) - (many (nth t k))) (sy hR290) hR290 rfl rfl rfl rfl (by omega) Tryd.underlying87 sz121 (by omega) (by decide) gt) hSw286 (fun a293 hR294 => ?_)
        refine dt 3 rfl hP284 hR294 (want_n rfl) (fun x hx => m_loadCN (sy hR294) hR294 rfl rfl rfl (CellsAt.cons_ hx.2.1 (CellsAt.cons_ hx.2.2.1 (CellsAt.nil _ _))) Tryd.underlying121 rfl sz121 (by decide) gt) hSw286 (fun a295 hR296 => ?_)
        refine d_one (i := 4) (by kernel_rfl) ?_
        refine m_buildSlice (ps := [(0, .tmp 61)]) (cs := [.int .i64 ((fromQ k (meas 0 st) (((meas 0 st).length) - (many (nth t k))) j)), .int .i64 ((deepQ (meas 0 st) (((meas 0 st).length) - (many (nth t k))) j))]) (st_opV rfl (want_n rfl)) hR296 hS282 rfl rfl rfl Tryd.underlying87 zi121 rfl rfl (by kernel_rfl) rfl (by decide) (fun a297 w298 g299 hR300 hS301 => ?_)
        have hSw302 : agr w192 J278 w298 ∧ cel g164 0 (.int .i64 ((fromQ k (meas 0 st) (((meas 0 st).length) - (many (nth t k))) j))) w298 ∧ cel g164 1 (.int .i64 ((deepQ (meas 0 st) (((meas 0 st).length) - (many (nth t k))) j))) w298 ∧ True := ⟨⟨(hS301.get (i := 2) rfl).1, fun k hk => ((hS301.get (i := 2) rfl).2 k hk).2⟩, (box_cell (hS301.res (i := 3) rfl) rfl), (box_cell (hS301.res (i := 3) rfl) rfl), trivial⟩
        refine ⟨hSw302, ?_⟩
        refine d_one (i := 5) (by kernel_rfl) ?_
        refine m_appendC (f := encM) (i := 1) (meas 0 st) ([(((fromQ k (meas 0 st) (((meas 0 st).length) - (many (nth t k))) j)), ((deepQ (meas 0 st) (((meas 0 st).length) - (many (nth t k))) j)))]) (st_opV rfl (want_n rfl)) hR300 hS301 rfl rfl rfl rfl rfl (by omega) encM_len (encM_one _) Tryd.underlying87 zi121 rfl rfl (own_lnews (f := encM) (hS301.res (i := 4) rfl)) rfl (by first | omega | (simp only [List.length_cons, List.length_nil]; omega)) (by decide) (fun a303 w304 A305 c306 hc307 hR308 hS309 => ?_)
        have hl311 : ((meas 0 st).take (((meas 0 st).length) - (many (nth t k))) ++ ([(((fromQ k (meas 0 st) (((meas 0 st).length) - (many (nth t k))) j)), ((deepQ (meas 0 st) (((meas 0 st).length) - (many (nth t k))) j)))]) : List (Int × Int)).length = ((meas 0 st).length + 1) - (many (nth t k)) := by first | (simp only [List.length_append, List.length_take, List.length_cons, List.length_nil]; done) | (simp only [List.length_append, List.length_take, List.length_cons, List.length_nil]; omega)
        have hS312 := hS309.erase 4
        have hSw313 : agr w192 J278 w304 ∧ cel g164 0 (.int .i64 ((fromQ k (meas 0 st) (((meas 0 st).length) - (many (nth t k))) j))) w304 ∧ cel g164 1 (.int .i64 ((deepQ (meas 0 st) (((meas 0 st).length) - (many (nth t k))) j))) w304 ∧ True := ⟨⟨(hS312.get (i := 2) rfl).1, fun k hk => ((hS312.get (i := 2) rfl).2 k hk).2⟩, (box_cell (hS312.res (i := 3) rfl) rfl), (box_cell (hS312.res (i := 3) rfl) rfl), trivial⟩
        refine ⟨hSw313, ?_⟩
        refine dt 6 rfl hP284 hR308 (want_n rfl) (fun x hx => r_assign (sy hR308) hR308 rfl rfl rfl (by decide) gt) hSw313 (fun a314 hR315 => ?_)
        refine wpAnyH_done (by kernel_rfl) (hN285 _ _ ?_) _
        refine x_then_n (hK277 _ _ ?_)
        refine c_region ?_
        refine mv hR315 (fun a316 hR317 => ?_)
        refine m_loadN (i := 3) (vs := [.int .i64 ((fromQ k (meas 0 st) (((meas 0 st).length) - (many (nth t k))) j)), .int .i64 ((deepQ (meas 0 st) (((meas 0 st).length) - (many (nth t k))) j))]) sv hR317 hS312 rfl rfl rfl rfl rfl Tryd.underlying121 rfl sz121 (by decide) (fun a318 hR319 => ?_)
        refine m_buildSlice (ps := [(0, .tmp 65)]) (cs := [.int .i64 ((fromQ k (meas 0 st) (((meas 0 st).length) - (many (nth t k))) j)), .int .i64 ((deepQ (meas 0 st) (((meas 0 st).length) - (many (nth t k))) j))]) sv hR319 hS312 rfl rfl rfl Tryd.underlying87 zi121 rfl rfl (by kernel_rfl) rfl (by decide) (fun a320 w321 g322 hR323 hS324 => ?_)
        refine m_appendF (f := encM) (i := 0) (allTs 0 st) ([(((fromQ k (meas 0 st) (((meas 0 st).length) - (many (nth t k))) j)), ((deepQ (meas 0 st) (((meas 0 st).length) - (many (nth t k))) j)))]) sv hR323 hS324 rfl rfl rfl rfl rfl encM_len (encM_one _) Tryd.underlying87 zi121 rfl rfl (own_lnews (f := encM) (hS324.res (i := 4) rfl)) rfl (by first | omega | (simp only [List.length_cons, List.length_nil]; omega)) (by decide) (fun a325 w326 A327 c328 hc329 hR330 hS331 => ?_)
        have hl333 : ((allTs 0 st) ++ ([(((fromQ k (meas 0 st) (((meas 0 st).length) - (many (nth t k))) j)), ((deepQ (meas 0 st) (((meas 0 st).length) - (many (nth t k))) j)))]) : List (Int × Int)).length = (allTs 0 st).length + 1 := by first | (simp only [List.length_append, List.length_take, List.length_cons, List.length_nil]; done) | (simp only [List.length_append, List.length_take, List.length_cons, List.length_nil]; omega)
        have hS334 := hS331.erase 4
        refine asg hR330 (fun a335 hR336 => ?_)
        refine wpList_nil ?_
        refine x_block_n ?_
        refine x_then_n (hK43 _ _ ?_)
        refine c_region ?_
        refine r_add (z := ((k + 1 : Nat) : Int)) sv hR336 rfl rfl rfl rfl (by decide) (by omega) (by omega) (by omega) (fun a337 hR338 => ?_)
        refine mv hR338 (fun a339 hR340 => ?_)
        refine wpList_nil ?_
        obtain ⟨st', hp, hpl⟩ := push_some (st := st) (n := nth t k) (by assumption) (by omega)
        obtain ⟨hm1, hm2⟩ := push_meas hp hfl
        have hjq : j = many (nth t k) := by omega
        have he341 : (allTs 0 st) ++ ([(((fromQ k (meas 0 st) (((meas 0 st).length) - (many (nth t k))) j)), ((deepQ (meas 0 st) (((meas 0 st).length) - (many (nth t k))) j)))]) = allTs 0 st' := by rw [hm2, hjq]; try simp only [meas_length]
        have hR342 := hR340
        have hS343 := hS334
        rw [he341] at hR342 hS343
        have he344 : (meas 0 st).take (((meas 0 st).length) - (many (nth t k))) ++ ([(((fromQ k (meas 0 st) (((meas 0 st).length) - (many (nth t k))) j)), ((deepQ (meas 0 st) (((meas 0 st).length) - (many (nth t k))) j)))]) = meas 0 st' := by rw [hm1, hjq]; try simp only [meas_length]
        have hR345 := hR342
        have hS346 := hS343
        rw [he344] at hR345 hS346
        have hS347 := hS346.erase 3
        have hS348 := hS347.erase 2
        have hS349 := hS348.forget 2
        exact ⟨_, by omega, k + 1, st', A327, c328, A305, c306, (hR345.sub (rc rfl (rc rfl (rc rfl (rc rfl (rc rfl (rc rfl rnl))))))), hS349, by omega, (scan_step hsc (by omega)).trans hp, rfl⟩
  · skip
    have hR350 := hR37.setb (d := 15) (b := false) rfl (decide_eq_false h40)
    refine wp_cond_false (hR350.ev rfl) ?_
    refine wp_exit ?_
    refine x_then_e ?_
    refine x_then_e ?_
    refine x_block_eq ?_
    refine x_then_n (hK17 _ _ ?_)
    refine wp_seq_k (fun K351 hK352 => ?_)
    refine c_region ?_
    refine mv hR350 (fun a353 hR354 => ?_)
    refine mv hR354 (fun a355 hR356 => ?_)
    refine r_len sv hR356 rfl rfl rfl rfl Tryd.underlying87 (by decide) (fun a357 hR358 => ?_)
    refine r_eql sv hR358 rfl rfl rfl rfl (by decide) (fun a359 hR360 => ?_)
    refine asg hR360 (fun a361 hR362 => ?_)
    refine asg hR362 (fun a363 hR364 => ?_)
    refine wpList_nil (x_then_n (hK352 _ _ ?_))
    refine wp_ret ?_
    refine e_ret2 hR364 rfl rfl rfl rfl ?_
    have he365 : measL t = allTs 0 st := measL_end (by rw [← hsc, List.take_of_length_le (by omega)])
    rw [he365]
    have hc369 := own_cap (hS32.res (i := 0) rfl)
    obtain ⟨hS366, hrow367⟩ := hS32.row_data (i := 0) rfl (fun _ h => h)
    have hS368 := hS366.data (dRow 2 Aa ((allTs 0 st).length) ca (encMs (allTs 0 st))) ⟨hc369, hrow367⟩
    refine ⟨Aa, ca, ?_, hS368.fr, ⟨by have := (hS368.row (i := 2) rfl).1; exact this, ((hS368.row (i := 2) rfl).2.mono (fun _ hk => ⟨imm_nxt hk, rfl⟩))⟩⟩
    exact ret_t2 rfl (ret_b (by first | (rw [measB_end (by rw [← hsc, List.take_of_length_le (by omega)]), meas_length]; done) | (rw [measB_end (by rw [← hsc, List.take_of_length_le (by omega)]), meas_length]; simp [h40]; done)))

set_option maxRecDepth 100000 in
set_option maxHeartbeats 1000000 in
theorem look_calls (w0 : World) (Z : Nat → Prop) (hZ : ∀ k, Z k → k < w0.heap.size) (tA : Option Addr) (tc : Nat) (t : List Nd) (hShp : Shapes w0 Z) (ht : (dRow 4 tA t.length tc (encNs t)).φ w0 Z) (hsm : sml t) (hl : t.length ≤ 1000000) :
    Calls Tryd.prog 67 [.slice tA t.length tc].toArray w0 (fun e w' => ∃ (rA0 : Option Addr) (rc0 : Nat), e = .returned (.tuple #[.slice rA0 (lookL t).length rc0, .int .i64 (chk t)]) ∧ Fr none_ w0 w' ∧ (dRow 2 rA0 ((lookL t).length) rc0 (encMs (lookL t))).φ w' (nxt Z w0 w')) := by
  have hstart : ∀ k, Z k → imm Z w0 [] w0 k ∧ w0.heap[k]? = w0.heap[k]? := fun k hk => ⟨⟨hZ k hk, fun _ => hk, fun _ h => by cases h⟩, rfl⟩
  have hS3 : St w0 Z none_ w0 [] [dShapes, dRow 4 tA t.length tc (encNs t)] := St.start w0 Z none_ _ (by
    intro d hd
    simp only [List.mem_cons, List.not_mem_nil, or_false] at hd
    rcases hd with rfl | rfl
    · exact Dat.mono _ _ _ _ _ (Nat.le_refl _) hShp hstart
    · exact Dat.mono _ _ _ _ _ (Nat.le_refl _) ht hstart
    )
  refine c_enter Tryd.func67 rfl Tryd.ntmps67 rfl (fun a1 hR2 => ?_)
  refine wp_seq_k (fun K4 hK5 => ?_)
  refine c_region ?_
  refine asg hR2 (fun a6 hR7 => ?_)
  refine asg hR7 (fun a8 hR9 => ?_)
  refine wpList_nil (x_then_n (hK5 _ _ ?_))
  refine wp_seq_k (fun K10 hK11 => ?_)
  refine wp_seq_k (fun K12 hK13 => ?_)
  refine c_region ?_
  refine mv hR9 (fun a14 hR15 => ?_)
  refine r_len sv hR15 rfl rfl rfl rfl Tryd.underlying22 (by decide) (fun a16 hR17 => ?_)
  refine r_gtr sv hR17 rfl rfl rfl rfl (by decide) (fun a18 hR19 => ?_)
  refine wpList_nil (x_then_n (hK13 _ _ ?_))
  rcases Decidable.em (4000 < ((t.length : Nat) : Int)) with h20 | h20
  · skip
    have hR21 := hR19.setb (d := 8) (b := true) rfl (decide_eq_true h20)
    refine wp_cond_true (hR21.ev rfl) ?_
    refine wp_seq_k (fun K22 hK23 => ?_)
    refine c_region ?_
    refine asg hR21 (fun a24 hR25 => ?_)
    refine asg hR25 (fun a26 hR27 => ?_)
    refine wpList_nil (x_then_n (hK23 _ _ ?_))
    refine wp_ret ?_
    refine x_then_r ?_
    refine e_ret2 hR27 rfl rfl rfl rfl ?_
    have he28 : lookL t = [] := lookL_bad (by first | rw [chk_size (by omega)]; omega | (rw [chk_form (by omega) (by assumption)]; omega) | (rw [chk_deep (by omega) (by assumption) (by assumption)]; omega))
    rw [he28]
    refine ⟨none, 0, ?_, hS3.fr, ⟨Nat.le_refl _, RowI.nil _ _ _ _⟩⟩
    exact ret_t2 rfl (ret_i (by first | exact (chk_size (by omega)).symm))
  · skip
    have hR29 := hR19.setb (d := 8) (b := false) rfl (decide_eq_false h20)
    refine wp_cond_false (hR29.ev rfl) ?_
    refine wp_skip ?_
    refine x_then_n (hK11 _ _ ?_)
    refine wp_seq_k (fun K30 hK31 => ?_)
    refine c_region ?_
    refine mv hR29 (fun a32 hR33 => ?_)
    have hS34 : St w0 Z none_ w0 [] [dShapes, dRow 4 tA t.length tc (encNs t)] := hS3
    refine k_call (xs := [.tmp 10]) se hR33 rfl rfl rfl (by decide) ok106 (measured_calls _ (imm Z w0 [] _) (fun _ h => h.1) tA tc t (hS34.get (i := 0) rfl) (hS34.get (i := 1) rfl) (by first | assumption | omega | (simp; done) | (simp; omega)) (by first | assumption | omega | (simp; done) | (simp; omega))) ?_
    rintro e44 w36 ⟨A40, c41, rfl, hf39, hd42⟩
    have hS45 := hS34.below hf39.below
    have hS46 := hS45.data (dRow 2 A40 ((measL t).length) c41 (encMs (measL t))) ⟨hd42.1, hd42.2.mono (fun _ hk => ⟨nxt_imm hS34 hk, rfl⟩)⟩
    refine ⟨_, rfl, fun a35 hR37 => ?_⟩
    refine mv hR37 (fun a47 hR48 => ?_)
    refine r_extract sv hR48 rfl rfl rfl rfl (by decide) (fun a49 hR50 => ?_)
    refine r_extract sv hR50 rfl rfl rfl rfl (by decide) (fun a51 hR52 => ?_)
    refine asg hR52 (fun a53 hR54 => ?_)
    refine asg hR54 (fun a55 hR56 => ?_)
    refine wpList_nil (x_then_n (hK31 _ _ ?_))
    refine wp_seq_k (fun K57 hK58 => ?_)
    refine wp_block ?_
    refine wp_seq_k (fun K59 hK60 => ?_)
    refine c_region ?_
    refine mv hR56 (fun a61 hR62 => ?_)
    refine r_not sv hR62 rfl rfl rfl (by decide) (fun a63 hR64 => ?_)
    refine asg hR64 (fun a65 hR66 => ?_)
    refine wpList_nil (x_then_n (hK60 _ _ ?_))
    rcases Bool.eq_false_or_eq_true (measB t) with h67 | h67
    · skip
      have hpos := measL_pos h67
      have hml := measL_length h67
      have hR68 := hR66.setb (d := 14) (b := false) rfl (by rw [h67]; rfl)
      refine wp_cond_false (hR68.ev rfl) ?_
      refine wp_seq_k (fun K69 hK70 => ?_)
      refine c_region ?_
      refine mv hR68 (fun a71 hR72 => ?_)
      refine mv hR72 (fun a73 hR74 => ?_)
      refine r_len sv hR74 rfl rfl rfl rfl Tryd.underlying87 (by decide) (fun a75 hR76 => ?_)
      refine r_sub (z := ((((measL t).length : Nat) : Int) - 1)) sv hR76 rfl rfl rfl rfl (by decide) (by omega) (by omega) (by omega) (fun a77 hR78 => ?_)
      refine m_index (i := ((measL t).length) - (1)) (j := (((measL t).length) - (1)) * 2) sv hR78 rfl rfl rfl rfl Tryd.underlying87 sz121 (by omega) (by omega) (ms_elem (t := measL t) (k := ((measL t).length) - (1)) (hS46.row (i := 2) rfl).2 (by omega)).some_ rfl (by decide) (fun a79 hR80 => ?_)
      refine m_fieldE (j' := (((measL t).length) - (1)) * 2 + 1) sv hR80 rfl rfl rfl (ms_elem (t := measL t) (k := ((measL t).length) - (1)) (hS46.row (i := 2) rfl).2 (by omega)).some_ Tryd.underlying121 rfl sz3 rfl rfl (by decide) (fun a81 hR82 => ?_)
      refine m_loadE sv hR82 rfl rfl rfl 1 ((((measL t).length) - (1)) * 2) (ms_elem (t := measL t) (k := ((measL t).length) - (1)) (hS46.row (i := 2) rfl).2 (by omega)) rfl rfl Tryd.underlying3 rfl (by decide) (fun a83 hR84 => ?_)
      refine r_gtr sv hR84 rfl rfl rfl rfl (by decide) (fun a85 hR86 => ?_)
      refine asg hR86 (fun a87 hR88 => ?_)
      refine wpList_nil (x_then_n (hK70 _ _ ?_))
      rcases Decidable.em (60 < (((nthM (measL t) (((measL t).length) - (1))).2))) with h89 | h89
      · skip
        have hR90 := hR88.setb (d := 17) (b := true) rfl (decide_eq_true h89)
        refine wp_cond_true (hR90.ev rfl) ?_
        refine wp_seq_k (fun K91 hK92 => ?_)
        refine c_region ?_
        refine asg hR90 (fun a93 hR94 => ?_)
        refine asg hR94 (fun a95 hR96 => ?_)
        refine wpList_nil (x_then_n (hK92 _ _ ?_))
        refine wp_ret ?_
        refine x_block_r ?_
        refine x_then_r ?_
        refine e_ret2 hR96 rfl rfl rfl rfl ?_
        have he97 : lookL t = [] := lookL_bad (by first | rw [chk_size (by omega)]; omega | (rw [chk_form (by omega) (by assumption)]; omega) | (rw [chk_deep (by omega) (by assumption) (by assumption)]; omega))
        rw [he97]
        refine ⟨none, 0, ?_, hS46.fr, ⟨Nat.le_refl _, RowI.nil _ _ _ _⟩⟩
        exact ret_t2 rfl (ret_i (by first | exact (chk_deep (by omega) (by assumption) (by assumption)).symm))
      · skip
        have hR98 := hR88.setb (d := 17) (b := false) rfl (decide_eq_false h89)
        refine wp_cond_false (hR98.ev rfl) ?_
        refine wp_skip ?_
        refine x_block_n ?_
        refine x_then_n (hK58 _ _ ?_)
        refine wp_seq_k (fun K99 hK100 => ?_)
        refine c_region ?_
        refine mv hR98 (fun a101 hR102 => ?_)
        refine asg hR102 (fun a103 hR104 => ?_)
        refine asg hR104 (fun a105 hR106 => ?_)
        refine wpList_nil (x_then_n (hK100 _ _ ?_))
        refine wp_ret ?_
        refine e_ret2 hR106 rfl rfl rfl rfl ?_
        have he107 : lookL t = measL t := lookL_good (chk_good (by omega) (by assumption) (by assumption))
        rw [he107]
        refine ⟨A40, c41, ?_, hS46.fr, ⟨by have := (hS46.row (i := 2) rfl).1; exact this, ((hS46.row (i := 2) rfl).2.mono (fun _ hk => ⟨imm_nxt hk, rfl⟩))⟩⟩
        exact ret_t2 rfl (ret_i (by first | exact (chk_good (by omega) (by assumption) (by assumption)).symm))
    · skip
      have hR108 := hR66.setb (d := 14) (b := true) rfl (by rw [h67]; rfl)
      refine wp_cond_true (hR108.ev rfl) ?_
      refine wp_seq_k (fun K109 hK110 => ?_)
      refine c_region ?_
      refine asg hR108 (fun a111 hR112 => ?_)
      refine asg hR112 (fun a113 hR114 => ?_)
      refine wpList_nil (x_then_n (hK110 _ _ ?_))
      refine wp_ret ?_
      refine x_block_r ?_
      refine x_then_r ?_
      refine e_ret2 hR114 rfl rfl rfl rfl ?_
      have he115 : lookL t = [] := lookL_bad (by first | rw [chk_size (by omega)]; omega | (rw [chk_form (by omega) (by assumption)]; omega) | (rw [chk_deep (by omega) (by assumption) (by assumption)]; omega))
      rw [he115]
      refine ⟨none, 0, ?_, hS46.fr, ⟨Nat.le_refl _, RowI.nil _ _ _ _⟩⟩
      exact ret_t2 rfl (ret_i (by first | exact (chk_form (by omega) (by assumption)).symm))

set_option maxRecDepth 100000 in
set_option maxHeartbeats 1000000 in
theorem check_calls (w0 : World) (Z : Nat → Prop) (hZ : ∀ k, Z k → k < w0.heap.size) (tA : Option Addr) (tc : Nat) (t : List Nd) (hShp : Shapes w0 Z) (ht : (dRow 4 tA t.length tc (encNs t)).φ w0 Z) (hsm : sml t) (hl : t.length ≤ 1000000) :
    Calls Tryd.prog 44 [.slice tA t.length tc].toArray w0 (fun e w' => e = .returned (.int .i64 (chk t)) ∧ Fr none_ w0 w') := by
  have hstart : ∀ k, Z k → imm Z w0 [] w0 k ∧ w0.heap[k]? = w0.heap[k]? := fun k hk => ⟨⟨hZ k hk, fun _ => hk, fun _ h => by cases h⟩, rfl⟩
  have hS3 : St w0 Z none_ w0 [] [dShapes, dRow 4 tA t.length tc (encNs t)] := St.start w0 Z none_ _ (by
    intro d hd
    simp only [List.mem_cons, List.not_mem_nil, or_false] at hd
    rcases hd with rfl | rfl
    · exact Dat.mono _ _ _ _ _ (Nat.le_refl _) hShp hstart
    · exact Dat.mono _ _ _ _ _ (Nat.le_refl _) ht hstart
    )
  refine c_enter Tryd.func44 rfl Tryd.ntmps44 rfl (fun a1 hR2 => ?_)
  refine wp_seq_k (fun K4 hK5 => ?_)
  refine c_region ?_
  refine asg hR2 (fun a6 hR7 => ?_)
  refine wpList_nil (x_then_n (hK5 _ _ ?_))
  refine wp_seq_k (fun K8 hK9 => ?_)
  refine c_region ?_
  refine mv hR7 (fun a10 hR11 => ?_)
  have hS12 : St w0 Z none_ w0 [] [dShapes, dRow 4 tA t.length tc (encNs t)] := hS3
  refine k_call (xs := [.tmp 6]) se hR11 rfl rfl rfl (by decide) ok67 (look_calls _ (imm Z w0 [] _) (fun _ h => h.1) tA tc t (hS12.get (i := 0) rfl) (hS12.get (i := 1) rfl) (by first | assumption | omega | (simp; done) | (simp; omega)) (by first | assumption | omega | (simp; done) | (simp; omega))) ?_
  rintro e22 w14 ⟨A18, c19, rfl, hf17, hd20⟩
  have hS23 := hS12.below hf17.below
  have hS24 := hS23.data (dRow 2 A18 ((lookL t).length) c19 (encMs (lookL t))) ⟨hd20.1, hd20.2.mono (fun _ hk => ⟨nxt_imm hS12 hk, rfl⟩)⟩
  refine ⟨_, rfl, fun a13 hR15 => ?_⟩
  refine mv hR15 (fun a25 hR26 => ?_)
  refine r_extract sv hR26 rfl rfl rfl rfl (by decide) (fun a27 hR28 => ?_)
  refine r_extract sv hR28 rfl rfl rfl rfl (by decide) (fun a29 hR30 => ?_)
  refine asg hR30 (fun a31 hR32 => ?_)
  refine asg hR32 (fun a33 hR34 => ?_)
  refine wpList_nil (x_then_n (hK9 _ _ ?_))
  refine wp_seq_k (fun K35 hK36 => ?_)
  refine c_region ?_
  refine mv hR34 (fun a37 hR38 => ?_)
  refine asg hR38 (fun a39 hR40 => ?_)
  refine wpList_nil (x_then_n (hK36 _ _ ?_))
  refine wp_ret ?_
  refine e_ret1 hR40 rfl rfl rfl ?_
  refine ⟨?_, hS24.fr⟩
  exact congrArg Ending.returned (ret_i (by first | rfl | omega | assumption | exact decide_eq_true (by assumption) | ( omega) | (simp []; done) | (simp [] at *; done) | (simp [] <;> omega) | (rw [Bool.eq_iff_iff]; simp [] <;> omega) | (rw [Bool.eq_iff_iff]; simp [] at * <;> omega)))
end Go.Proofs.YtobgdeffhdefeaaDoor
/- Contracts of functions, one theorem each: what the call returns, and that nothing old is changed. Printed by gen.py. -/
namespace Go.Proofs.YtobgdeffhdefeaaDoor
open Go Go.RowKit
set_option linter.unusedSimpArgs false
set_option linter.unusedVariables false

set_option maxRecDepth 100000 in
set_option maxHeartbeats 1000000 in
theorem cloneI_calls (w0 : World) (Z : Nat → Prop) (hZ : ∀ k, Z k → k < w0.heap.size) (tA : Option Addr) (tc : Nat) (t : List Int) (ht : (dRow 1 tA t.length tc (encIs t)).φ w0 Z) (hl : t.length ≤ 1000000) :
    Calls Tryd.prog 113 [.slice tA t.length tc].toArray w0 (fun e w' => ∃ (rA0 : Option Addr) (rc0 : Nat), e = .returned (.slice rA0 (t).length rc0) ∧ Fr none_ w0 w' ∧ (dRow 1 rA0 ((t).length) rc0 (encIs t)).φ w' (nxt Z w0 w')) := by
  have hstart : ∀ k, Z k → imm Z w0 [] w0 k ∧ w0.heap[k]? = w0.heap[k]? := fun k hk => ⟨⟨hZ k hk, fun _ => hk, fun _ h => by cases h⟩, rfl⟩
  have hS3 : St w0 Z none_ w0 [] [dRow 1 tA t.length tc (encIs t)] := St.start w0 Z none_ _ (by
    intro d hd
    simp only [List.mem_cons, List.not_mem_nil, or_false] at hd
    rcases hd with rfl
    · exact Dat.mono _ _ _ _ _ (Nat.le_refl _) ht hstart
    )
  refine c_enter Tryd.func113 rfl Tryd.ntmps113 rfl (fun a1 hR2 => ?_)
  refine wp_seq_k (fun K4 hK5 => ?_)
  refine c_region ?_
  refine asg hR2 (fun a6 hR7 => ?_)
  refine wpList_nil (x_then_n (hK5 _ _ ?_))
  refine wp_seq_k (fun K8 hK9 => ?_)
  refine wp_seq_k (fun K10 hK11 => ?_)
  refine c_region ?_
  refine mv hR7 (fun a12 hR13 => ?_)
  refine r_eqlNil sv hR13 rfl rfl rfl rfl Tryd.underlying66 (by decide) (fun a14 hR15 => ?_)
  refine wpList_nil (x_then_n (hK11 _ _ ?_))
  rcases Bool.eq_false_or_eq_true (Option.isNone tA) with h16 | h16
  · skip
    have hR17 := hR15.setb (d := 4) (b := true) rfl h16
    refine wp_cond_true (hR17.ev rfl) ?_
    refine wp_seq_k (fun K18 hK19 => ?_)
    refine c_region ?_
    refine asg hR17 (fun a20 hR21 => ?_)
    refine wpList_nil (x_then_n (hK19 _ _ ?_))
    refine wp_ret ?_
    refine x_then_r ?_
    refine e_ret1 hR21 rfl rfl rfl ?_
    have he22 : t = [] := List.eq_nil_of_length_eq_zero (nil_len ht (by assumption))
    rw [he22]
    refine ⟨none, 0, ?_, hS3.fr, ⟨Nat.le_refl _, RowI.nil _ _ _ _⟩⟩
    exact congrArg Ending.returned rfl
  · skip
    have hR23 := hR15.setb (d := 4) (b := false) rfl h16
    refine wp_cond_false (hR23.ev rfl) ?_
    refine wp_skip ?_
    refine x_then_n (hK9 _ _ ?_)
    refine wp_seq_k (fun K24 hK25 => ?_)
    refine c_region ?_
    refine m_buildSlice (ps := []) (cs := []) sv hR23 hS3 rfl rfl rfl Tryd.underlying66 zi3 rfl rfl (by kernel_rfl) rfl (by decide) (fun a26 w27 g28 hR29 hS30 => ?_)
    refine mv hR29 (fun a31 hR32 => ?_)
    refine m_appendF (f := encI) (i := 0) ([]) (t) sv hR32 hS30 rfl rfl rfl rfl rfl encI_len (encI_one _) Tryd.underlying66 zi3 rfl rfl (hS30.row (i := 0) rfl).2.news rfl (by first | omega | (simp only [List.length_cons, List.length_nil]; omega)) (by decide) (fun a33 w34 A35 c36 hc37 hR38 hS39 => ?_)
    have hl41 : (([]) ++ t : List Int).length = t.length := by first | (simp only [List.length_append, List.length_take, List.length_cons, List.length_nil]; done) | (simp only [List.length_append, List.length_take, List.length_cons, List.length_nil]; omega)
    refine asg hR38 (fun a42 hR43 => ?_)
    refine wpList_nil (x_then_n (hK25 _ _ ?_))
    refine wp_ret ?_
    refine e_ret1 hR43 rfl rfl rfl ?_
    have he44 : t = ([]) ++ t := by simp
    rw [he44]
    have hc48 := own_cap (hS39.res (i := 0) rfl)
    obtain ⟨hS45, hrow46⟩ := hS39.row_data (i := 0) rfl (fun _ h => h)
    have hS47 := hS45.data (dRow 1 A35 ((([]) ++ t : List Int).length) c36 (encIs (([]) ++ t))) ⟨hc48, hrow46⟩
    refine ⟨A35, c36, ?_, hS47.fr, ⟨by have := (hS47.row (i := 1) rfl).1; exact this, ((hS47.row (i := 1) rfl).2.mono (fun _ hk => ⟨imm_nxt hk, rfl⟩))⟩⟩
    exact congrArg Ending.returned rfl

set_option maxRecDepth 100000 in
set_option maxHeartbeats 1000000 in
theorem cloneN_calls (w0 : World) (Z : Nat → Prop) (hZ : ∀ k, Z k → k < w0.heap.size) (tA : Option Addr) (tc : Nat) (t : List Nd) (ht : (dRow 4 tA t.length tc (encNs t)).φ w0 Z) (hl : t.length ≤ 1000000) :
    Calls Tryd.prog 51 [.slice tA t.length tc].toArray w0 (fun e w' => ∃ (rA0 : Option Addr) (rc0 : Nat), e = .returned (.slice rA0 (t).length rc0) ∧ Fr none_ w0 w' ∧ (Res.row rA0 (t).length rc0 32 4 (encNs t)).holds w' ∧ (∀ k, (Res.row rA0 (t).length rc0 32 4 (encNs t)).blk = some k → w0.heap.size ≤ k)) := by
  have hstart : ∀ k, Z k → imm Z w0 [] w0 k ∧ w0.heap[k]? = w0.heap[k]? := fun k hk => ⟨⟨hZ k hk, fun _ => hk, fun _ h => by cases h⟩, rfl⟩
  have hS3 : St w0 Z none_ w0 [] [dRow 4 tA t.length tc (encNs t)] := St.start w0 Z none_ _ (by
    intro d hd
    simp only [List.mem_cons, List.not_mem_nil, or_false] at hd
    rcases hd with rfl
    · exact Dat.mono _ _ _ _ _ (Nat.le_refl _) ht hstart
    )
  refine c_enter Tryd.func51 rfl Tryd.ntmps51 rfl (fun a1 hR2 => ?_)
  refine wp_seq_k (fun K4 hK5 => ?_)
  refine c_region ?_
  refine asg hR2 (fun a6 hR7 => ?_)
  refine wpList_nil (x_then_n (hK5 _ _ ?_))
  refine wp_seq_k (fun K8 hK9 => ?_)
  refine wp_seq_k (fun K10 hK11 => ?_)
  refine c_region ?_
  refine mv hR7 (fun a12 hR13 => ?_)
  refine r_eqlNil sv hR13 rfl rfl rfl rfl Tryd.underlying22 (by decide) (fun a14 hR15 => ?_)
  refine wpList_nil (x_then_n (hK11 _ _ ?_))
  rcases Bool.eq_false_or_eq_true (Option.isNone tA) with h16 | h16
  · skip
    have hR17 := hR15.setb (d := 4) (b := true) rfl h16
    refine wp_cond_true (hR17.ev rfl) ?_
    refine wp_seq_k (fun K18 hK19 => ?_)
    refine c_region ?_
    refine asg hR17 (fun a20 hR21 => ?_)
    refine wpList_nil (x_then_n (hK19 _ _ ?_))
    refine wp_ret ?_
    refine x_then_r ?_
    refine e_ret1 hR21 rfl rfl rfl ?_
    have he22 : t = [] := List.eq_nil_of_length_eq_zero (nil_len ht (by assumption))
    rw [he22]
    refine ⟨none, 0, ?_, hS3.fr, nil_row1, nil_row2⟩
    exact congrArg Ending.returned rfl
  · skip
    have hR23 := hR15.setb (d := 4) (b := false) rfl h16
    refine wp_cond_false (hR23.ev rfl) ?_
    refine wp_skip ?_
    refine x_then_n (hK9 _ _ ?_)
    refine wp_seq_k (fun K24 hK25 => ?_)
    refine c_region ?_
    refine m_buildSlice (ps := []) (cs := []) sv hR23 hS3 rfl rfl rfl Tryd.underlying22 zi32 rfl rfl (by kernel_rfl) rfl (by decide) (fun a26 w27 g28 hR29 hS30 => ?_)
    refine mv hR29 (fun a31 hR32 => ?_)
    refine m_appendF (f := encN) (i := 0) ([]) (t) sv hR32 hS30 rfl rfl rfl rfl rfl encN_len (encN_one _) Tryd.underlying22 zi32 rfl rfl (hS30.row (i := 0) rfl).2.news rfl (by first | omega | (simp only [List.length_cons, List.length_nil]; omega)) (by decide) (fun a33 w34 A35 c36 hc37 hR38 hS39 => ?_)
    have hl41 : (([]) ++ t : List Nd).length = t.length := by first | (simp only [List.length_append, List.length_take, List.length_cons, List.length_nil]; done) | (simp only [List.length_append, List.length_take, List.length_cons, List.length_nil]; omega)
    refine asg hR38 (fun a42 hR43 => ?_)
    refine wpList_nil (x_then_n (hK25 _ _ ?_))
    refine wp_ret ?_
    refine e_ret1 hR43 rfl rfl rfl ?_
    have he44 : t = ([]) ++ t := by simp
    rw [he44]
    refine ⟨A35, c36, ?_, hS39.fr, (hS39.res (i := 0) rfl), (hS39.fresh (i := 0) rfl)⟩
    exact congrArg Ending.returned rfl
end Go.Proofs.YtobgdeffhdefeaaDoor
/- Contracts of functions, one theorem each: what the call returns, and that nothing old is changed. Printed by gen.py. -/
namespace Go.Proofs.YtobgdeffhdefeaaDoor
open Go Go.RowKit
set_option linter.unusedSimpArgs false
set_option linter.unusedVariables false

set_option maxRecDepth 100000 in
set_option maxHeartbeats 1000000 in
theorem binds_calls (w0 : World) (Z : Nat → Prop) (hZ : ∀ k, Z k → k < w0.heap.size) (n : Nd) (hShp : Shapes w0 Z) (hs : n.S.size < 1000000) :
    Calls Tryd.prog 71 [.agg #[.int .i64 (n.K), .int .i64 (n.N), .int .i64 (n.M), .string n.S]].toArray w0 (fun e w' => ∃ (rA0 : Option Addr) (rc0 : Nat), e = .returned (.tuple #[.slice rA0 (bindsR n).length rc0, .bool (right n)]) ∧ Fr none_ w0 w' ∧ (dRow 1 rA0 ((bindsR n).length) rc0 (encIs (bindsR n))).φ w' (nxt Z w0 w')) := by
  have hstart : ∀ k, Z k → imm Z w0 [] w0 k ∧ w0.heap[k]? = w0.heap[k]? := fun k hk => ⟨⟨hZ k hk, fun _ => hk, fun _ h => by cases h⟩, rfl⟩
  have hS3 : St w0 Z none_ w0 [] [dShapes] := St.start w0 Z none_ _ (by
    intro d hd
    simp only [List.mem_cons, List.not_mem_nil, or_false] at hd
    rcases hd with rfl
    · exact Dat.mono _ _ _ _ _ (Nat.le_refl _) hShp hstart
    )
  refine c_enter Tryd.func71 rfl Tryd.ntmps71 rfl (fun a1 hR2 => ?_)
  refine wp_seq_k (fun K4 hK5 => ?_)
  refine c_region ?_
  refine m_box (cs := [.int .i64 (n.K), .int .i64 (n.N), .int .i64 (n.M), .string n.S]) sv hR2 hS3 rfl rfl rfl rfl (by decide) (fun a6 w7 g8 hR9 hS10 => ?_)
  refine asg hR9 (fun a11 hR12 => ?_)
  refine asg hR12 (fun a13 hR14 => ?_)
  refine wpList_nil (x_then_n (hK5 _ _ ?_))
  refine wp_seq_k (fun K15 hK16 => ?_)
  refine wp_seq_k (fun K17 hK18 => ?_)
  refine c_region ?_
  refine m_loadN (i := 0) (vs := [.int .i64 (n.K), .int .i64 (n.N), .int .i64 (n.M), .string n.S]) sv hR14 hS10 rfl rfl rfl rfl rfl Tryd.underlying32 rfl sz32 (by decide) (fun a19 hR20 => ?_)
  have hS21 : St w0 Z none_ w7 [.box g8 32 [.int .i64 (n.K), .int .i64 (n.N), .int .i64 (n.M), .string n.S]] [dShapes] := hS10
  refine k_call (xs := [.tmp 4]) se hR20 rfl rfl rfl (by decide) ok112 (right_calls _ (imm Z w0 [.box g8 32 [.int .i64 (n.K), .int .i64 (n.N), .int .i64 (n.M), .string n.S]] _) (fun _ h => h.1) n (hS21.get (i := 0) rfl) (by first | assumption | omega | (simp; done) | (simp; omega))) ?_
  rintro e28 w23 ⟨rfl, hf26⟩
  have hS29 := hS21.below hf26.below
  refine ⟨_, rfl, fun a22 hR24 => ?_⟩
  refine r_not sv hR24 rfl rfl rfl (by decide) (fun a30 hR31 => ?_)
  refine wpList_nil (x_then_n (hK18 _ _ ?_))
  rcases Bool.eq_false_or_eq_true (right n) with h32 | h32
  · skip
    have hk := right_K h32
    have hR33 := hR31.setb (d := 6) (b := false) rfl (by rw [h32]; rfl)
    refine wp_cond_false (hR33.ev rfl) ?_
    refine wp_skip ?_
    refine x_then_n (hK16 _ _ ?_)
    refine wp_seq_k (fun K34 hK35 => ?_)
    refine wp_seq_k (fun K36 hK37 => ?_)
    refine c_region ?_
    refine m_field (j' := 0) sv hR33 rfl rfl rfl Tryd.underlying32 rfl sz3 rfl rfl (by decide) (fun a38 hR39 => ?_)
    refine m_load (i := 0) sv hR39 hS29 rfl rfl rfl rfl rfl Tryd.underlying3 rfl (by decide) (fun a40 hR41 => ?_)
    refine wpList_nil (x_then_n (hK37 _ _ ?_))
    refine wp_block ?_
    refine wp_seq_k (fun K42 hK43 => ?_)
    refine c_region ?_
    refine r_eql sv hR41 rfl rfl rfl rfl (by decide) (fun a44 hR45 => ?_)
    refine asg hR45 (fun a46 hR47 => ?_)
    refine wpList_nil (x_then_n (hK43 _ _ ?_))
    rcases Decidable.em ((n.K) = 26) with h48 | h48
    · skip
      have hcn := right_con (by assumption) (by omega)
      have hR49 := hR47.setb (d := 9) (b := true) rfl (decide_eq_true h48)
      refine wp_cond_true (hR49.ev rfl) ?_
      refine wp_seq_k (fun K50 hK51 => ?_)
      refine c_region ?_
      refine m_field (j' := 2) sv hR49 rfl rfl rfl Tryd.underlying32 rfl sz3 rfl rfl (by decide) (fun a52 hR53 => ?_)
      refine m_load (i := 0) sv hR53 hS29 rfl rfl rfl rfl rfl Tryd.underlying3 rfl (by decide) (fun a54 hR55 => ?_)
      have hn56 : (n.M) = ((n.M.toNat : Nat) : Int) := by omega
      refine m_makeInts (n := n.M.toNat) sv hR55 hS29 rfl rfl rfl rfl hn56 hn56 Tryd.underlying66 zi3 (by omega) (by decide) (fun a57 w58 g59 hR60 hS61 => ?_)
      have hl62 : (List.replicate (n.M.toNat) (0 : Int)).length = n.M.toNat := by simp
      refine asg hR60 (fun a63 hR64 => ?_)
      refine asg hR64 (fun a65 hR66 => ?_)
      refine wpList_nil (x_then_n (hK51 _ _ ?_))
      refine wp_ret ?_
      refine x_block_r ?_
      refine x_then_r ?_
      refine e_ret2 hR66 rfl rfl rfl rfl ?_
      have he67 : bindsR n = List.replicate (n.M.toNat) (0 : Int) := by unfold bindsR; rw [if_pos (by assumption)]; simp [binds, h48]
      rw [he67]
      have hc71 := own_cap (hS61.res (i := 1) rfl)
      obtain ⟨hS68, hrow69⟩ := hS61.row_data (i := 1) rfl (fun _ h => h)
      have hS70 := hS68.data (dRow 1 (some ⟨g59, 0, none⟩) ((List.replicate (n.M.toNat) (0 : Int) : List Int).length) ((List.replicate (n.M.toNat) (0 : Int) : List Int).length) (encIs (List.replicate (n.M.toNat) (0 : Int)))) ⟨hc71, hrow69⟩
      refine ⟨(some ⟨g59, 0, none⟩), ((List.replicate (n.M.toNat) (0 : Int) : List Int).length), ?_, hS70.fr, ⟨by have := (hS70.row (i := 1) rfl).1; exact this, ((hS70.row (i := 1) rfl).2.mono (fun _ hk => ⟨imm_nxt hk, rfl⟩))⟩⟩
      exact ret_t2 rfl (ret_b (by first | rfl | omega | assumption | exact decide_eq_true (by assumption) | (have q0 := h32; (try simp at q0); have q1 := h48; (try simp at q1);  omega) | (simp [h32, h48]; done) | (simp [] at *; done) | (simp [h32, h48] <;> omega) | (rw [Bool.eq_iff_iff]; simp [h32, h48] <;> omega) | (rw [Bool.eq_iff_iff]; simp [h32, h48] at * <;> omega)))
    · skip
      have hR72 := hR47.setb (d := 9) (b := false) rfl (decide_eq_false h48)
      refine wp_cond_false (hR72.ev rfl) ?_
      refine wp_seq_k (fun K73 hK74 => ?_)
      refine c_region ?_
      refine r_eql sv hR72 rfl rfl rfl rfl (by decide) (fun a75 hR76 => ?_)
      refine asg hR76 (fun a77 hR78 => ?_)
      refine wpList_nil (x_then_n (hK74 _ _ ?_))
      rcases Decidable.em ((n.K) = 27) with h79 | h79
      · skip
        have hel := right_elim (by assumption) (by omega)
        have hR80 := hR78.setb (d := 14) (b := true) rfl (decide_eq_true h79)
        refine wp_cond_true (hR80.ev rfl) ?_
        refine wp_seq_k (fun K81 hK82 => ?_)
        refine c_region ?_
        refine m_buildSlice (ps := [(0, .const (.int .i64 1))]) (cs := [.int .i64 1]) sv hR80 hS29 rfl rfl rfl Tryd.underlying66 zi3 rfl rfl (by kernel_rfl) rfl (by decide) (fun a83 w84 g85 hR86 hS87 => ?_)
        refine m_field (j' := 2) sv hR86 rfl rfl rfl Tryd.underlying32 rfl sz3 rfl rfl (by decide) (fun a88 hR89 => ?_)
        refine m_load (i := 0) sv hR89 hS87 rfl rfl rfl rfl rfl Tryd.underlying3 rfl (by decide) (fun a90 hR91 => ?_)
        refine r_add (z := (n.M + 1)) sv hR91 rfl rfl rfl rfl (by decide) (by omega) (by omega) (by omega) (fun a92 hR93 => ?_)
        have hn94 : (n.M + 1) = ((n.M.toNat + 1 : Nat) : Int) := by omega
        refine m_appendZ (i := 1) ([1]) (n.M.toNat + 1) sv hR93 hS87 rfl rfl rfl rfl rfl hn94 (by omega) (by simp) (by simp; omega) Tryd.underlying66 Tryd.underlying3 zi3 (by decide) (fun a95 w96 A97 c98 hc99 hR100 hS101 => ?_)
        refine asg hR100 (fun a102 hR103 => ?_)
        refine asg hR103 (fun a104 hR105 => ?_)
        refine wpList_nil (x_then_n (hK82 _ _ ?_))
        refine wp_ret ?_
        refine x_block_r ?_
        refine x_then_r ?_
        refine e_ret2 hR105 rfl rfl rfl rfl ?_
        have he106 : bindsR n = ([1]) ++ List.replicate (n.M.toNat + 1) 0 := by unfold bindsR; rw [if_pos (by assumption)]; simp [binds, h48, h79]
        rw [he106]
        have hc110 := own_cap (hS101.res (i := 1) rfl)
        obtain ⟨hS107, hrow108⟩ := hS101.row_data (i := 1) rfl (fun _ h => h)
        have hS109 := hS107.data (dRow 1 A97 ((([1]) ++ List.replicate (n.M.toNat + 1) 0 : List Int).length) c98 (encIs (([1]) ++ List.replicate (n.M.toNat + 1) 0))) ⟨hc110, hrow108⟩
        refine ⟨A97, c98, ?_, hS109.fr, ⟨by have := (hS109.row (i := 1) rfl).1; exact this, ((hS109.row (i := 1) rfl).2.mono (fun _ hk => ⟨imm_nxt hk, rfl⟩))⟩⟩
        exact ret_t2 rfl (ret_b (by first | rfl | omega | assumption | exact decide_eq_true (by assumption) | (have q0 := h32; (try simp at q0); have q1 := h48; (try simp at q1); have q2 := h79; (try simp at q2);  omega) | (simp [h32, h48, h79]; done) | (simp [] at *; done) | (simp [h32, h48, h79] <;> omega) | (rw [Bool.eq_iff_iff]; simp [h32, h48, h79] <;> omega) | (rw [Bool.eq_iff_iff]; simp [h32, h48, h79] at * <;> omega)))
      · skip
        have hR111 := hR78.setb (d := 14) (b := false) rfl (decide_eq_false h79)
        refine wp_cond_false (hR111.ev rfl) ?_
        refine wp_skip ?_
        refine x_block_n ?_
        refine x_then_n (hK35 _ _ ?_)
        refine wp_seq_k (fun K112 hK113 => ?_)
        refine c_region ?_
        refine m_field (j' := 0) sv hR111 rfl rfl rfl Tryd.underlying32 rfl sz3 rfl rfl (by decide) (fun a114 hR115 => ?_)
        refine m_load (i := 0) sv hR115 hS29 rfl rfl rfl rfl rfl Tryd.underlying3 rfl (by decide) (fun a116 hR117 => ?_)
        refine m_indexA (i := ((n.K)).toNat) (j := (((n.K)).toNat) * 4) sv hR117 rfl rfl rfl rfl Tryd.underlying130 sz129 (by omega) (by omega) rfl (by decide) (fun a118 hR119 => ?_)
        refine m_fieldE (j' := (((n.K)).toNat) * 4) sv hR119 rfl rfl rfl rfl Tryd.underlying129 rfl sz66 rfl rfl (by decide) (fun a120 hR121 => ?_)
        obtain ⟨A122, c123, hd124, he125⟩ := shapes_at (hS29.get (i := 0) rfl) (((n.K)).toNat) (by omega)
        have hS126 := hS29.data (dRow 1 A122 (shp (((n.K)).toNat)).b.length c123 (encIs (shp (((n.K)).toNat)).b)) hd124
        refine m_loadE sv hR121 rfl rfl rfl 0 ((((n.K)).toNat) * 4) he125 rfl rfl Tryd.underlying66 rfl (by decide) (fun a127 hR128 => ?_)
        have hS129 : St w0 Z none_ w23 [.box g8 32 [.int .i64 (n.K), .int .i64 (n.N), .int .i64 (n.M), .string n.S]] [dShapes, dRow 1 A122 (shp (((n.K)).toNat)).b.length c123 (encIs (shp (((n.K)).toNat)).b)] := hS126
        refine k_call (xs := [.tmp 25]) se hR128 rfl rfl rfl (by decide) ok113 (cloneI_calls _ (imm Z w0 [.box g8 32 [.int .i64 (n.K), .int .i64 (n.N), .int .i64 (n.M), .string n.S]] _) (fun _ h => h.1) A122 c123 ((shp (((n.K)).toNat)).b) (hS129.get (i := 1) rfl) (Nat.le_trans (shp_le _) (by omega))) ?_
        rintro e139 w131 ⟨A135, c136, rfl, hf134, hd137⟩
        have hS140 := hS129.below hf134.below
        have hS141 := hS140.data (dRow 1 A135 (((shp (((n.K)).toNat)).b).length) c136 (encIs ((shp (((n.K)).toNat)).b))) ⟨hd137.1, hd137.2.mono (fun _ hk => ⟨nxt_imm hS129 hk, rfl⟩)⟩
        refine ⟨_, rfl, fun a130 hR132 => ?_⟩
        refine asg hR132 (fun a142 hR143 => ?_)
        refine asg hR143 (fun a144 hR145 => ?_)
        refine wpList_nil (x_then_n (hK113 _ _ ?_))
        refine wp_ret ?_
        refine e_ret2 hR145 rfl rfl rfl rfl ?_
        have he146 : bindsR n = ((shp (((n.K)).toNat)).b) := by unfold bindsR; rw [if_pos (by assumption)]; simp [binds, h48, h79]
        rw [he146]
        refine ⟨A135, c136, ?_, hS141.fr, ⟨by have := (hS141.row (i := 2) rfl).1; exact this, ((hS141.row (i := 2) rfl).2.mono (fun _ hk => ⟨imm_nxt hk, rfl⟩))⟩⟩
        exact ret_t2 rfl (ret_b (by first | rfl | omega | assumption | exact decide_eq_true (by assumption) | (have q0 := h32; (try simp at q0); have q1 := h48; (try simp at q1); have q2 := h79; (try simp at q2);  omega) | (simp [h32, h48, h79]; done) | (simp [] at *; done) | (simp [h32, h48, h79] <;> omega) | (rw [Bool.eq_iff_iff]; simp [h32, h48, h79] <;> omega) | (rw [Bool.eq_iff_iff]; simp [h32, h48, h79] at * <;> omega)))
  · skip
    have hR147 := hR31.setb (d := 6) (b := true) rfl (by rw [h32]; rfl)
    refine wp_cond_true (hR147.ev rfl) ?_
    refine wp_seq_k (fun K148 hK149 => ?_)
    refine c_region ?_
    refine asg hR147 (fun a150 hR151 => ?_)
    refine asg hR151 (fun a152 hR153 => ?_)
    refine wpList_nil (x_then_n (hK149 _ _ ?_))
    refine wp_ret ?_
    refine x_then_r ?_
    refine e_ret2 hR153 rfl rfl rfl rfl ?_
    have he154 : bindsR n = [] := by unfold bindsR; rw [if_neg (by simp [h32])]
    rw [he154]
    refine ⟨none, 0, ?_, hS29.fr, ⟨Nat.le_refl _, RowI.nil _ _ _ _⟩⟩
    exact ret_t2 rfl (ret_b (by first | rfl | omega | assumption | exact decide_eq_true (by assumption) | (have q0 := h32; (try simp at q0);  omega) | (simp [h32]; done) | (simp [] at *; done) | (simp [h32] <;> omega) | (rw [Bool.eq_iff_iff]; simp [h32] <;> omega) | (rw [Bool.eq_iff_iff]; simp [h32] at * <;> omega)))
end Go.Proofs.YtobgdeffhdefeaaDoor
/- Contracts of functions, one theorem each: what the call returns, and that nothing old is changed. Printed by gen.py. -/
namespace Go.Proofs.YtobgdeffhdefeaaDoor
open Go Go.RowKit
set_option linter.unusedSimpArgs false
set_option linter.unusedVariables false

set_option maxRecDepth 100000 in
set_option maxHeartbeats 1000000 in
theorem backward_yields (w0 : World) (Z : Nat → Prop) (tg : Nat) (tA : Option Addr) (tc : Nat) (t : List Nd) (ht : (dRow 4 tA t.length tc (encNs t)).φ w0 Z) (htb : (dBox tg [.slice tA t.length tc]).φ w0 Z) (hl : t.length ≤ 1000000) :
    Yields Tryd.prog 151 [.pointer (some ⟨tg, 0, none⟩)].toArray (fun x : Int × Nd => #[.int .i64 x.1, .agg (encN x.2).toArray]) (bwL t) Z w0 := by
  refine yields_of Tryd.func151 rfl Tryd.ntmps151 rfl [dRow 4 tA t.length tc (encNs t), dBox tg [.slice tA t.length tc]] (by
    intro d hd
    simp only [List.mem_cons, List.not_mem_nil, or_false] at hd
    rcases hd with rfl | rfl
    · exact ht
    · exact htb
    ) (fun lp jf jx w0 C0 M0 hY hds a1 hR2 hS3 => ?_)
  refine wp_seq_k (fun K4 hK5 => ?_)
  refine c_region ?_
  refine m_loadC sv hR2 rfl rfl rfl (dbox_cell (hS3.get (i := 2) rfl) rfl) Tryd.underlying22 rfl (by decide) (fun a6 hR7 => ?_)
  refine r_len sv hR7 rfl rfl rfl rfl Tryd.underlying22 (by decide) (fun a8 hR9 => ?_)
  refine r_sub (z := (((t.length : Nat) : Int) - 1)) sv hR9 rfl rfl rfl rfl (by decide) (by omega) (by omega) (by omega) (fun a10 hR11 => ?_)
  refine asg hR11 (fun a12 hR13 => ?_)
  refine wpList_nil (x_then_n (hK5 _ _ ?_))
  refine wp_block ?_
  refine wp_loop_ghost (fun gn ga gw => ∃ k : Nat, (Reg ga 19 [(1000000, .bool false), (0, .func (.yield lp) #[] #[]), (1, .pointer (some ⟨tg, 0, none⟩)), (3, .int .i64 (((t.length : Nat) : Int) - ((k : Nat) : Int) - 1))]) ∧ (St w0 (oldB w0) M0 gw [] [dJ jf ((bwL t).take k) C0 M0 w0.heap.size, dRow 4 tA t.length tc (encNs t), dBox tg [.slice tA t.length tc]]) ∧ (k ≤ t.length) ∧ (t.length - k) = gn) _ ⟨0, (hR13.sub (rc rfl (rc rfl (rc rfl (rc rfl rnl))))), hS3, by omega, rfl⟩ ?_
  rintro r14 a15 w16 ⟨k, hR17, hS18, hk, hn19⟩
  refine wp_seq_k (fun K20 hK21 => ?_)
  refine wp_seq_k (fun K22 hK23 => ?_)
  refine c_region ?_
  refine mv hR17 (fun a24 hR25 => ?_)
  refine r_geq sv hR25 rfl rfl rfl rfl (by decide) (fun a26 hR27 => ?_)
  refine wpList_nil (x_then_n (hK23 _ _ ?_))
  rcases Decidable.em (0 ≤ (((t.length : Nat) : Int) - ((k : Nat) : Int) - 1)) with h28 | h28
  · skip
    have hR29 := hR27.setb (d := 8) (b := true) rfl (decide_eq_true h28)
    refine wp_cond_true (hR29.ev rfl) ?_
    refine wp_skip ?_
    refine x_then_n (hK21 _ _ ?_)
    refine wp_seq_k (fun K30 hK31 => ?_)
    refine wp_block ?_
    refine wp_seq_k (fun K32 hK33 => ?_)
    refine cy_region ?_
    refine r_move (st_listInV rfl rfl) hR29 rfl rfl rfl (by decide) (fun a34 hR35 => ?_)
    refine r_move (st_listInV rfl rfl) hR35 rfl rfl rfl (by decide) (fun a36 hR37 => ?_)
    refine m_loadC (st_listInV rfl rfl) hR37 rfl rfl rfl (dbox_cell (hS18.get (i := 2) rfl) rfl) Tryd.underlying22 rfl (by decide) (fun a38 hR39 => ?_)
    refine r_move (st_listInV rfl rfl) hR39 rfl rfl rfl (by decide) (fun a40 hR41 => ?_)
    refine m_index (i := (t.length) - (k + 1)) (j := ((t.length) - (k + 1)) * 4) (st_listInV rfl rfl) hR41 rfl rfl rfl rfl Tryd.underlying22 sz32 (by omega) (by omega) (nds_elem (t := t) (k := (t.length) - (k + 1)) (hS18.row (i := 1) rfl).2 (by omega)).some_ rfl (by decide) (fun a42 hR43 => ?_)
    refine m_loadEN (st_listInV rfl rfl) hR43 rfl rfl rfl (nds_elem (t := t) (k := (t.length) - (k + 1)) (hS18.row (i := 1) rfl).2 (by omega)) Tryd.underlying32 rfl sz32 (by decide) (fun a44 hR45 => ?_)
    have hS46 : St w0 (oldB w0) M0 w16 [] [dJ jf ((bwL t).take k) C0 M0 w0.heap.size, dRow 4 tA t.length tc (encNs t), dBox tg [.slice tA t.length tc]] := hS18
    refine y_call (t := .tmp 11) (xs := [.tmp 12, .tmp 16]) (pre := (bwL t).take k) (i := 0) (ds0 := [dRow 4 tA t.length tc (encNs t), dBox tg [.slice tA t.length tc]]) hY rfl hR45 hS46 rfl rfl rfl rfl (by decide) ((((((t.length : Nat) : Int) - ((k : Nat) : Int) - 1), (nth t ((t.length) - (k + 1)))) : Int × Nd)) rfl rfl (bwL_prefix (by omega)) hds (fun a47 w48 hR49 hS50 => ?_) (fun a47 w48 hR49 hS50 => ?_)
    · skip
      refine r_not (st_listInV rfl rfl) hR49 rfl rfl rfl (by decide) (fun a51 hR52 => ?_)
      refine li_nil ?_
      refine x_then_n (hK33 _ _ ?_)
      refine wp_cond_false (hR52.ev rfl) ?_
      refine wp_skip ?_
      refine x_block_n ?_
      refine x_then_n (hK31 _ _ ?_)
      refine c_region ?_
      refine mv hR52 (fun a53 hR54 => ?_)
      refine r_sub (z := (((t.length : Nat) : Int) - ((k : Nat) : Int) - 2)) sv hR54 rfl rfl rfl rfl (by decide) (by omega) (by omega) (by omega) (fun a55 hR56 => ?_)
      refine asg hR56 (fun a57 hR58 => ?_)
      refine wpList_nil ?_
      have he59 : (bwL t).take k ++ [((((((t.length : Nat) : Int) - ((k : Nat) : Int) - 1), (nth t ((t.length) - (k + 1)))) : Int × Nd))] = (bwL t).take (k + 1) := bwL_step (by omega)
      have hS60 := hS50
      rw [he59] at hS60
      exact ⟨_, by omega, k + 1, (hR58.sub (rc rfl (rc rfl (rc rfl (rc (ri rfl (by omega)) rnl))))), hS60, by omega, rfl⟩
    · skip
      refine r_not (st_listInV rfl rfl) hR49 rfl rfl rfl (by decide) (fun a61 hR62 => ?_)
      refine li_nil ?_
      refine x_then_n (hK33 _ _ ?_)
      refine wp_cond_true (hR62.ev rfl) ?_
      refine wp_ret ?_
      refine x_block_r ?_
      refine x_then_r ?_
      refine x_then_r ?_
      refine x_block_r ?_
      refine e_ret0 hR62 rfl rfl ?_
      exact it_stop hS50 (i := 0) rfl (bwL_prefix (by omega))
  · skip
    have hR63 := hR27.setb (d := 8) (b := false) rfl (decide_eq_false h28)
    refine wp_cond_false (hR63.ev rfl) ?_
    refine wp_exit ?_
    refine x_then_e ?_
    refine x_then_e ?_
    refine x_block_eq ?_
    refine e_end0 hR63 rfl rfl ?_
    exact it_all hS18 (i := 0) rfl (bwL_all (by omega))
end Go.Proofs.YtobgdeffhdefeaaDoor
/- Contracts of functions, one theorem each: what the call returns, and that nothing old is changed. Printed by gen.py. -/
namespace Go.Proofs.YtobgdeffhdefeaaDoor
open Go Go.RowKit
set_option linter.unusedSimpArgs false
set_option linter.unusedVariables false

set_option maxRecDepth 100000 in
set_option maxHeartbeats 1000000 in
theorem proofs_yields (w0 : World) (Z : Nat → Prop) (tg : Nat) (tA : Option Addr) (tc : Nat) (t : List Nd) (hShp : Shapes w0 Z) (ht : (dRow 4 tA t.length tc (encNs t)).φ w0 Z) (htb : (dBox tg [.slice tA t.length tc]).φ w0 Z) (hl : t.length ≤ 1000000) (hsm : sml t) :
    Yields Tryd.prog 70 [.pointer (some ⟨tg, 0, none⟩)].toArray (fun x : Int × Int => #[.int .i64 x.1, .int .i64 x.2]) (prfL t) Z w0 := by
  refine yields_of Tryd.func70 rfl Tryd.ntmps70 rfl [dShapes, dRow 4 tA t.length tc (encNs t), dBox tg [.slice tA t.length tc]] (by
    intro d hd
    simp only [List.mem_cons, List.not_mem_nil, or_false] at hd
    rcases hd with rfl | rfl | rfl
    · exact hShp
    · exact ht
    · exact htb
    ) (fun lp jf jx w0 C0 M0 hY hds a1 hR2 hS3 => ?_)
  refine wp_scope_straight ?_
  refine wp_seq_k (fun K4 hK5 => ?_)
  refine c_region ?_
  refine asg hR2 (fun a6 hR7 => ?_)
  refine wpList_nil (x_then_n (hK5 _ _ ?_))
  refine wp_seq_k (fun K8 hK9 => ?_)
  refine c_region ?_
  refine asg hR7 (fun a10 hR11 => ?_)
  refine wpList_nil (x_then_n (hK9 _ _ ?_))
  refine wp_seq_k (fun K12 hK13 => ?_)
  refine wp_label ?_
  refine x_then_n (hK13 _ _ ?_)
  refine wp_seq_k (fun K14 hK15 => ?_)
  refine c_region ?_
  refine m_loadC sv hR11 rfl rfl rfl (dbox_cell (hS3.get (i := 3) rfl) rfl) Tryd.underlying22 rfl (by decide) (fun a16 hR17 => ?_)
  refine r_len sv hR17 rfl rfl rfl rfl Tryd.underlying22 (by decide) (fun a18 hR19 => ?_)
  refine r_sub (z := (((t.length : Nat) : Int) - 1)) sv hR19 rfl rfl rfl rfl (by decide) (by omega) (by omega) (by omega) (fun a20 hR21 => ?_)
  refine asg hR21 (fun a22 hR23 => ?_)
  refine wpList_nil (x_then_n (hK15 _ _ ?_))
  refine wp_block ?_
  refine wp_loop_ghost (fun gn ga gw => ∃ k : Nat, (Reg ga 44 [(1000000, .bool false), (0, .func (.yield lp) #[] #[]), (1, .pointer (some ⟨tg, 0, none⟩)), (3, .int .i64 (((prS t k).2.2))), (4, .int .i64 (((prS t k).2.1))), (5, .int .i64 (((t.length : Nat) : Int) - ((k : Nat) : Int) - 1))]) ∧ (St w0 (oldB w0) M0 gw [] [dJ jf ((prS t k).1) C0 M0 w0.heap.size, dShapes, dRow 4 tA t.length tc (encNs t), dBox tg [.slice tA t.length tc]]) ∧ (k ≤ t.length) ∧ (t.length - k) = gn) _ ⟨0, (hR23.sub (rc rfl (rc rfl (rc rfl (rc rfl (rc rfl (rc rfl rnl))))))), hS3, by omega, rfl⟩ ?_
  rintro r24 a25 w26 ⟨k, hR27, hS28, hk, hn29⟩
  obtain ⟨hpb1, hpb2, hpb3, hpb4⟩ := prS_bound t k (by omega)
  have hbl := bindsR_le (nth t (t.length - (k + 1)))
  refine wp_seq_k (fun K30 hK31 => ?_)
  refine wp_seq_k (fun K32 hK33 => ?_)
  refine c_region ?_
  refine mv hR27 (fun a34 hR35 => ?_)
  refine r_geq sv hR35 rfl rfl rfl rfl (by decide) (fun a36 hR37 => ?_)
  refine wpList_nil (x_then_n (hK33 _ _ ?_))
  rcases Decidable.em (0 ≤ (((t.length : Nat) : Int) - ((k : Nat) : Int) - 1)) with h38 | h38
  · skip
    have hR39 := hR37.setb (d := 12) (b := true) rfl (decide_eq_true h38)
    refine wp_cond_true (hR39.ev rfl) ?_
    refine wp_skip ?_
    refine x_then_n (hK31 _ _ ?_)
    refine wp_seq_k (fun K40 hK41 => ?_)
    refine wp_block ?_
    refine wp_seq_k (fun K42 hK43 => ?_)
    refine wp_seq_k (fun K44 hK45 => ?_)
    refine c_region ?_
    refine mv hR39 (fun a46 hR47 => ?_)
    refine r_lss sv hR47 rfl rfl rfl rfl (by decide) (fun a48 hR49 => ?_)
    refine wpList_nil (x_then_n (hK45 _ _ ?_))
    rcases Decidable.em ((((prS t k).2.1)) < 0) with h50 | h50
    · skip
      have hR51 := hR49.setb (d := 16) (b := true) rfl (decide_eq_true h50)
      refine wp_cond_true (hR51.ev rfl) ?_
      refine wp_seq_k (fun K52 hK53 => ?_)
      refine wp_seq_k (fun K54 hK55 => ?_)
      refine c_region ?_
      refine m_loadC sv hR51 rfl rfl rfl (dbox_cell (hS28.get (i := 3) rfl) rfl) Tryd.underlying22 rfl (by decide) (fun a56 hR57 => ?_)
      refine mv hR57 (fun a58 hR59 => ?_)
      refine m_index (i := (t.length) - (k + 1)) (j := ((t.length) - (k + 1)) * 4) sv hR59 rfl rfl rfl rfl Tryd.underlying22 sz32 (by omega) (by omega) (nds_elem (t := t) (k := (t.length) - (k + 1)) (hS28.row (i := 2) rfl).2 (by omega)).some_ rfl (by decide) (fun a60 hR61 => ?_)
      refine m_fieldE (j' := ((t.length) - (k + 1)) * 4) sv hR61 rfl rfl rfl (nds_elem (t := t) (k := (t.length) - (k + 1)) (hS28.row (i := 2) rfl).2 (by omega)).some_ Tryd.underlying32 rfl sz3 rfl rfl (by decide) (fun a62 hR63 => ?_)
      refine m_loadE sv hR63 rfl rfl rfl 0 (((t.length) - (k + 1)) * 4) (nds_elem (t := t) (k := (t.length) - (k + 1)) (hS28.row (i := 2) rfl).2 (by omega)) rfl rfl Tryd.underlying3 rfl (by decide) (fun a64 hR65 => ?_)
      refine r_neq sv hR65 rfl rfl rfl rfl (by decide) (fun a66 hR67 => ?_)
      refine wpList_nil (x_then_n (hK55 _ _ ?_))
      rcases Decidable.em ((((nth t ((t.length) - (k + 1))).K)) = 28) with h68 | h68
      · skip
        have hR69 := hR67.setb (d := 22) (b := false) rfl (by rw [(decide_eq_true h68)]; rfl)
        refine wp_cond_false (hR69.ev rfl) ?_
        refine wp_skip ?_
        refine x_then_n (hK53 _ _ ?_)
        refine c_region ?_
        refine mv hR69 (fun a70 hR71 => ?_)
        refine asg hR71 (fun a72 hR73 => ?_)
        refine asg hR73 (fun a74 hR75 => ?_)
        refine wpList_nil (x_then_n (hK43 _ _ ?_))
        refine wp_seq_k (fun K76 hK77 => ?_)
        refine c_region ?_
        refine m_loadC sv hR75 rfl rfl rfl (dbox_cell (hS28.get (i := 3) rfl) rfl) Tryd.underlying22 rfl (by decide) (fun a78 hR79 => ?_)
        refine mv hR79 (fun a80 hR81 => ?_)
        refine m_index (i := (t.length) - (k + 1)) (j := ((t.length) - (k + 1)) * 4) sv hR81 rfl rfl rfl rfl Tryd.underlying22 sz32 (by omega) (by omega) (nds_elem (t := t) (k := (t.length) - (k + 1)) (hS28.row (i := 2) rfl).2 (by omega)).some_ rfl (by decide) (fun a82 hR83 => ?_)
        refine m_loadEN sv hR83 rfl rfl rfl (nds_elem (t := t) (k := (t.length) - (k + 1)) (hS28.row (i := 2) rfl).2 (by omega)) Tryd.underlying32 rfl sz32 (by decide) (fun a84 hR85 => ?_)
        have hS86 : St w0 (oldB w0) M0 w26 [] [dJ jf ((prS t k).1) C0 M0 w0.heap.size, dShapes, dRow 4 tA t.length tc (encNs t), dBox tg [.slice tA t.length tc]] := hS28
        refine k_call (xs := [.tmp 28]) se hR85 rfl rfl rfl (by decide) ok71 (binds_calls _ (imm (oldB w0) w0 [] _) (fun _ h => h.1) (nth t ((t.length) - (k + 1))) (hS86.get (i := 1) rfl) (hsm _ (by omega))) ?_
        rintro e96 w88 ⟨A92, c93, rfl, hf91, hd94⟩
        have hS97 := hS86.below hf91.below
        have hS98 := hS97.data (dRow 1 A92 ((bindsR (nth t ((t.length) - (k + 1)))).length) c93 (encIs (bindsR (nth t ((t.length) - (k + 1)))))) ⟨hd94.1, hd94.2.mono (fun _ hk => ⟨nxt_imm hS86 hk, rfl⟩)⟩
        refine ⟨_, rfl, fun a87 hR89 => ?_⟩
        refine mv hR89 (fun a99 hR100 => ?_)
        refine r_extract sv hR100 rfl rfl rfl rfl (by decide) (fun a101 hR102 => ?_)
        refine r_extract sv hR102 rfl rfl rfl rfl (by decide) (fun a103 hR104 => ?_)
        refine asg hR104 (fun a105 hR106 => ?_)
        refine asg hR106 (fun a107 hR108 => ?_)
        refine wpList_nil (x_then_n (hK77 _ _ ?_))
        refine wp_seq_k (fun K109 hK110 => ?_)
        refine wp_seq_k (fun K111 hK112 => ?_)
        refine c_region ?_
        refine mv hR108 (fun a113 hR114 => ?_)
        refine mv hR114 (fun a115 hR116 => ?_)
        refine r_len sv hR116 rfl rfl rfl rfl Tryd.underlying66 (by decide) (fun a117 hR118 => ?_)
        refine r_sub (z := ((((bindsR (nth t ((t.length) - (k + 1)))).length : Nat) : Int) - 1)) sv hR118 rfl rfl rfl rfl (by decide) (by omega) (by omega) (by omega) (fun a119 hR120 => ?_)
        refine r_add (z := (((bindsR (nth t ((t.length) - (k + 1)))).length : Nat) : Int)) sv hR120 rfl rfl rfl rfl (by decide) (by omega) (by omega) (by omega) (fun a121 hR122 => ?_)
        refine asg hR122 (fun a123 hR124 => ?_)
        refine wpList_nil (x_then_n (hK112 _ _ ?_))
        refine wp_seq_k (fun K125 hK126 => ?_)
        refine c_region ?_
        refine mv hR124 (fun a127 hR128 => ?_)
        refine r_gtr sv hR128 rfl rfl rfl rfl (by decide) (fun a129 hR130 => ?_)
        refine wpList_nil (x_then_n (hK126 _ _ ?_))
        rcases Decidable.em (0 < (((bindsR (nth t ((t.length) - (k + 1)))).length : Nat) : Int)) with h131 | h131
        · skip
          have hR132 := hR130.setb (d := 38) (b := true) rfl (decide_eq_true h131)
          refine wp_cond_true (hR132.ev rfl) ?_
          refine wp_exit ?_
          refine x_then_e ?_
          refine x_block_eq ?_
          refine x_then_n (hK41 _ _ ?_)
          refine c_region ?_
          refine mv hR132 (fun a133 hR134 => ?_)
          refine r_sub (z := (((t.length : Nat) : Int) - ((k : Nat) : Int) - 2)) sv hR134 rfl rfl rfl rfl (by decide) (by omega) (by omega) (by omega) (fun a135 hR136 => ?_)
          refine asg hR136 (fun a137 hR138 => ?_)
          refine wpList_nil ?_
          have hst := prS_new1 (t := t) (k := k) (n := (((bindsR (nth t ((t.length) - (k + 1)))).length : Nat) : Int)) (r := ((t.length : Nat) : Int) - ((k : Nat) : Int) - 1) (by omega) (by omega) (by omega) (by omega) (by omega)
          have he139 : (prS t k).1 = (prS t (k + 1)).1 := by rw [hst]
          have hS140 := hS98
          rw [he139] at hS140
          have hS141 := hS140.forget 4
          exact ⟨_, by omega, k + 1, (hR138.sub (rc rfl (rc rfl (rc rfl (rc (ri rfl (by simp only [hst])) (rc (ri rfl (by simp only [hst])) (rc (ri rfl (by omega)) rnl))))))), hS141, by omega, rfl⟩
        · skip
          have hR142 := hR130.setb (d := 38) (b := false) rfl (decide_eq_false h131)
          refine wp_cond_false (hR142.ev rfl) ?_
          refine wp_skip ?_
          refine x_then_n (hK110 _ _ ?_)
          refine wp_seq_k (fun K143 hK144 => ?_)
          refine wp_seq_k (fun K145 hK146 => ?_)
          refine cy_region ?_
          refine r_move (st_listInV rfl rfl) hR142 rfl rfl rfl (by decide) (fun a147 hR148 => ?_)
          refine r_move (st_listInV rfl rfl) hR148 rfl rfl rfl (by decide) (fun a149 hR150 => ?_)
          refine r_move (st_listInV rfl rfl) hR150 rfl rfl rfl (by decide) (fun a151 hR152 => ?_)
          have hS153 : St w0 (oldB w0) M0 w88 [] [dJ jf ((prS t k).1) C0 M0 w0.heap.size, dShapes, dRow 4 tA t.length tc (encNs t), dBox tg [.slice tA t.length tc], dRow 1 A92 ((bindsR (nth t ((t.length) - (k + 1)))).length) c93 (encIs (bindsR (nth t ((t.length) - (k + 1)))))] := hS98
          refine y_call (t := .tmp 39) (xs := [.tmp 40, .tmp 41]) (pre := (prS t k).1) (i := 0) (ds0 := [dShapes, dRow 4 tA t.length tc (encNs t), dBox tg [.slice tA t.length tc]]) hY rfl hR152 hS153 rfl rfl rfl rfl (by decide) ((((((t.length : Nat) : Int) - ((k : Nat) : Int) - 1), (((t.length : Nat) : Int) - ((k : Nat) : Int) - 1)) : Int × Int)) rfl rfl ((by have hst := prS_new0 (t := t) (k := k) (n := (((bindsR (nth t ((t.length) - (k + 1)))).length : Nat) : Int)) (r := ((t.length : Nat) : Int) - ((k : Nat) : Int) - 1) (by omega) (by omega) (by omega) (by omega) (by omega); have hpp := prS_prfL (t := t) (k := k + 1) (by omega); rw [hst] at hpp; exact hpp)) hds (fun a154 w155 hR156 hS157 => ?_) (fun a154 w155 hR156 hS157 => ?_)
          · skip
            refine r_not (st_listInV rfl rfl) hR156 rfl rfl rfl (by decide) (fun a158 hR159 => ?_)
            refine li_nil ?_
            refine x_then_n (hK146 _ _ ?_)
            refine wp_cond_false (hR159.ev rfl) ?_
            refine wp_skip ?_
            refine x_then_n (hK144 _ _ ?_)
            refine c_region ?_
            refine asg hR159 (fun a160 hR161 => ?_)
            refine wpList_nil ?_
            refine x_block_n ?_
            refine x_then_n (hK41 _ _ ?_)
            refine c_region ?_
            refine mv hR161 (fun a162 hR163 => ?_)
            refine r_sub (z := (((t.length : Nat) : Int) - ((k : Nat) : Int) - 2)) sv hR163 rfl rfl rfl rfl (by decide) (by omega) (by omega) (by omega) (fun a164 hR165 => ?_)
            refine asg hR165 (fun a166 hR167 => ?_)
            refine wpList_nil ?_
            have hst := prS_new0 (t := t) (k := k) (n := (((bindsR (nth t ((t.length) - (k + 1)))).length : Nat) : Int)) (r := ((t.length : Nat) : Int) - ((k : Nat) : Int) - 1) (by omega) (by omega) (by omega) (by omega) (by omega)
            have he168 : (prS t k).1 ++ [((((((t.length : Nat) : Int) - ((k : Nat) : Int) - 1), (((t.length : Nat) : Int) - ((k : Nat) : Int) - 1)) : Int × Int))] = (prS t (k + 1)).1 := by rw [hst]
            have hS169 := hS157
            rw [he168] at hS169
            exact ⟨_, by omega, k + 1, (hR167.sub (rc rfl (rc rfl (rc rfl (rc (ri rfl (by simp only [hst])) (rc (ri rfl (by simp only [hst])) (rc (ri rfl (by omega)) rnl))))))), hS169, by omega, rfl⟩
          · skip
            refine r_not (st_listInV rfl rfl) hR156 rfl rfl rfl (by decide) (fun a170 hR171 => ?_)
            refine li_nil ?_
            refine x_then_n (hK146 _ _ ?_)
            refine wp_cond_true (hR171.ev rfl) ?_
            refine wp_ret ?_
            refine x_then_r ?_
            refine x_block_r ?_
            refine x_then_r ?_
            refine x_then_r ?_
            refine x_block_r ?_
            refine x_scope_r ?_
            refine e_ret0 hR171 rfl rfl ?_
            exact it_stop hS157 (i := 0) rfl ((by have hst := prS_new0 (t := t) (k := k) (n := (((bindsR (nth t ((t.length) - (k + 1)))).length : Nat) : Int)) (r := ((t.length : Nat) : Int) - ((k : Nat) : Int) - 1) (by omega) (by omega) (by omega) (by omega) (by omega); have hpp := prS_prfL (t := t) (k := k + 1) (by omega); rw [hst] at hpp; exact hpp))
      · skip
        have hR172 := hR67.setb (d := 22) (b := true) rfl (by rw [(decide_eq_false h68)]; rfl)
        refine wp_cond_true (hR172.ev rfl) ?_
        refine wp_exit ?_
        refine x_then_e ?_
        refine x_then_e ?_
        refine x_block_eq ?_
        refine x_then_n (hK41 _ _ ?_)
        refine c_region ?_
        refine mv hR172 (fun a173 hR174 => ?_)
        refine r_sub (z := (((t.length : Nat) : Int) - ((k : Nat) : Int) - 2)) sv hR174 rfl rfl rfl rfl (by decide) (by omega) (by omega) (by omega) (fun a175 hR176 => ?_)
        refine asg hR176 (fun a177 hR178 => ?_)
        refine wpList_nil ?_
        have hst := prS_same (t := t) (k := k) (by omega) (by omega)
        have he179 : (prS t k).1 = (prS t (k + 1)).1 := by rw [hst]
        have hS180 := hS28
        rw [he179] at hS180
        exact ⟨_, by omega, k + 1, (hR178.sub (rc rfl (rc rfl (rc rfl (rc (ri rfl (by simp only [hst])) (rc (ri rfl (by simp only [hst])) (rc (ri rfl (by omega)) rnl))))))), hS180, by omega, rfl⟩
    · skip
      have hR181 := hR49.setb (d := 16) (b := false) rfl (decide_eq_false h50)
      refine wp_cond_false (hR181.ev rfl) ?_
      refine wp_skip ?_
      refine x_then_n (hK43 _ _ ?_)
      refine wp_seq_k (fun K182 hK183 => ?_)
      refine c_region ?_
      refine m_loadC sv hR181 rfl rfl rfl (dbox_cell (hS28.get (i := 3) rfl) rfl) Tryd.underlying22 rfl (by decide) (fun a184 hR185 => ?_)
      refine mv hR185 (fun a186 hR187 => ?_)
      refine m_index (i := (t.length) - (k + 1)) (j := ((t.length) - (k + 1)) * 4) sv hR187 rfl rfl rfl rfl Tryd.underlying22 sz32 (by omega) (by omega) (nds_elem (t := t) (k := (t.length) - (k + 1)) (hS28.row (i := 2) rfl).2 (by omega)).some_ rfl (by decide) (fun a188 hR189 => ?_)
      refine m_loadEN sv hR189 rfl rfl rfl (nds_elem (t := t) (k := (t.length) - (k + 1)) (hS28.row (i := 2) rfl).2 (by omega)) Tryd.underlying32 rfl sz32 (by decide) (fun a190 hR191 => ?_)
      have hS192 : St w0 (oldB w0) M0 w26 [] [dJ jf ((prS t k).1) C0 M0 w0.heap.size, dShapes, dRow 4 tA t.length tc (encNs t), dBox tg [.slice tA t.length tc]] := hS28
      refine k_call (xs := [.tmp 28]) se hR191 rfl rfl rfl (by decide) ok71 (binds_calls _ (imm (oldB w0) w0 [] _) (fun _ h => h.1) (nth t ((t.length) - (k + 1))) (hS192.get (i := 1) rfl) (hsm _ (by omega))) ?_
      rintro e202 w194 ⟨A198, c199, rfl, hf197, hd200⟩
      have hS203 := hS192.below hf197.below
      have hS204 := hS203.data (dRow 1 A198 ((bindsR (nth t ((t.length) - (k + 1)))).length) c199 (encIs (bindsR (nth t ((t.length) - (k + 1)))))) ⟨hd200.1, hd200.2.mono (fun _ hk => ⟨nxt_imm hS192 hk, rfl⟩)⟩
      refine ⟨_, rfl, fun a193 hR195 => ?_⟩
      refine mv hR195 (fun a205 hR206 => ?_)
      refine r_extract sv hR206 rfl rfl rfl rfl (by decide) (fun a207 hR208 => ?_)
      refine r_extract sv hR208 rfl rfl rfl rfl (by decide) (fun a209 hR210 => ?_)
      refine asg hR210 (fun a211 hR212 => ?_)
      refine asg hR212 (fun a213 hR214 => ?_)
      refine wpList_nil (x_then_n (hK183 _ _ ?_))
      refine wp_seq_k (fun K215 hK216 => ?_)
      refine wp_seq_k (fun K217 hK218 => ?_)
      refine c_region ?_
      refine mv hR214 (fun a219 hR220 => ?_)
      refine mv hR220 (fun a221 hR222 => ?_)
      refine r_len sv hR222 rfl rfl rfl rfl Tryd.underlying66 (by decide) (fun a223 hR224 => ?_)
      refine r_sub (z := ((((bindsR (nth t ((t.length) - (k + 1)))).length : Nat) : Int) - 1)) sv hR224 rfl rfl rfl rfl (by decide) (by omega) (by omega) (by omega) (fun a225 hR226 => ?_)
      refine r_add (z := (((prS t k).2.2) + (((bindsR (nth t ((t.length) - (k + 1)))).length : Nat) : Int) - 1)) sv hR226 rfl rfl rfl rfl (by decide) (by omega) (by omega) (by omega) (fun a227 hR228 => ?_)
      refine asg hR228 (fun a229 hR230 => ?_)
      refine wpList_nil (x_then_n (hK218 _ _ ?_))
      refine wp_seq_k (fun K231 hK232 => ?_)
      refine c_region ?_
      refine mv hR230 (fun a233 hR234 => ?_)
      refine r_gtr sv hR234 rfl rfl rfl rfl (by decide) (fun a235 hR236 => ?_)
      refine wpList_nil (x_then_n (hK232 _ _ ?_))
      rcases Decidable.em (0 < (((prS t k).2.2) + (((bindsR (nth t ((t.length) - (k + 1)))).length : Nat) : Int) - 1)) with h237 | h237
      · skip
        have hR238 := hR236.setb (d := 38) (b := true) rfl (decide_eq_true h237)
        refine wp_cond_true (hR238.ev rfl) ?_
        refine wp_exit ?_
        refine x_then_e ?_
        refine x_block_eq ?_
        refine x_then_n (hK41 _ _ ?_)
        refine c_region ?_
        refine mv hR238 (fun a239 hR240 => ?_)
        refine r_sub (z := (((t.length : Nat) : Int) - ((k : Nat) : Int) - 2)) sv hR240 rfl rfl rfl rfl (by decide) (by omega) (by omega) (by omega) (fun a241 hR242 => ?_)
        refine asg hR242 (fun a243 hR244 => ?_)
        refine wpList_nil ?_
        have hst := prS_on (t := t) (k := k) (n := (((prS t k).2.2) + (((bindsR (nth t ((t.length) - (k + 1)))).length : Nat) : Int) - 1)) (by omega) (by omega) (by omega)
        have he245 : (prS t k).1 = (prS t (k + 1)).1 := by rw [hst]
        have hS246 := hS204
        rw [he245] at hS246
        have hS247 := hS246.forget 4
        exact ⟨_, by omega, k + 1, (hR244.sub (rc rfl (rc rfl (rc rfl (rc (ri rfl (by simp only [hst])) (rc (ri rfl (by simp only [hst])) (rc (ri rfl (by omega)) rnl))))))), hS247, by omega, rfl⟩
      · skip
        have hR248 := hR236.setb (d := 38) (b := false) rfl (decide_eq_false h237)
        refine wp_cond_false (hR248.ev rfl) ?_
        refine wp_skip ?_
        refine x_then_n (hK216 _ _ ?_)
        refine wp_seq_k (fun K249 hK250 => ?_)
        refine wp_seq_k (fun K251 hK252 => ?_)
        refine cy_region ?_
        refine r_move (st_listInV rfl rfl) hR248 rfl rfl rfl (by decide) (fun a253 hR254 => ?_)
        refine r_move (st_listInV rfl rfl) hR254 rfl rfl rfl (by decide) (fun a255 hR256 => ?_)
        refine r_move (st_listInV rfl rfl) hR256 rfl rfl rfl (by decide) (fun a257 hR258 => ?_)
        have hS259 : St w0 (oldB w0) M0 w194 [] [dJ jf ((prS t k).1) C0 M0 w0.heap.size, dShapes, dRow 4 tA t.length tc (encNs t), dBox tg [.slice tA t.length tc], dRow 1 A198 ((bindsR (nth t ((t.length) - (k + 1)))).length) c199 (encIs (bindsR (nth t ((t.length) - (k + 1)))))] := hS204
        refine y_call (t := .tmp 39) (xs := [.tmp 40, .tmp 41]) (pre := (prS t k).1) (i := 0) (ds0 := [dShapes, dRow 4 tA t.length tc (encNs t), dBox tg [.slice tA t.length tc]]) hY rfl hR258 hS259 rfl rfl rfl rfl (by decide) ((((((t.length : Nat) : Int) - ((k : Nat) : Int) - 1), (((prS t k).2.1))) : Int × Int)) rfl rfl ((by have hst := prS_end (t := t) (k := k) (n := (((prS t k).2.2) + (((bindsR (nth t ((t.length) - (k + 1)))).length : Nat) : Int) - 1)) (i := ((t.length : Nat) : Int) - ((k : Nat) : Int) - 1) (by omega) (by omega) (by omega) (by omega); have hpp := prS_prfL (t := t) (k := k + 1) (by omega); rw [hst] at hpp; exact hpp)) hds (fun a260 w261 hR262 hS263 => ?_) (fun a260 w261 hR262 hS263 => ?_)
        · skip
          refine r_not (st_listInV rfl rfl) hR262 rfl rfl rfl (by decide) (fun a264 hR265 => ?_)
          refine li_nil ?_
          refine x_then_n (hK252 _ _ ?_)
          refine wp_cond_false (hR265.ev rfl) ?_
          refine wp_skip ?_
          refine x_then_n (hK250 _ _ ?_)
          refine c_region ?_
          refine asg hR265 (fun a266 hR267 => ?_)
          refine wpList_nil ?_
          refine x_block_n ?_
          refine x_then_n (hK41 _ _ ?_)
          refine c_region ?_
          refine mv hR267 (fun a268 hR269 => ?_)
          refine r_sub (z := (((t.length : Nat) : Int) - ((k : Nat) : Int) - 2)) sv hR269 rfl rfl rfl rfl (by decide) (by omega) (by omega) (by omega) (fun a270 hR271 => ?_)
          refine asg hR271 (fun a272 hR273 => ?_)
          refine wpList_nil ?_
          have hst := prS_end (t := t) (k := k) (n := (((prS t k).2.2) + (((bindsR (nth t ((t.length) - (k + 1)))).length : Nat) : Int) - 1)) (i := ((t.length : Nat) : Int) - ((k : Nat) : Int) - 1) (by omega) (by omega) (by omega) (by omega)
          have he274 : (prS t k).1 ++ [((((((t.length : Nat) : Int) - ((k : Nat) : Int) - 1), (((prS t k).2.1))) : Int × Int))] = (prS t (k + 1)).1 := by rw [hst]
          have hS275 := hS263
          rw [he274] at hS275
          exact ⟨_, by omega, k + 1, (hR273.sub (rc rfl (rc rfl (rc rfl (rc (ri rfl (by simp only [hst])) (rc (ri rfl (by simp only [hst])) (rc (ri rfl (by omega)) rnl))))))), hS275, by omega, rfl⟩
        · skip
          refine r_not (st_listInV rfl rfl) hR262 rfl rfl rfl (by decide) (fun a276 hR277 => ?_)
          refine li_nil ?_
          refine x_then_n (hK252 _ _ ?_)
          refine wp_cond_true (hR277.ev rfl) ?_
          refine wp_ret ?_
          refine x_then_r ?_
          refine x_block_r ?_
          refine x_then_r ?_
          refine x_then_r ?_
          refine x_block_r ?_
          refine x_scope_r ?_
          refine e_ret0 hR277 rfl rfl ?_
          exact it_stop hS263 (i := 0) rfl ((by have hst := prS_end (t := t) (k := k) (n := (((prS t k).2.2) + (((bindsR (nth t ((t.length) - (k + 1)))).length : Nat) : Int) - 1)) (i := ((t.length : Nat) : Int) - ((k : Nat) : Int) - 1) (by omega) (by omega) (by omega) (by omega); have hpp := prS_prfL (t := t) (k := k + 1) (by omega); rw [hst] at hpp; exact hpp))
  · skip
    have hR278 := hR37.setb (d := 12) (b := false) rfl (decide_eq_false h38)
    refine wp_cond_false (hR278.ev rfl) ?_
    refine wp_exit ?_
    refine x_then_e ?_
    refine x_then_e ?_
    refine x_block_eq ?_
    refine x_scope_n ?_
    refine e_end0 hR278 rfl rfl ?_
    exact it_all hS28 (i := 0) rfl ((by rw [show k = t.length by omega]; rfl))
end Go.Proofs.YtobgdeffhdefeaaDoor
/- Contracts of functions, one theorem each: what the call returns, and that nothing old is changed. Printed by gen.py. -/
namespace Go.Proofs.YtobgdeffhdefeaaDoor
open Go Go.RowKit
set_option linter.unusedSimpArgs false
set_option linter.unusedVariables false

set_option maxRecDepth 100000 in
set_option maxHeartbeats 1000000 in
theorem stripP_calls (w0 : World) (Z : Nat → Prop) (hZ : ∀ k, Z k → k < w0.heap.size) (n : Nd)  :
    Calls Tryd.prog 65 [.agg #[.int .i64 (n.K), .int .i64 (n.N), .int .i64 (n.M), .string n.S]].toArray w0 (fun e w' => e = .returned (.bool (decide (n.K = 28))) ∧ Fr none_ w0 w') := by
  have hstart : ∀ k, Z k → imm Z w0 [] w0 k ∧ w0.heap[k]? = w0.heap[k]? := fun k hk => ⟨⟨hZ k hk, fun _ => hk, fun _ h => by cases h⟩, rfl⟩
  have hS3 : St w0 Z none_ w0 [] [] := St.start w0 Z none_ _ (by
    intro d hd
    cases hd
    )
  refine c_enter Tryd.func65 rfl Tryd.ntmps65 rfl (fun a1 hR2 => ?_)
  refine wp_seq_k (fun K4 hK5 => ?_)
  refine c_region ?_
  refine m_box (cs := [.int .i64 (n.K), .int .i64 (n.N), .int .i64 (n.M), .string n.S]) sv hR2 hS3 rfl rfl rfl rfl (by decide) (fun a6 w7 g8 hR9 hS10 => ?_)
  refine asg hR9 (fun a11 hR12 => ?_)
  refine wpList_nil (x_then_n (hK5 _ _ ?_))
  refine wp_seq_k (fun K13 hK14 => ?_)
  refine c_region ?_
  refine m_field (j' := 0) sv hR12 rfl rfl rfl Tryd.underlying32 rfl sz3 rfl rfl (by decide) (fun a15 hR16 => ?_)
  refine m_load (i := 0) sv hR16 hS10 rfl rfl rfl rfl rfl Tryd.underlying3 rfl (by decide) (fun a17 hR18 => ?_)
  refine r_eql sv hR18 rfl rfl rfl rfl (by decide) (fun a19 hR20 => ?_)
  refine asg hR20 (fun a21 hR22 => ?_)
  refine wpList_nil (x_then_n (hK14 _ _ ?_))
  refine wp_ret ?_
  refine e_ret1 hR22 rfl rfl rfl ?_
  refine ⟨?_, hS10.fr⟩
  exact congrArg Ending.returned (ret_b (by first | rfl | omega | assumption | exact decide_eq_true (by assumption) | ( omega) | (simp []; done) | (simp [] at *; done) | (simp [] <;> omega) | (rw [Bool.eq_iff_iff]; simp [] <;> omega) | (rw [Bool.eq_iff_iff]; simp [] at * <;> omega)))

set_option maxRecDepth 100000 in
set_option maxHeartbeats 1000000 in
theorem indexN_calls (w0 : World) (Z : Nat → Prop) (hZ : ∀ k, Z k → k < w0.heap.size) (tA : Option Addr) (tc : Nat) (t : List Nd) (ht : (Res.row tA (t).length tc 32 4 (encNs t)).holds w0) (htz : ∀ k, rM tA k → ¬ Z k) (hl : t.length ≤ 1000000) :
    Calls Tryd.prog 105 [.slice tA t.length tc, .func (.func 65) #[] #[]].toArray w0 (fun e w' => e = .returned (.int .i64 (ixP t)) ∧ Fr (rM tA) w0 w' ∧ (Res.row tA (t).length tc 32 4 (encNs t)).holds w') := by
  have hstart : ∀ k, Z k → imm Z w0 [.row tA ((t).length) tc 32 4 (encNs t)] w0 k ∧ w0.heap[k]? = w0.heap[k]? := fun k hk => imm_startR hZ htz hk
  have hS3 : St w0 Z (rM tA) w0 [.row tA ((t).length) tc 32 4 (encNs t)] [] := St.startR w0 Z _ _ _ _ _ _ _ ht (by
    intro d hd
    cases hd
    )
  refine c_enter Tryd.func105 rfl Tryd.ntmps105 rfl (fun a1 hR2 => ?_)
  refine wp_seq_k (fun K4 hK5 => ?_)
  refine c_region ?_
  refine asg hR2 (fun a6 hR7 => ?_)
  refine wpList_nil (x_then_n (hK5 _ _ ?_))
  refine wp_seq_k (fun K8 hK9 => ?_)
  refine wp_seq_k (fun K10 hK11 => ?_)
  refine c_region ?_
  refine mv hR7 (fun a12 hR13 => ?_)
  refine r_len sv hR13 rfl rfl rfl rfl Tryd.underlying22 (by decide) (fun a14 hR15 => ?_)
  refine mv hR15 (fun a16 hR17 => ?_)
  refine wpList_nil (x_then_n (hK11 _ _ ?_))
  refine wp_block ?_
  refine wp_loop_ghost (fun gn ga gw => ∃ k : Nat, (Reg ga 19 [(1000000, .bool false), (0, .slice tA t.length tc), (1, .func (.func 65) #[] #[]), (7, .int .i64 ((t.length : Nat) : Int)), (8, .int .i64 ((k : Nat) : Int))]) ∧ (St w0 Z (rM tA) gw [.row tA ((t).length) tc 32 4 (encNs t)] []) ∧ (k ≤ t.length) ∧ (∀ i, i < k → (nth t i).K ≠ 28) ∧ (t.length - k) = gn) _ ⟨0, (hR17.sub (rc rfl (rc rfl (rc rfl (rc rfl (rc rfl rnl)))))), hS3, by omega, (fun _ h => by omega), rfl⟩ ?_
  rintro r18 a19 w20 ⟨k, hR21, hS22, hk, hi, hn23⟩
  refine wp_seq_k (fun K24 hK25 => ?_)
  refine c_region ?_
  refine r_lss sv hR21 rfl rfl rfl rfl (by decide) (fun a26 hR27 => ?_)
  refine wpList_nil (x_then_n (hK25 _ _ ?_))
  refine wp_seq_k (fun K28 hK29 => ?_)
  rcases Decidable.em (((k : Nat) : Int) < ((t.length : Nat) : Int)) with h30 | h30
  · skip
    have hR31 := hR27.setb (d := 9) (b := true) rfl (decide_eq_true h30)
    refine wp_cond_true (hR31.ev rfl) ?_
    refine wp_skip ?_
    refine x_then_n (hK29 _ _ ?_)
    refine wp_seq_k (fun K32 hK33 => ?_)
    refine wp_block ?_
    refine wp_seq_k (fun K34 hK35 => ?_)
    refine c_region ?_
    refine mv hR31 (fun a36 hR37 => ?_)
    refine asg hR37 (fun a38 hR39 => ?_)
    refine wpList_nil (x_then_n (hK35 _ _ ?_))
    refine wp_seq_k (fun K40 hK41 => ?_)
    refine c_region ?_
    refine mv hR39 (fun a42 hR43 => ?_)
    refine mv hR43 (fun a44 hR45 => ?_)
    refine mv hR45 (fun a46 hR47 => ?_)
    refine m_index (i := k) (j := k * 4) sv hR47 rfl rfl rfl rfl Tryd.underlying22 sz32 (by omega) (by omega) (own_nds (t := t) (k := k) (hS22.res (i := 0) rfl) (by omega)).some_ rfl (by decide) (fun a48 hR49 => ?_)
    refine m_loadEN sv hR49 rfl rfl rfl (own_nds (t := t) (k := k) (hS22.res (i := 0) rfl) (by omega)) Tryd.underlying32 rfl sz32 (by decide) (fun a50 hR51 => ?_)
    have hS52 : St w0 Z (rM tA) w20 [.row tA ((t).length) tc 32 4 (encNs t)] [] := hS22
    refine k_callV (xs := [.tmp 15]) se hR51 rfl rfl rfl rfl (by decide) ok65 (stripP_calls _ (imm Z w0 [.row tA ((t).length) tc 32 4 (encNs t)] _) (fun _ h => h.1) (nth t k)) ?_
    rintro e59 w54 ⟨rfl, hf57⟩
    have hS60 := hS52.below hf57.below
    refine ⟨_, rfl, fun a53 hR55 => ?_⟩
    refine wpList_nil (x_then_n (hK41 _ _ ?_))
    rcases Bool.eq_false_or_eq_true (decide ((nth t k).K = 28)) with h61 | h61
    · skip
      have h62 := of_decide_eq_true h61
      have hR63 := hR55.setb (d := 16) (b := true) rfl h61
      refine wp_cond_true (hR63.ev rfl) ?_
      refine wp_seq_k (fun K64 hK65 => ?_)
      refine c_region ?_
      refine mv hR63 (fun a66 hR67 => ?_)
      refine asg hR67 (fun a68 hR69 => ?_)
      refine wpList_nil (x_then_n (hK65 _ _ ?_))
      refine wp_ret ?_
      refine x_block_r ?_
      refine x_then_r ?_
      refine x_then_r ?_
      refine x_block_r ?_
      refine x_then_r ?_
      refine e_ret1 hR69 rfl rfl rfl ?_
      refine ⟨?_, hS60.fr, hS60.res (i := 0) rfl⟩
      exact congrArg Ending.returned (ret_i (by first | exact (ixP_here (k := k) (by omega) hi (by omega)).symm | exact (ixP_none (fun i h => hi i (by omega))).symm))
    · skip
      have h70 := of_decide_eq_false h61
      have hR71 := hR55.setb (d := 16) (b := false) rfl h61
      refine wp_cond_false (hR71.ev rfl) ?_
      refine wp_skip ?_
      refine x_block_n ?_
      refine x_then_n (hK33 _ _ ?_)
      refine c_region ?_
      refine r_add (z := ((k + 1 : Nat) : Int)) sv hR71 rfl rfl rfl rfl (by decide) (by omega) (by omega) (by omega) (fun a72 hR73 => ?_)
      refine mv hR73 (fun a74 hR75 => ?_)
      refine wpList_nil ?_
      exact ⟨_, by omega, k + 1, (hR75.sub (rc rfl (rc rfl (rc rfl (rc rfl (rc rfl rnl)))))), hS60, by omega, (fun i h => by rcases Nat.lt_or_eq_of_le (Nat.le_of_lt_succ h) with h' | h'; exact hi i h'; subst h'; omega), rfl⟩
  · skip
    have hR76 := hR27.setb (d := 9) (b := false) rfl (decide_eq_false h30)
    refine wp_cond_false (hR76.ev rfl) ?_
    refine wp_exit ?_
    refine x_then_e ?_
    refine x_then_e ?_
    refine x_block_eq ?_
    refine x_then_n (hK9 _ _ ?_)
    refine wp_seq_k (fun K77 hK78 => ?_)
    refine c_region ?_
    refine asg hR76 (fun a79 hR80 => ?_)
    refine wpList_nil (x_then_n (hK78 _ _ ?_))
    refine wp_ret ?_
    refine e_ret1 hR80 rfl rfl rfl ?_
    refine ⟨?_, hS22.fr, hS22.res (i := 0) rfl⟩
    exact congrArg Ending.returned (ret_i (by first | exact (ixP_here (k := k) (by omega) hi (by omega)).symm | exact (ixP_none (fun i h => hi i (by omega))).symm))

set_option maxRecDepth 100000 in
set_option maxHeartbeats 1000000 in
theorem delete_calls (w0 : World) (Z : Nat → Prop) (hZ : ∀ k, Z k → k < w0.heap.size) (tA : Option Addr) (tc : Nat) (t : List Nd) (ht : (Res.row tA (t).length tc 32 4 (encNs t)).holds w0) (htz : ∀ k, rM tA k → ¬ Z k) (hl : t.length ≤ 1000000) :
    Calls Tryd.prog 64 [.slice tA t.length tc, .func (.func 65) #[] #[]].toArray w0 (fun e w' => e = .returned (.slice tA (t.filter nPrf).length tc) ∧ Fr (rM tA) w0 w' ∧ (Res.row tA (t.filter nPrf).length tc 32 4 (encNs (t.filter nPrf))).holds w') := by
  have hstart : ∀ k, Z k → imm Z w0 [.row tA ((t).length) tc 32 4 (encNs t)] w0 k ∧ w0.heap[k]? = w0.heap[k]? := fun k hk => imm_startR hZ htz hk
  have hS3 : St w0 Z (rM tA) w0 [.row tA ((t).length) tc 32 4 (encNs t)] [] := St.startR w0 Z _ _ _ _ _ _ _ ht (by
    intro d hd
    cases hd
    )
  refine c_enter Tryd.func64 rfl Tryd.ntmps64 rfl (fun a1 hR2 => ?_)
  refine wp_seq_k (fun K4 hK5 => ?_)
  refine c_region ?_
  refine asg hR2 (fun a6 hR7 => ?_)
  refine wpList_nil (x_then_n (hK5 _ _ ?_))
  refine wp_seq_k (fun K8 hK9 => ?_)
  refine c_region ?_
  refine mv hR7 (fun a10 hR11 => ?_)
  refine mv hR11 (fun a12 hR13 => ?_)
  have hS14 : St w0 Z (rM tA) w0 [.row tA ((t).length) tc 32 4 (encNs t)] [] := hS3
  refine k_call (xs := [.tmp 8, .tmp 9]) se hR13 rfl rfl rfl (by decide) ok105 (indexN_calls _ (imm Z w0 [.row tA ((t).length) tc 32 4 (encNs t)] _) (fun _ h => h.1) tA tc t (hS14.res (i := 0) rfl) (imm_row (i := 0) rfl) (by first | assumption | omega | (simp; done) | (simp; omega))) ?_
  rintro e21 w16 ⟨rfl, hf19, hb20⟩
  have hS22 := hS14.callR (i := 0) rfl hf19 hb20
  refine ⟨_, rfl, fun a15 hR17 => ?_⟩
  refine asg hR17 (fun a23 hR24 => ?_)
  refine wpList_nil (x_then_n (hK9 _ _ ?_))
  refine wp_seq_k (fun K25 hK26 => ?_)
  refine wp_seq_k (fun K27 hK28 => ?_)
  refine c_region ?_
  refine mv hR24 (fun a29 hR30 => ?_)
  refine r_eql sv hR30 rfl rfl rfl rfl (by decide) (fun a31 hR32 => ?_)
  refine wpList_nil (x_then_n (hK28 _ _ ?_))
  rcases Decidable.em (((ixP t)) = (-1)) with h33 | h33
  · skip
    have hxa := ixP_all h33
    have hR34 := hR32.setb (d := 12) (b := true) rfl (decide_eq_true h33)
    refine wp_cond_true (hR34.ev rfl) ?_
    refine wp_seq_k (fun K35 hK36 => ?_)
    refine c_region ?_
    refine mv hR34 (fun a37 hR38 => ?_)
    refine asg hR38 (fun a39 hR40 => ?_)
    refine wpList_nil (x_then_n (hK36 _ _ ?_))
    refine wp_ret ?_
    refine x_then_r ?_
    refine e_ret1 hR40 rfl rfl rfl ?_
    have he41 : t = t.filter nPrf := hxa.symm
    have hS42 := hS22
    rw [he41] at hS42
    refine ⟨?_, hS42.fr, hS42.res (i := 0) rfl⟩
    exact congrArg Ending.returned (ret_s (by first | rfl | (exact congrArg List.length he41; done) | (rw [← he41]; simp; done) | (rw [← he41]; simp; omega) | omega))
  · skip
    obtain ⟨hx0, hx1, hx2⟩ := ixP_pos h33
    have hR43 := hR32.setb (d := 12) (b := false) rfl (decide_eq_false h33)
    refine wp_cond_false (hR43.ev rfl) ?_
    refine wp_skip ?_
    refine x_then_n (hK26 _ _ ?_)
    refine wp_seq_k (fun K44 hK45 => ?_)
    refine wp_seq_k (fun K46 hK47 => ?_)
    refine c_region ?_
    refine mv hR43 (fun a48 hR49 => ?_)
    refine r_add (z := ((ixP t) + 1)) sv hR49 rfl rfl rfl rfl (by decide) (by omega) (by omega) (by omega) (fun a50 hR51 => ?_)
    refine asg hR51 (fun a52 hR53 => ?_)
    refine wpList_nil (x_then_n (hK47 _ _ ?_))
    refine wp_block ?_
    refine wp_loop_ghost (fun gn ga gw => ∃ i : Nat, ∃ j : Nat, ∃ R : List Nd, (Reg ga 42 [(1000000, .bool false), (0, .slice tA t.length tc), (1, .func (.func 65) #[] #[]), (4, .slice none 0 0), (5, .int .i64 ((i : Nat) : Int)), (6, .int .i64 ((j : Nat) : Int))]) ∧ (St w0 Z (rM tA) gw [.row tA ((R).length) tc 32 4 (encNs R)] []) ∧ (i < j) ∧ (j ≤ t.length) ∧ (R.length = t.length) ∧ (R.take i = (t.take j).filter nPrf) ∧ (R.drop j = t.drop j) ∧ (t.length - j) = gn) _ ⟨(ixP t).toNat, (ixP t).toNat + 1, t, (hR53.sub (rc rfl (rc rfl (rc rfl (rc rfl (rc (ri rfl (by omega)) (rc (ri rfl (by omega)) rnl))))))), hS22, by omega, by omega, rfl, hx2, rfl, rfl⟩ ?_
    rintro r54 a55 w56 ⟨i, j, R, hR57, hS58, hij, hj, h1, h2, h3, hn59⟩
    refine wp_seq_k (fun K60 hK61 => ?_)
    refine wp_seq_k (fun K62 hK63 => ?_)
    refine c_region ?_
    refine mv hR57 (fun a64 hR65 => ?_)
    refine mv hR65 (fun a66 hR67 => ?_)
    refine r_len sv hR67 rfl rfl rfl rfl Tryd.underlying22 (by decide) (fun a68 hR69 => ?_)
    refine r_lss sv hR69 rfl rfl rfl rfl (by decide) (fun a70 hR71 => ?_)
    refine wpList_nil (x_then_n (hK63 _ _ ?_))
    rcases Decidable.em (((j : Nat) : Int) < ((t.length : Nat) : Int)) with h72 | h72
    · skip
      have hR73 := hR71.setb (d := 19) (b := true) rfl (decide_eq_true h72)
      refine wp_cond_true (hR73.ev rfl) ?_
      refine wp_skip ?_
      refine x_then_n (hK61 _ _ ?_)
      refine wp_seq_k (fun K74 hK75 => ?_)
      refine wp_block ?_
      refine wp_seq_k (fun K76 hK77 => ?_)
      refine c_region ?_
      refine mv hR73 (fun a78 hR79 => ?_)
      refine mv hR79 (fun a80 hR81 => ?_)
      refine m_index (i := j) (j := j * 4) sv hR81 rfl rfl rfl rfl Tryd.underlying22 sz32 (by omega) (by omega) (own_nds (t := R) (k := j) (hS58.res (i := 0) rfl) (by omega)).some_ rfl (by decide) (fun a82 hR83 => ?_)
      refine m_loadEN sv hR83 rfl rfl rfl (own_nds (t := R) (k := j) (hS58.res (i := 0) rfl) (by omega)) Tryd.underlying32 rfl sz32 (by decide) (fun a84 hR85 => ?_)
      refine m_alloc (cs := [.int .i64 0, .int .i64 0, .int .i64 0, .string (⟨#[]⟩ : ByteArray)]) sv hR85 hS58 rfl rfl ze32 rfl (by decide) (fun a86 w87 g88 hR89 hS90 => ?_)
      refine m_store (i := 1) (cs' := [.int .i64 (((nth R j).K)), .int .i64 (((nth R j).N)), .int .i64 (((nth R j).M)), .string ((nth R j).S)]) se hR89 hS90 rfl rfl rfl rfl rfl sz32 rfl rfl rfl (fun a91 w92 hR93 hS94 => ?_)
      refine wpList_nil (x_then_n (hK77 _ _ ?_))
      refine wp_seq_k (fun K95 hK96 => ?_)
      refine c_region ?_
      refine mv hR93 (fun a97 hR98 => ?_)
      refine m_loadN (i := 1) (vs := [.int .i64 (((nth R j).K)), .int .i64 (((nth R j).N)), .int .i64 (((nth R j).M)), .string ((nth R j).S)]) sv hR98 hS94 rfl rfl rfl rfl rfl Tryd.underlying32 rfl sz32 (by decide) (fun a99 hR100 => ?_)
      have hS101 : St w0 Z (rM tA) w92 [.row tA ((R).length) tc 32 4 (encNs R), .box g88 32 [.int .i64 (((nth R j).K)), .int .i64 (((nth R j).N)), .int .i64 (((nth R j).M)), .string ((nth R j).S)]] [] := hS94
      refine k_callV (xs := [.tmp 27]) se hR100 rfl rfl rfl rfl (by decide) ok65 (stripP_calls _ (imm Z w0 [.row tA ((R).length) tc 32 4 (encNs R), .box g88 32 [.int .i64 (((nth R j).K)), .int .i64 (((nth R j).N)), .int .i64 (((nth R j).M)), .string ((nth R j).S)]] _) (fun _ h => h.1) (nth R j)) ?_
      rintro e108 w103 ⟨rfl, hf106⟩
      have hS109 := hS101.below hf106.below
      refine ⟨_, rfl, fun a102 hR104 => ?_⟩
      refine r_not sv hR104 rfl rfl rfl (by decide) (fun a110 hR111 => ?_)
      refine wpList_nil (x_then_n (hK96 _ _ ?_))
      rcases Bool.eq_false_or_eq_true (decide ((nth R j).K = 28)) with h112 | h112
      · skip
        have h113 := of_decide_eq_true h112
        have hR114 := hR111.setb (d := 29) (b := false) rfl (by rw [h112]; rfl)
        refine wp_cond_false (hR114.ev rfl) ?_
        refine wp_skip ?_
        refine x_block_n ?_
        refine x_then_n (hK75 _ _ ?_)
        refine c_region ?_
        refine mv hR114 (fun a115 hR116 => ?_)
        refine r_add (z := ((j + 1 : Nat) : Int)) sv hR116 rfl rfl rfl rfl (by decide) (by omega) (by omega) (by omega) (fun a117 hR118 => ?_)
        refine asg hR118 (fun a119 hR120 => ?_)
        refine wpList_nil ?_
        obtain ⟨hq2, hq3⟩ := del_drop h1 h2 h3 (by omega) (by omega)
        have hS121 := hS109.erase 1
        exact ⟨_, by omega, i, j + 1, R, (hR120.sub (rc rfl (rc rfl (rc rfl (rc rfl (rc rfl (rc rfl rnl))))))), hS121, by omega, by omega, h1, hq2, hq3, rfl⟩
      · skip
        have h122 := of_decide_eq_false h112
        have hR123 := hR111.setb (d := 29) (b := true) rfl (by rw [h112]; rfl)
        refine wp_cond_true (hR123.ev rfl) ?_
        refine wp_seq_k (fun K124 hK125 => ?_)
        refine c_region ?_
        refine mv hR123 (fun a126 hR127 => ?_)
        refine mv hR127 (fun a128 hR129 => ?_)
        refine m_loadN (i := 1) (vs := [.int .i64 (((nth R j).K)), .int .i64 (((nth R j).N)), .int .i64 (((nth R j).M)), .string ((nth R j).S)]) sv hR129 hS109 rfl rfl rfl rfl rfl Tryd.underlying32 rfl sz32 (by decide) (fun a130 hR131 => ?_)
        refine m_index (i := i) (j := i * 4) sv hR131 rfl rfl rfl rfl Tryd.underlying22 sz32 (by omega) (by omega) (own_nds (t := R) (k := i) (hS109.res (i := 0) rfl) (by omega)).some_ rfl (by decide) (fun a132 hR133 => ?_)
        refine m_storeE (f := encN) (i := 0) (k := i) (L := R) (z := (nth R j)) se hR133 hS109 rfl rfl rfl rfl rfl rfl (by omega) encN_len (one1 (f := encN) encN_one) rfl sz32 (fun a134 w135 hR136 hS137 => ?_)
        have hl138 : (R.set (i) (nth R j)).length = (R).length := by simp
        refine wpList_nil (x_then_n (hK125 _ _ (c_region ?_)))
        refine mv hR136 (fun a139 hR140 => ?_)
        refine r_add (z := ((i + 1 : Nat) : Int)) sv hR140 rfl rfl rfl rfl (by decide) (by omega) (by omega) (by omega) (fun a141 hR142 => ?_)
        refine asg hR142 (fun a143 hR144 => ?_)
        refine wpList_nil ?_
        refine x_block_n ?_
        refine x_then_n (hK75 _ _ ?_)
        refine c_region ?_
        refine mv hR144 (fun a145 hR146 => ?_)
        refine r_add (z := ((j + 1 : Nat) : Int)) sv hR146 rfl rfl rfl rfl (by decide) (by omega) (by omega) (by omega) (fun a147 hR148 => ?_)
        refine asg hR148 (fun a149 hR150 => ?_)
        refine wpList_nil ?_
        obtain ⟨hq2, hq3⟩ := del_keep h1 h2 h3 hij (by omega) (by omega)
        have hS151 := hS137.erase 1
        exact ⟨_, by omega, i + 1, j + 1, _, (hR150.sub (rc rfl (rc rfl (rc rfl (rc rfl (rc rfl (rc rfl rnl))))))), hS151, by omega, by omega, by simpa using h1, hq2, hq3, rfl⟩
    · skip
      have hR152 := hR71.setb (d := 19) (b := false) rfl (decide_eq_false h72)
      refine wp_cond_false (hR152.ev rfl) ?_
      refine wp_exit ?_
      refine x_then_e ?_
      refine x_then_e ?_
      refine x_block_eq ?_
      refine x_then_n (hK45 _ _ ?_)
      refine wp_seq_k (fun K153 hK154 => ?_)
      refine c_region ?_
      refine mv hR152 (fun a155 hR156 => ?_)
      refine mv hR156 (fun a157 hR158 => ?_)
      have hcap165 := own_cap (hS58.res (i := 0) rfl)
      refine m_sliceV (lo := some (.tmp 37)) (hi := none) (vlo := (some (.int .i64 ((i : Nat) : Int)))) (vhi := none) (kd := .i64) (kd' := .i64) sv hR158 rfl rfl rfl rfl rfl (i) ((t.length) - (i)) (.inl (by first | rfl | (congr 2; omega))) (.inr ⟨rfl, by omega⟩) Tryd.underlying22 sz32 (by omega) (by decide) (fun a159 A161 c162 hc163 hv164 hR160 => ?_)
      refine m_clear (f := encN) (i := 0) (L := R) (k := i) (z0 := (⟨0, 0, 0, (⟨#[]⟩ : ByteArray)⟩ : Nd)) sv hR160 hS58 rfl rfl rfl rfl hv164 (by omega) Tryd.underlying22 zi32 encN_len (one1 (f := encN) encN_one) rfl _ rfl (fun a166 w167 hR168 hS169 => ?_)
      have hl170 : (R.take (i) ++ List.replicate ((t.length) - (i)) (⟨0, 0, 0, (⟨#[]⟩ : ByteArray)⟩ : Nd) ++ R.drop (i + ((t.length) - (i))) : List Nd).length = (R).length := by simp only [List.length_append, List.length_take, List.length_drop, List.length_replicate]; omega
      refine wpList_nil (x_then_n (hK154 _ _ ?_))
      refine wp_seq_k (fun K171 hK172 => ?_)
      refine c_region ?_
      refine mv hR168 (fun a173 hR174 => ?_)
      refine mv hR174 (fun a175 hR176 => ?_)
      have hcap179 := own_cap (hS169.res (i := 0) rfl)
      refine m_sliceP (q := i) sv hR176 rfl rfl rfl rfl (by omega) Tryd.underlying22 sz32 (by omega) (by decide) (fun a180 hR181 => ?_)
      refine asg hR181 (fun a182 hR183 => ?_)
      refine wpList_nil (x_then_n (hK172 _ _ ?_))
      refine wp_ret ?_
      refine e_ret1 hR183 rfl rfl rfl ?_
      have hS184 := hS169.trim encN_len (i := 0) (L := (R.take (i) ++ List.replicate ((t.length) - (i)) (⟨0, 0, 0, (⟨#[]⟩ : ByteArray)⟩ : Nd) ++ R.drop (i + ((t.length) - (i))))) rfl (i) (by omega)
      have he185 : (R.take (i) ++ List.replicate ((t.length) - (i)) (⟨0, 0, 0, (⟨#[]⟩ : ByteArray)⟩ : Nd) ++ R.drop (i + ((t.length) - (i)))).take (i) = t.filter nPrf := by rw [show j = t.length by omega, List.take_length] at h2; rw [← h2, List.append_assoc, List.take_append_of_le_length (by rw [List.length_take]; omega), List.take_take, Nat.min_self]
      have hS186 := hS184
      rw [he185] at hS186
      refine ⟨?_, hS186.fr, hS186.res (i := 0) rfl⟩
      exact congrArg Ending.returned (ret_s (by first | rfl | (exact congrArg List.length he185; done) | (rw [← he185]; simp; done) | (rw [← he185]; simp; omega) | omega))

set_option maxRecDepth 100000 in
set_option maxHeartbeats 1000000 in
theorem strip_calls (w0 : World) (Z : Nat → Prop) (hZ : ∀ k, Z k → k < w0.heap.size) (tA : Option Addr) (tc : Nat) (t : List Nd) (hShp : Shapes w0 Z) (ht : (dRow 4 tA t.length tc (encNs t)).φ w0 Z) (hsm : sml t) (hl : t.length ≤ 1000000) :
    Calls Tryd.prog 41 [.slice tA t.length tc].toArray w0 (fun e w' => ∃ (rA0 : Option Addr) (rc0 : Nat), e = .returned (.tuple #[.slice rA0 (stA t).length rc0, .int .i64 (chk t)]) ∧ Fr none_ w0 w' ∧ (dRow 4 rA0 ((stA t).length) rc0 (encNs (stA t))).φ w' (nxt Z w0 w')) := by
  have hstart : ∀ k, Z k → imm Z w0 [] w0 k ∧ w0.heap[k]? = w0.heap[k]? := fun k hk => ⟨⟨hZ k hk, fun _ => hk, fun _ h => by cases h⟩, rfl⟩
  have hS3 : St w0 Z none_ w0 [] [dShapes, dRow 4 tA t.length tc (encNs t)] := St.start w0 Z none_ _ (by
    intro d hd
    simp only [List.mem_cons, List.not_mem_nil, or_false] at hd
    rcases hd with rfl | rfl
    · exact Dat.mono _ _ _ _ _ (Nat.le_refl _) hShp hstart
    · exact Dat.mono _ _ _ _ _ (Nat.le_refl _) ht hstart
    )
  refine c_enter Tryd.func41 rfl Tryd.ntmps41 rfl (fun a1 hR2 => ?_)
  refine wp_seq_k (fun K4 hK5 => ?_)
  refine c_region ?_
  refine asg hR2 (fun a6 hR7 => ?_)
  refine asg hR7 (fun a8 hR9 => ?_)
  refine wpList_nil (x_then_n (hK5 _ _ ?_))
  refine wp_seq_k (fun K10 hK11 => ?_)
  refine wp_seq_k (fun K12 hK13 => ?_)
  refine c_region ?_
  refine mv hR9 (fun a14 hR15 => ?_)
  have hS16 : St w0 Z none_ w0 [] [dShapes, dRow 4 tA t.length tc (encNs t)] := hS3
  refine k_call (xs := [.tmp 5]) se hR15 rfl rfl rfl (by decide) ok44 (check_calls _ (imm Z w0 [] _) (fun _ h => h.1) tA tc t (hS16.get (i := 0) rfl) (hS16.get (i := 1) rfl) (by first | assumption | omega | (simp; done) | (simp; omega)) (by first | assumption | omega | (simp; done) | (simp; omega))) ?_
  rintro e23 w18 ⟨rfl, hf21⟩
  have hS24 := hS16.below hf21.below
  refine ⟨_, rfl, fun a17 hR19 => ?_⟩
  refine asg hR19 (fun a25 hR26 => ?_)
  refine wpList_nil (x_then_n (hK13 _ _ ?_))
  refine wp_seq_k (fun K27 hK28 => ?_)
  refine c_region ?_
  refine mv hR26 (fun a29 hR30 => ?_)
  refine r_neq sv hR30 rfl rfl rfl rfl (by decide) (fun a31 hR32 => ?_)
  refine wpList_nil (x_then_n (hK28 _ _ ?_))
  rcases Decidable.em (((chk t)) = 0) with h33 | h33
  · skip
    have hR34 := hR32.setb (d := 8) (b := false) rfl (by rw [(decide_eq_true h33)]; rfl)
    refine wp_cond_false (hR34.ev rfl) ?_
    refine wp_skip ?_
    refine x_then_n (hK11 _ _ ?_)
    refine wp_seq_k (fun K35 hK36 => ?_)
    refine c_region ?_
    refine mv hR34 (fun a37 hR38 => ?_)
    have hS39 : St w0 Z none_ w18 [] [dShapes, dRow 4 tA t.length tc (encNs t)] := hS24
    refine k_call (xs := [.tmp 10]) se hR38 rfl rfl rfl (by decide) ok51 (cloneN_calls _ (imm Z w0 [] _) (fun _ h => h.1) tA tc t (hS39.get (i := 1) rfl) (by first | assumption | omega | (simp; done) | (simp; omega))) ?_
    rintro e50 w41 ⟨A45, c46, rfl, hf44, hd47, hf48⟩
    have hS51 := hS39.callO hf44 hd47 hf48
    refine ⟨_, rfl, fun a40 hR42 => ?_⟩
    have hS52 : St w0 Z none_ w41 [.row A45 t.length c46 32 4 (encNs t)] [dShapes, dRow 4 tA t.length tc (encNs t)] := hS51
    refine k_call (xs := [.tmp 11, .func 65]) se hR42 rfl rfl rfl (by decide) ok64 (delete_calls _ (imm Z w0 [.row A45 t.length c46 32 4 (encNs t)] _) (fun _ h => h.1) A45 c46 t (hS52.res (i := 0) rfl) (imm_row (i := 0) rfl) (by first | assumption | omega | (simp; done) | (simp; omega))) ?_
    rintro e59 w54 ⟨rfl, hf57, hb58⟩
    have hS60 := hS52.callR (i := 0) rfl hf57 hb58
    refine ⟨_, rfl, fun a53 hR55 => ?_⟩
    refine asg hR55 (fun a61 hR62 => ?_)
    refine asg hR62 (fun a63 hR64 => ?_)
    refine wpList_nil (x_then_n (hK36 _ _ ?_))
    refine wp_ret ?_
    refine e_ret2 hR64 rfl rfl rfl rfl ?_
    have he65 : stA t = t.filter nPrf := stA_ok (by assumption)
    rw [he65]
    have hc69 := own_cap (hS60.res (i := 0) rfl)
    obtain ⟨hS66, hrow67⟩ := hS60.row_data (i := 0) rfl (fun _ h => h)
    have hS68 := hS66.data (dRow 4 A45 ((t.filter nPrf).length) c46 (encNs (t.filter nPrf))) ⟨hc69, hrow67⟩
    refine ⟨A45, c46, ?_, hS68.fr, ⟨by have := (hS68.row (i := 2) rfl).1; exact this, ((hS68.row (i := 2) rfl).2.mono (fun _ hk => ⟨imm_nxt hk, rfl⟩))⟩⟩
    exact ret_t2 rfl (ret_i (by first | rfl | omega | assumption | exact decide_eq_true (by assumption) | (have q0 := h33; (try simp at q0);  omega) | (simp [h33]; done) | (simp [] at *; done) | (simp [h33] <;> omega) | (rw [Bool.eq_iff_iff]; simp [h33] <;> omega) | (rw [Bool.eq_iff_iff]; simp [h33] at * <;> omega)))
  · skip
    have hR70 := hR32.setb (d := 8) (b := true) rfl (by rw [(decide_eq_false h33)]; rfl)
    refine wp_cond_true (hR70.ev rfl) ?_
    refine wp_seq_k (fun K71 hK72 => ?_)
    refine c_region ?_
    refine mv hR70 (fun a73 hR74 => ?_)
    refine asg hR74 (fun a75 hR76 => ?_)
    refine asg hR76 (fun a77 hR78 => ?_)
    refine wpList_nil (x_then_n (hK72 _ _ ?_))
    refine wp_ret ?_
    refine x_then_r ?_
    refine e_ret2 hR78 rfl rfl rfl rfl ?_
    have he79 : stA t = [] := stA_no (by assumption)
    rw [he79]
    refine ⟨none, 0, ?_, hS24.fr, ⟨Nat.le_refl _, RowI.nil _ _ _ _⟩⟩
    exact ret_t2 rfl (ret_i (by first | rfl | omega | assumption | exact decide_eq_true (by assumption) | (have q0 := h33; (try simp at q0);  omega) | (simp [h33]; done) | (simp [] at *; done) | (simp [h33] <;> omega) | (rw [Bool.eq_iff_iff]; simp [h33] <;> omega) | (rw [Bool.eq_iff_iff]; simp [h33] at * <;> omega)))
end Go.Proofs.YtobgdeffhdefeaaDoor
