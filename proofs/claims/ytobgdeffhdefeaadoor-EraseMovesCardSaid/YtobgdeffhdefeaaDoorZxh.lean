import Derived.Test.YtobgdeffhdefeaaDoorZxg
import Derived.Test.YtobgdeffhdefeaaDoorCards
import Derived.Test.YtobgdeffhdefeaaDoorTie
import Derived.ProofKit
import Derived.OpenShut
import Derived.ReadAgain
import Derived.Deep.DeepHandedRow
import Derived.Deep.Slices
import Derived.Lib.LaidTab
import Derived.Deep.DeepWitnessRowRef
/- Contracts of functions, one theorem each: what the call returns, and that nothing old is changed. Printed by gen.py. -/
namespace Go.Proofs.YtobgdeffhdefeaaDoor
open Go Go.RowKit
set_option linter.unusedSimpArgs false
set_option linter.unusedVariables false

set_option maxRecDepth 100000 in
set_option maxHeartbeats 1000000 in
theorem rcount_calls_rec (rn : Nat) : ∀ (w0 : World) (Z : Nat → Prop) (hZ : ∀ k, Z k → k < w0.heap.size) (tA : Option Addr) (tc : Nat) (t : List Nd) (k : Int) (u : Int) (ht : (dRow 4 tA t.length tc (encNs t)).φ w0 Z) (hl : t.length ≤ 1000000) (hsm : sml t) (hb : measB t = true) (hu0 : 0 ≤ u) (hub : u + 2 * t.length ≤ 10000000) (hrn : t.length = rn),
    Calls Tryd.prog 48 [.slice tA t.length tc, .int .i64 k, .int .i64 u].toArray w0 (fun e w' => e = .returned (.tuple #[.int .i64 ((usL t k u : Nat) : Int), .int .i64 (moL t k u)]) ∧ Fr none_ w0 w') := by
  induction rn using Nat.strongRecOn
  rename_i rn ih
  intro w0 Z hZ tA tc t k u ht hl hsm hb hu0 hub hrn
  have hstart : ∀ k, Z k → imm Z w0 [] w0 k ∧ w0.heap[k]? = w0.heap[k]? := fun k hk => ⟨⟨hZ k hk, fun _ => hk, fun _ h => by cases h⟩, rfl⟩
  have hS3 : St w0 Z none_ w0 [] [dRow 4 tA t.length tc (encNs t)] := St.start w0 Z none_ _ (by
    intro d hd
    simp only [List.mem_cons, List.not_mem_nil, or_false] at hd
    rcases hd with rfl
    · exact Dat.mono _ _ _ _ _ (Nat.le_refl _) ht hstart
    )
  have hp0 := meas_pos hb
  have hrt := right_at hb (show t.length - 1 < t.length by omega)
  have hbl := bindL_right hrt
  have hbm := bindL_many hrt
  have hpm := ptL_length hb
  refine c_enter Tryd.func48 rfl Tryd.ntmps48 rfl (fun a1 hR2 => ?_)
  refine wp_seq_k (fun K4 hK5 => ?_)
  refine c_region ?_
  refine asg hR2 (fun a6 hR7 => ?_)
  refine asg hR7 (fun a8 hR9 => ?_)
  refine wpList_nil (x_then_n (hK5 _ _ ?_))
  refine wp_seq_k (fun K10 hK11 => ?_)
  refine c_region ?_
  refine mv hR9 (fun a12 hR13 => ?_)
  have hS14 : St w0 Z none_ w0 [] [dRow 4 tA t.length tc (encNs t)] := hS3
  refine k_call (xs := [.tmp 18]) se hR13 rfl rfl rfl (by decide) ok23 (rroot_calls _ (imm Z w0 [] _) (fun _ h => h.1) tA tc t (hS14.get (i := 0) rfl) (by first | assumption | omega | (simp; done) | (simp; omega)) (by first | assumption | omega | (simp; done) | (simp; omega))) ?_
  rintro e21 w16 ⟨rfl, hf19⟩
  have hS22 := hS14.below hf19.below
  refine ⟨_, rfl, fun a15 hR17 => ?_⟩
  refine m_alloc (cs := [.int .i64 0, .int .i64 0, .int .i64 0, .string (⟨#[]⟩ : ByteArray)]) sv hR17 hS22 rfl rfl ze32 rfl (by decide) (fun a23 w24 g25 hR26 hS27 => ?_)
  refine m_store (i := 0) (cs' := [.int .i64 (((nth t (t.length - 1)).K)), .int .i64 (((nth t (t.length - 1)).N)), .int .i64 (((nth t (t.length - 1)).M)), .string ((nth t (t.length - 1)).S)]) se hR26 hS27 rfl rfl rfl rfl rfl sz32 rfl rfl rfl (fun a28 w29 hR30 hS31 => ?_)
  refine wpList_nil (x_then_n (hK11 _ _ ?_))
  refine wp_seq_k (fun K32 hK33 => ?_)
  refine wp_seq_k (fun K34 hK35 => ?_)
  refine c_region ?_
  refine m_field (j' := 0) sv hR30 rfl rfl rfl Tryd.underlying32 rfl sz3 rfl rfl (by decide) (fun a36 hR37 => ?_)
  refine m_load (i := 0) sv hR37 hS31 rfl rfl rfl rfl rfl Tryd.underlying3 rfl (by decide) (fun a38 hR39 => ?_)
  refine r_eql sv hR39 rfl rfl rfl rfl (by decide) (fun a40 hR41 => ?_)
  refine wpList_nil (x_then_n (hK35 _ _ ?_))
  rcases Decidable.em ((((nth t (t.length - 1)).K)) = 0) with h42 | h42
  · skip
    obtain ⟨hN0, hN1⟩ := var_at hb (by omega)
    have hR43 := hR41.setb (d := 22) (b := true) rfl (decide_eq_true h42)
    refine wp_cond_true (hR43.ev rfl) ?_
    refine wp_seq_k (fun K44 hK45 => ?_)
    refine c_region ?_
    refine m_field (j' := 1) sv hR43 rfl rfl rfl Tryd.underlying32 rfl sz3 rfl rfl (by decide) (fun a46 hR47 => ?_)
    refine m_load (i := 0) sv hR47 hS31 rfl rfl rfl rfl rfl Tryd.underlying3 rfl (by decide) (fun a48 hR49 => ?_)
    refine mv hR49 (fun a50 hR51 => ?_)
    refine r_sub (z := (((nth t (t.length - 1)).N) - u)) sv hR51 rfl rfl rfl rfl (by decide) (by omega) (by omega) (by omega) (fun a52 hR53 => ?_)
    refine asg hR53 (fun a54 hR55 => ?_)
    refine wpList_nil (x_then_n (hK45 _ _ ?_))
    refine wp_seq_k (fun K56 hK57 => ?_)
    refine wp_seq_k (fun K58 hK59 => ?_)
    refine c_region ?_
    refine mv hR55 (fun a60 hR61 => ?_)
    refine r_geq sv hR61 rfl rfl rfl rfl (by decide) (fun a62 hR63 => ?_)
    refine mv hR63 (fun a64 hR65 => ?_)
    refine l_join (fun ga gw => Reg ga 75 [(0, .slice tA t.length tc), (1, .int .i64 (k)), (2, .int .i64 (u)), (6, .int .i64 0), (7, .int .i64 0), (8, .pointer (some ⟨g25, 0, none⟩)), (9, .int .i64 (((nth t (t.length - 1)).N) - u)), (37, .bool ((decide (0 ≤ (((nth t (t.length - 1)).N) - u))) && ((decide ((k) < 0)) || (decide ((((nth t (t.length - 1)).N) - u) = (k)))))), (1000000, .bool false)] ∧ St w0 Z none_ gw [.box g25 32 [.int .i64 (((nth t (t.length - 1)).K)), .int .i64 (((nth t (t.length - 1)).N)), .int .i64 (((nth t (t.length - 1)).M)), .string ((nth t (t.length - 1)).S)]] [dRow 4 tA t.length tc (encNs t)]) 8 ?_ ?_
    · skip
      rcases Decidable.em (0 ≤ (((nth t (t.length - 1)).N) - u)) with h66 | h66
      · skip
        have hR67 := hR65.setb (d := 29) (b := true) rfl (decide_eq_true h66)
        refine r_move (st_listV_w (wt hR67)) hR67 rfl rfl rfl (by decide) (fun a68 hR69 => ?_)
        refine r_lss (st_listV_w (wt hR69)) hR69 rfl rfl rfl rfl (by decide) (fun a70 hR71 => ?_)
        refine r_move (st_listV_w (wt hR71)) hR71 rfl rfl rfl (by decide) (fun a72 hR73 => ?_)
        rcases Decidable.em ((k) < 0) with h74 | h74
        · skip
          have hR75 := hR73.setb (d := 32) (b := true) rfl (decide_eq_true h74)
          refine sps hR75 (wff hR75) (fun a76 hR77 => ?_)
          refine sps hR77 (wff hR77) (fun a78 hR79 => ?_)
          refine sps hR79 (wff hR79) (fun a80 hR81 => ?_)
          refine r_pick_t (st_listV_w (wt hR81)) hR81 rfl rfl rfl rfl (by decide) (fun a82 hR83 => ?_)
          refine r_pick_t sv hR83 rfl rfl rfl rfl (by decide) (fun a84 hR85 => ?_)
          refine wpList_nil ?_
          exact x_then_n ⟨(hR85.sub (rc rfl (rc rfl (rc rfl (rc rfl (rc rfl (rc rfl (rc rfl (rc (rb rfl (by first | rfl | (simp only [decide_eq_true h66, if_pos h66, decide_eq_true h74, if_pos h74, bl]; done) | (simp [h66, h74]; done) | (simp [h66, h74]; omega))) (rc rfl rnl)))))))))), hS31⟩
        · skip
          have hR86 := hR73.setb (d := 32) (b := false) rfl (decide_eq_false h74)
          refine r_move (st_listV_w (wt hR86)) hR86 rfl rfl rfl (by decide) (fun a87 hR88 => ?_)
          refine r_move (st_listV_w (wt hR88)) hR88 rfl rfl rfl (by decide) (fun a89 hR90 => ?_)
          refine r_eql (st_listV_w (wt hR90)) hR90 rfl rfl rfl rfl (by decide) (fun a91 hR92 => ?_)
          refine r_pick_f (st_listV_w (wt hR92)) hR92 rfl rfl rfl rfl (by decide) (fun a93 hR94 => ?_)
          refine r_pick_t sv hR94 rfl rfl rfl rfl (by decide) (fun a95 hR96 => ?_)
          refine wpList_nil ?_
          exact x_then_n ⟨(hR96.sub (rc rfl (rc rfl (rc rfl (rc rfl (rc rfl (rc rfl (rc rfl (rc (rb rfl (by first | rfl | (simp only [decide_eq_true h66, if_pos h66, decide_eq_false h74, if_neg h74, bl]; done) | (simp [h66, h74]; done) | (simp [h66, h74]; omega))) (rc rfl rnl)))))))))), hS31⟩
      · skip
        have hR97 := hR65.setb (d := 29) (b := false) rfl (decide_eq_false h66)
        refine sps hR97 (wff hR97) (fun a98 hR99 => ?_)
        refine sps hR99 (wff hR99) (fun a100 hR101 => ?_)
        refine sps hR101 (wff hR101) (fun a102 hR103 => ?_)
        refine sps hR103 (wu hR103) (fun a104 hR105 => ?_)
        refine sps hR105 (wu hR105) (fun a106 hR107 => ?_)
        refine sps hR107 (wu hR107) (fun a108 hR109 => ?_)
        refine sps hR109 (wff hR109) (fun a110 hR111 => ?_)
        refine r_pick_f sv hR111 rfl rfl rfl rfl (by decide) (fun a112 hR113 => ?_)
        refine wpList_nil ?_
        exact x_then_n ⟨(hR113.sub (rc rfl (rc rfl (rc rfl (rc rfl (rc rfl (rc rfl (rc rfl (rc (rb rfl (by first | rfl | (simp only [decide_eq_false h66, if_neg h66, bl]; done) | (simp [h66]; done) | (simp [h66]; omega))) (rc rfl rnl)))))))))), hS31⟩
    rintro a114 w115 ⟨hR116, hS117⟩
    refine wpList_nil (x_then_n (hK59 _ _ ?_))
    rcases Bool.eq_false_or_eq_true (((decide (0 ≤ (((nth t (t.length - 1)).N) - u))) && ((decide ((k) < 0)) || (decide ((((nth t (t.length - 1)).N) - u) = (k)))))) with h118 | h118
    · skip
      have h119 := and_tl h118
      have h120 := of_decide_eq_true h119
      have h121 := and_tr h118
      have hq122 := h121
      try simp only [Bool.or_eq_true, Bool.and_eq_true, Bool.not_eq_true', Bool.not_eq_false', decide_eq_true_eq, decide_eq_false_iff_not, Bool.or_eq_false_iff, Bool.and_eq_false_iff] at hq122
      have hR123 := hR116.setb (d := 37) (b := true) rfl h118
      refine wp_cond_true (hR123.ev rfl) ?_
      refine wp_seq_k (fun K124 hK125 => ?_)
      refine c_region ?_
      refine mv hR123 (fun a126 hR127 => ?_)
      refine asg hR127 (fun a128 hR129 => ?_)
      refine asg hR129 (fun a130 hR131 => ?_)
      refine wpList_nil (x_then_n (hK125 _ _ ?_))
      refine wp_ret ?_
      refine x_then_r ?_
      refine x_then_r ?_
      refine e_ret2 hR131 rfl rfl rfl rfl ?_
      refine ⟨?_, hS117.fr⟩
      exact ret_t2 (ret_i (by first | (rw [(us_var hb (by omega)).1]; split <;> omega) | (rw [(us_var hb (by omega)).2]; split <;> omega))) (ret_i (by first | (rw [(us_var hb (by omega)).1]; split <;> omega) | (rw [(us_var hb (by omega)).2]; split <;> omega)))
    · skip
      have hq132 := h118
      try simp only [Bool.or_eq_true, Bool.and_eq_true, Bool.not_eq_true', Bool.not_eq_false', decide_eq_true_eq, decide_eq_false_iff_not, Bool.or_eq_false_iff, Bool.and_eq_false_iff] at hq132
      have hR133 := hR116.setb (d := 37) (b := false) rfl h118
      refine wp_cond_false (hR133.ev rfl) ?_
      refine wp_skip ?_
      refine x_then_n (hK57 _ _ ?_)
      refine wp_seq_k (fun K134 hK135 => ?_)
      refine c_region ?_
      refine asg hR133 (fun a136 hR137 => ?_)
      refine asg hR137 (fun a138 hR139 => ?_)
      refine wpList_nil (x_then_n (hK135 _ _ ?_))
      refine wp_ret ?_
      refine x_then_r ?_
      refine e_ret2 hR139 rfl rfl rfl rfl ?_
      refine ⟨?_, hS117.fr⟩
      exact ret_t2 (ret_i (by first | (rw [(us_var hb (by omega)).1]; split <;> omega) | (rw [(us_var hb (by omega)).2]; split <;> omega))) (ret_i (by first | (rw [(us_var hb (by omega)).1]; split <;> omega) | (rw [(us_var hb (by omega)).2]; split <;> omega)))
  · skip
    have hR140 := hR41.setb (d := 22) (b := false) rfl (decide_eq_false h42)
    refine wp_cond_false (hR140.ev rfl) ?_
    refine wp_skip ?_
    refine x_then_n (hK33 _ _ ?_)
    refine wp_seq_k (fun K141 hK142 => ?_)
    refine c_region ?_
    refine m_loadN (i := 0) (vs := [.int .i64 (((nth t (t.length - 1)).K)), .int .i64 (((nth t (t.length - 1)).N)), .int .i64 (((nth t (t.length - 1)).M)), .string ((nth t (t.length - 1)).S)]) sv hR140 hS31 rfl rfl rfl rfl rfl Tryd.underlying32 rfl sz32 (by decide) (fun a143 hR144 => ?_)
    have hS145 : St w0 Z none_ w29 [.box g25 32 [.int .i64 (((nth t (t.length - 1)).K)), .int .i64 (((nth t (t.length - 1)).N)), .int .i64 (((nth t (t.length - 1)).M)), .string ((nth t (t.length - 1)).S)]] [dRow 4 tA t.length tc (encNs t)] := hS31
    refine k_call (xs := [.tmp 40]) se hR144 rfl rfl rfl (by decide) ok56 (rbinds_calls _ (imm Z w0 [.box g25 32 [.int .i64 (((nth t (t.length - 1)).K)), .int .i64 (((nth t (t.length - 1)).N)), .int .i64 (((nth t (t.length - 1)).M)), .string ((nth t (t.length - 1)).S)]] _) (fun _ h => h.1) (nth t (t.length - 1)) (hsm _ (by omega))) ?_
    rintro e155 w147 ⟨A151, c152, rfl, hf150, hd153⟩
    have hS156 := hS145.below hf150.below
    have hS157 := hS156.data (dRow 1 A151 ((bindL (nth t (t.length - 1))).length) c152 (encIs (bindL (nth t (t.length - 1))))) ⟨hd153.1, hd153.2.mono (fun _ hk => ⟨nxt_imm hS145 hk, rfl⟩)⟩
    refine ⟨_, rfl, fun a146 hR148 => ?_⟩
    refine mv hR148 (fun a158 hR159 => ?_)
    refine r_extract sv hR159 rfl rfl rfl rfl (by decide) (fun a160 hR161 => ?_)
    refine r_extract sv hR161 rfl rfl rfl rfl (by decide) (fun a162 hR163 => ?_)
    refine asg hR163 (fun a164 hR165 => ?_)
    refine asg hR165 (fun a166 hR167 => ?_)
    refine wpList_nil (x_then_n (hK142 _ _ ?_))
    refine wp_seq_k (fun K168 hK169 => ?_)
    refine c_region ?_
    refine mv hR167 (fun a170 hR171 => ?_)
    have hS172 : St w0 Z none_ w147 [.box g25 32 [.int .i64 (((nth t (t.length - 1)).K)), .int .i64 (((nth t (t.length - 1)).N)), .int .i64 (((nth t (t.length - 1)).M)), .string ((nth t (t.length - 1)).S)]] [dRow 4 tA t.length tc (encNs t), dRow 1 A151 ((bindL (nth t (t.length - 1))).length) c152 (encIs (bindL (nth t (t.length - 1))))] := hS157
    refine k_call (xs := [.tmp 44]) se hR171 rfl rfl rfl (by decide) ok32 (rparts_calls _ (imm Z w0 [.box g25 32 [.int .i64 (((nth t (t.length - 1)).K)), .int .i64 (((nth t (t.length - 1)).N)), .int .i64 (((nth t (t.length - 1)).M)), .string ((nth t (t.length - 1)).S)]] _) (fun _ h => h.1) tA tc t (hS172.get (i := 0) rfl) (by first | assumption | omega | (simp; done) | (simp; omega)) (by first | assumption | omega | (simp; done) | (simp; omega)) (by first | assumption | omega | (simp; done) | (simp; omega))) ?_
    rintro e185 w174 ⟨A178, c179, rL180, rfl, hf177, hd181, hd182, hL183⟩
    have hS186 := hS172.below hf177.below
    have hS187 := hS186.data (dRow 1 A178 rL180.length c179 (encSs rL180)) ⟨hd181.1, hd181.2.mono (fun _ hk => ⟨nxt_imm hS172 hk, rfl⟩)⟩
    have hS188 := hS187.data (dAll rL180) ((dAll _).mono _ _ _ _ (Nat.le_refl _) hd182 (fun _ hk => ⟨nxt_imm hS172 hk, rfl⟩))
    refine ⟨_, rfl, fun a173 hR175 => ?_⟩
    refine asg hR175 (fun a189 hR190 => ?_)
    refine wpList_nil (x_then_n (hK169 _ _ ?_))
    refine wp_seq_k (fun K191 hK192 => ?_)
    refine c_region ?_
    refine asg hR190 (fun a193 hR194 => ?_)
    refine wpList_nil (x_then_n (hK192 _ _ ?_))
    refine wp_seq_k (fun K195 hK196 => ?_)
    refine c_region ?_
    refine asg hR194 (fun a197 hR198 => ?_)
    refine wpList_nil (x_then_n (hK196 _ _ ?_))
    refine wp_seq_k (fun K199 hK200 => ?_)
    refine wp_seq_k (fun K201 hK202 => ?_)
    refine c_region ?_
    refine asg hR198 (fun a203 hR204 => ?_)
    refine wpList_nil (x_then_n (hK202 _ _ ?_))
    refine wp_block ?_
    refine wp_loop_ghost (fun gn ga gw => ∃ j : Nat, (Reg ga 75 [(1000000, .bool false), (1, .int .i64 (k)), (2, .int .i64 (u)), (6, .int .i64 0), (7, .int .i64 0), (10, .slice A151 ((bindL (nth t (t.length - 1))).length) c152), (12, .slice A178 rL180.length c179), (15, .int .i64 ((j : Nat) : Int)), (13, .int .i64 ((usP t k u j : Nat) : Int)), (14, .int .i64 ((moP t k u j)))]) ∧ (St w0 Z none_ gw [.box g25 32 [.int .i64 (((nth t (t.length - 1)).K)), .int .i64 (((nth t (t.length - 1)).N)), .int .i64 (((nth t (t.length - 1)).M)), .string ((nth t (t.length - 1)).S)]] [dRow 4 tA t.length tc (encNs t), dRow 1 A151 ((bindL (nth t (t.length - 1))).length) c152 (encIs (bindL (nth t (t.length - 1)))), dRow 1 A178 rL180.length c179 (encSs rL180), dAll rL180]) ∧ (j ≤ rL180.length) ∧ (rL180.length - j) = gn) _ ⟨0, (hR204.sub (rc rfl (rc rfl (rc rfl (rc rfl (rc rfl (rc rfl (rc rfl (rc rfl (rc (ri rfl (by simp [usP, usTs])) (rc (ri rfl (by simp [moP, moTs])) rnl))))))))))), hS188, by omega, rfl⟩ ?_
    rintro r205 a206 w207 ⟨j, hR208, hS209, hj, hn210⟩
    have hrl : rL180.length = (ptL t).length := by rw [← lsts_len, hL183]
    have hp8 := ptL_le hb
    have hbj : 0 ≤ nthI (bindL (nth t (t.length - 1))) j ∧ nthI (bindL (nth t (t.length - 1))) j ≤ 2 := by rw [hbl]; exact binds_nth j
    have hup := usP_le hb k u j
    refine wp_seq_k (fun K211 hK212 => ?_)
    refine wp_seq_k (fun K213 hK214 => ?_)
    refine c_region ?_
    refine mv hR208 (fun a215 hR216 => ?_)
    refine mv hR216 (fun a217 hR218 => ?_)
    refine r_len sv hR218 rfl rfl rfl rfl Tryd.underlying39 (by decide) (fun a219 hR220 => ?_)
    refine r_lss sv hR220 rfl rfl rfl rfl (by decide) (fun a221 hR222 => ?_)
    refine wpList_nil (x_then_n (hK214 _ _ ?_))
    rcases Decidable.em (((j : Nat) : Int) < ((rL180.length : Nat) : Int)) with h223 | h223
    · skip
      obtain ⟨hpe, hpk, hpb, hpl, hps, hp0'⟩ := part_at hb hsm hL183 (show j < rL180.length by omega)
      obtain ⟨hu1, hu2⟩ := us_step (k := k) (u := u) hb hpk
      have hul := usL_le hpb k (u + nthI (bindL (nth t (t.length - 1))) j)
      have hR224 := hR222.setb (d := 49) (b := true) rfl (decide_eq_true h223)
      refine wp_cond_true (hR224.ev rfl) ?_
      refine wp_skip ?_
      refine x_then_n (hK212 _ _ ?_)
      refine wp_seq_k (fun K225 hK226 => ?_)
      refine wp_block ?_
      refine wp_seq_k (fun K227 hK228 => ?_)
      obtain ⟨J229, hJ230, hS231⟩ := hS209.agree
      refine d_region2 (S := (fun x => agr w207 J229 x ∧ True)) (n := 17) mixed rfl hS231 (pan_then (pan_block (pan_then (pan_then (pan_block (pan_then pan_body)))))) (fun Q234 hP235 hN236 w232 hS233 => ?_)
      have hSw237 : agr w207 J229 w232 ∧ True := ⟨⟨(hS233.get (i := 4) rfl).1, fun k hk => ((hS233.get (i := 4) rfl).2 k hk).2⟩, trivial⟩
      refine dt 0 rfl hP235 hR224 (want_n rfl) (fun x hx => r_move (sy hR224) hR224 rfl rfl rfl (by decide) gt) hSw237 (fun a238 hR239 => ?_)
      refine dt 1 rfl hP235 hR239 (want_n rfl) (fun x hx => r_move (sy hR239) hR239 rfl rfl rfl (by decide) gt) hSw237 (fun a240 hR241 => ?_)
      refine dt 2 rfl hP235 hR241 (want_n rfl) (fun x hx => m_index (i := j) (j := j * 1) (sy hR241) hR241 rfl rfl rfl rfl Tryd.underlying39 sz22 (by omega) (by omega) (ss_elem (t := rL180) (k := j) (sdat (hJ230 2 _ rfl) hx.1).2 (by omega)).some_ rfl (by decide) gt) hSw237 (fun a242 hR243 => ?_)
      refine dt 3 rfl hP235 hR243 (want_n rfl) (fun x hx => m_loadE (sy hR243) hR243 rfl rfl rfl 0 (j * 1) (ss_elem (t := rL180) (k := j) (sdat (hJ230 2 _ rfl) hx.1).2 (by omega)) rfl rfl Tryd.underlying22 rfl (by decide) gt) hSw237 (fun a244 hR245 => ?_)
      have hS246 := hS233.data (dRow 4 ((nthS rL180 j).1) ((nthS rL180 j).2.2.length) ((nthS rL180 j).2.1) (encNs ((nthS rL180 j).2.2))) (all_at (t := rL180) (k := j) (hS233.get (i := 3) rfl) (by omega))
      refine dt 4 rfl hP235 hR245 (want_n rfl) (fun x hx => r_move (sy hR245) hR245 rfl rfl rfl (by decide) gt) hSw237 (fun a247 hR248 => ?_)
      refine dt 5 rfl hP235 hR248 (want_n rfl) (fun x hx => r_move (sy hR248) hR248 rfl rfl rfl (by decide) gt) hSw237 (fun a249 hR250 => ?_)
      refine dt 6 rfl hP235 hR250 (want_n rfl) (fun x hx => r_move (sy hR250) hR250 rfl rfl rfl (by decide) gt) hSw237 (fun a251 hR252 => ?_)
      refine dt 7 rfl hP235 hR252 (want_n rfl) (fun x hx => r_move (sy hR252) hR252 rfl rfl rfl (by decide) gt) hSw237 (fun a253 hR254 => ?_)
      refine dt 8 rfl hP235 hR254 (want_n rfl) (fun x hx => m_index (i := j) (j := j * 1) (sy hR254) hR254 rfl rfl rfl rfl Tryd.underlying66 sz3 (by omega) (by omega) (ints_elem (t := bindL (nth t (t.length - 1))) (k := j) (sdat (hJ230 1 _ rfl) hx.1).2 (by omega)).some_ rfl (by decide) gt) hSw237 (fun a255 hR256 => ?_)
      refine dt 9 rfl hP235 hR256 (want_n rfl) (fun x hx => m_loadE (sy hR256) hR256 rfl rfl rfl 0 (j * 1) (ints_elem (t := bindL (nth t (t.length - 1))) (k := j) (sdat (hJ230 1 _ rfl) hx.1).2 (by omega)) rfl rfl Tryd.underlying3 rfl (by decide) gt) hSw237 (fun a257 hR258 => ?_)
      refine dt 10 rfl hP235 hR258 (want_n rfl) (fun x hx => r_add (z := (u + (nthI (bindL (nth t (t.length - 1))) j))) (sy hR258) hR258 rfl rfl rfl rfl (by decide) (by omega) (by omega) (by omega) gt) hSw237 (fun a259 hR260 => ?_)
      refine d_one (i := 11) (by kernel_rfl) ?_
      have hS261 : St w0 Z none_ w232 [.box g25 32 [.int .i64 (((nth t (t.length - 1)).K)), .int .i64 (((nth t (t.length - 1)).N)), .int .i64 (((nth t (t.length - 1)).M)), .string ((nth t (t.length - 1)).S)]] [dRow 4 tA t.length tc (encNs t), dRow 1 A151 ((bindL (nth t (t.length - 1))).length) c152 (encIs (bindL (nth t (t.length - 1)))), dRow 1 A178 rL180.length c179 (encSs rL180), dAll rL180, dAg w207 J229, dRow 4 ((nthS rL180 j).1) ((nthS rL180 j).2.2.length) ((nthS rL180 j).2.1) (encNs ((nthS rL180 j).2.2))] := hS246
      refine k_call (xs := [.tmp 56, .tmp 57, .tmp 63]) (st_op rfl (want_n rfl)) hR260 rfl rfl rfl (by decide) ok48 (ih (((nthS rL180 j).2.2).length) (by omega) _ (imm Z w0 [.box g25 32 [.int .i64 (((nth t (t.length - 1)).K)), .int .i64 (((nth t (t.length - 1)).N)), .int .i64 (((nth t (t.length - 1)).M)), .string ((nth t (t.length - 1)).S)]] _) (fun _ h => h.1) ((nthS rL180 j).1) ((nthS rL180 j).2.1) ((nthS rL180 j).2.2) (k) (u + (nthI (bindL (nth t (t.length - 1))) j)) (hS261.get (i := 5) rfl) (by first | assumption | omega | (simp; done) | (simp; omega)) (by first | assumption | omega | (simp; done) | (simp; omega)) (by first | assumption | omega | (simp; done) | (simp; omega)) (by first | assumption | omega | (simp; done) | (simp; omega)) (by first | assumption | omega | (simp; done) | (simp; omega)) rfl) ?_
      rintro e268 w263 ⟨rfl, hf266⟩
      have hS269 := hS261.below hf266.below
      refine ⟨_, rfl, fun a262 hR264 => ?_⟩
      have hSw270 : agr w207 J229 w263 ∧ True := ⟨⟨(hS269.get (i := 4) rfl).1, fun k hk => ((hS269.get (i := 4) rfl).2 k hk).2⟩, trivial⟩
      refine ⟨hSw270, ?_⟩
      refine dt 12 rfl hP235 hR264 (want_n rfl) (fun x hx => r_move (sy hR264) hR264 rfl rfl rfl (by decide) gt) hSw270 (fun a271 hR272 => ?_)
      refine dt 13 rfl hP235 hR272 (want_n rfl) (fun x hx => r_extract (sy hR272) hR272 rfl rfl rfl rfl (by decide) gt) hSw270 (fun a273 hR274 => ?_)
      refine dt 14 rfl hP235 hR274 (want_n rfl) (fun x hx => r_extract (sy hR274) hR274 rfl rfl rfl rfl (by decide) gt) hSw270 (fun a275 hR276 => ?_)
      refine dt 15 rfl hP235 hR276 (want_n rfl) (fun x hx => r_assign (sy hR276) hR276 rfl rfl rfl (by decide) gt) hSw270 (fun a277 hR278 => ?_)
      refine dt 16 rfl hP235 hR278 (want_n rfl) (fun x hx => r_assign (sy hR278) hR278 rfl rfl rfl (by decide) gt) hSw270 (fun a279 hR280 => ?_)
      refine wpAnyH_done (by kernel_rfl) (hN236 _ _ ?_) _
      refine x_then_n (hK228 _ _ ?_)
      refine wp_seq_k (fun K281 hK282 => ?_)
      refine c_region ?_
      refine mv hR280 (fun a283 hR284 => ?_)
      refine mv hR284 (fun a285 hR286 => ?_)
      refine r_add (z := ((usP t k u j + usL ((nthS rL180 j).2.2) (k) (u + (nthI (bindL (nth t (t.length - 1))) j)) : Nat) : Int)) sv hR286 rfl rfl rfl rfl (by decide) (by omega) (by omega) (by omega) (fun a287 hR288 => ?_)
      refine asg hR288 (fun a289 hR290 => ?_)
      refine wpList_nil (x_then_n (hK282 _ _ (c_region ?_)))
      refine mv hR290 (fun a291 hR292 => ?_)
      refine mv hR292 (fun a293 hR294 => ?_)
      refine r_max sv hR294 rfl rfl rfl rfl rfl (by decide) (fun a295 hR296 => ?_)
      refine asg hR296 (fun a297 hR298 => ?_)
      refine wpList_nil ?_
      refine x_block_n ?_
      refine x_then_n (hK226 _ _ ?_)
      refine c_region ?_
      refine mv hR298 (fun a299 hR300 => ?_)
      refine r_add (z := ((j + 1 : Nat) : Int)) sv hR300 rfl rfl rfl rfl (by decide) (by omega) (by omega) (by omega) (fun a301 hR302 => ?_)
      refine asg hR302 (fun a303 hR304 => ?_)
      refine wpList_nil ?_
      have hS305 := hS269.forget 5
      have hS306 := hS305.forget 4
      exact ⟨_, by omega, j + 1, (hR304.sub (rc rfl (rc rfl (rc rfl (rc rfl (rc rfl (rc rfl (rc rfl (rc rfl (rc (ri rfl (by rw [hu1, hpe, hbl]; try omega)) (rc (ri rfl (by rw [hu2, hpe, hbl])) rnl))))))))))), hS306, by omega, rfl⟩
    · skip
      have hR307 := hR222.setb (d := 49) (b := false) rfl (decide_eq_false h223)
      refine wp_cond_false (hR307.ev rfl) ?_
      refine wp_exit ?_
      refine x_then_e ?_
      refine x_then_e ?_
      refine x_block_eq ?_
      refine x_then_n (hK200 _ _ ?_)
      refine wp_seq_k (fun K308 hK309 => ?_)
      refine c_region ?_
      refine mv hR307 (fun a310 hR311 => ?_)
      refine mv hR311 (fun a312 hR313 => ?_)
      refine asg hR313 (fun a314 hR315 => ?_)
      refine asg hR315 (fun a316 hR317 => ?_)
      refine wpList_nil (x_then_n (hK309 _ _ ?_))
      refine wp_ret ?_
      refine e_ret2 hR317 rfl rfl rfl rfl ?_
      refine ⟨?_, hS209.fr⟩
      exact ret_t2 (ret_i (by first | (rw [(us_root hb (by omega)).1]; congr 2; omega) | (rw [(us_root hb (by omega)).2]; congr 1; omega))) (ret_i (by first | (rw [(us_root hb (by omega)).1]; congr 2; omega) | (rw [(us_root hb (by omega)).2]; congr 1; omega)))
theorem rcount_calls (w0 : World) (Z : Nat → Prop) (hZ : ∀ k, Z k → k < w0.heap.size) (tA : Option Addr) (tc : Nat) (t : List Nd) (k : Int) (u : Int) (ht : (dRow 4 tA t.length tc (encNs t)).φ w0 Z) (hl : t.length ≤ 1000000) (hsm : sml t) (hb : measB t = true) (hu0 : 0 ≤ u) (hub : u + 2 * t.length ≤ 10000000) :
    Calls Tryd.prog 48 [.slice tA t.length tc, .int .i64 k, .int .i64 u].toArray w0 (fun e w' => e = .returned (.tuple #[.int .i64 ((usL t k u : Nat) : Int), .int .i64 (moL t k u)]) ∧ Fr none_ w0 w') := rcount_calls_rec _ w0 Z hZ tA tc t k u ht hl hsm hb hu0 hub rfl

set_option maxRecDepth 100000 in
set_option maxHeartbeats 1000000 in
theorem ruses_calls (w0 : World) (Z : Nat → Prop) (hZ : ∀ k, Z k → k < w0.heap.size) (tA : Option Addr) (tc : Nat) (t : List Nd) (k : Int) (ht : (dRow 4 tA t.length tc (encNs t)).φ w0 Z) (hl : t.length ≤ 1000000) (hsm : sml t) :
    Calls Tryd.prog 33 [.slice tA t.length tc, .int .i64 k].toArray w0 (fun e w' => e = .returned (.tuple #[.int .i64 ((usA t k : Nat) : Int), .int .i64 (chk t)]) ∧ Fr none_ w0 w') := by
  have hstart : ∀ k, Z k → imm Z w0 [] w0 k ∧ w0.heap[k]? = w0.heap[k]? := fun k hk => ⟨⟨hZ k hk, fun _ => hk, fun _ h => by cases h⟩, rfl⟩
  have hS3 : St w0 Z none_ w0 [] [dRow 4 tA t.length tc (encNs t)] := St.start w0 Z none_ _ (by
    intro d hd
    simp only [List.mem_cons, List.not_mem_nil, or_false] at hd
    rcases hd with rfl
    · exact Dat.mono _ _ _ _ _ (Nat.le_refl _) ht hstart
    )
  refine c_enter Tryd.func33 rfl Tryd.ntmps33 rfl (fun a1 hR2 => ?_)
  refine wp_seq_k (fun K4 hK5 => ?_)
  refine c_region ?_
  refine asg hR2 (fun a6 hR7 => ?_)
  refine asg hR7 (fun a8 hR9 => ?_)
  refine wpList_nil (x_then_n (hK5 _ _ ?_))
  refine wp_seq_k (fun K10 hK11 => ?_)
  refine c_region ?_
  refine mv hR9 (fun a12 hR13 => ?_)
  have hS14 : St w0 Z none_ w0 [] [dRow 4 tA t.length tc (encNs t)] := hS3
  refine k_call (xs := [.tmp 9]) se hR13 rfl rfl rfl (by decide) ok19 (rcheck_calls _ (imm Z w0 [] _) (fun _ h => h.1) tA tc t (hS14.get (i := 0) rfl) (by first | assumption | omega | (simp; done) | (simp; omega)) (by first | assumption | omega | (simp; done) | (simp; omega))) ?_
  rintro e21 w16 ⟨rfl, hf19⟩
  have hS22 := hS14.below hf19.below
  refine ⟨_, rfl, fun a15 hR17 => ?_⟩
  refine asg hR17 (fun a23 hR24 => ?_)
  refine wpList_nil (x_then_n (hK11 _ _ ?_))
  refine wp_seq_k (fun K25 hK26 => ?_)
  refine wp_seq_k (fun K27 hK28 => ?_)
  refine c_region ?_
  refine mv hR24 (fun a29 hR30 => ?_)
  refine r_neq sv hR30 rfl rfl rfl rfl (by decide) (fun a31 hR32 => ?_)
  refine mv hR32 (fun a33 hR34 => ?_)
  refine l_join (fun ga gw => Reg ga 25 [(0, .slice tA t.length tc), (1, .int .i64 (k)), (4, .int .i64 0), (5, .int .i64 0), (6, .int .i64 ((chk t))), (16, .bool ((!(decide (((chk t)) = 0))) || (decide ((k) < 0)))), (1000000, .bool false)] ∧ St w0 Z none_ gw [] [dRow 4 tA t.length tc (encNs t)]) 3 ?_ ?_
  · skip
    rcases Decidable.em (((chk t)) = 0) with h35 | h35
    · skip
      have hR36 := hR34.setb (d := 13) (b := false) rfl (by rw [(decide_eq_true h35)]; rfl)
      refine r_move (st_listV_w (wt hR36)) hR36 rfl rfl rfl (by decide) (fun a37 hR38 => ?_)
      refine r_lss (st_listV_w (wt hR38)) hR38 rfl rfl rfl rfl (by decide) (fun a39 hR40 => ?_)
      refine r_pick_f sv hR40 rfl rfl rfl rfl (by decide) (fun a41 hR42 => ?_)
      refine wpList_nil ?_
      exact x_then_n ⟨(hR42.sub (rc rfl (rc rfl (rc rfl (rc rfl (rc rfl (rc (rb rfl (by first | rfl | (simp only [decide_eq_true h35, if_pos h35, bl]; done) | (simp [h35]; done) | (simp [h35]; omega))) (rc rfl rnl)))))))), hS22⟩
    · skip
      have hR43 := hR34.setb (d := 13) (b := true) rfl (by rw [(decide_eq_false h35)]; rfl)
      refine sps hR43 (wff hR43) (fun a44 hR45 => ?_)
      refine sps hR45 (wff hR45) (fun a46 hR47 => ?_)
      refine r_pick_t sv hR47 rfl rfl rfl rfl (by decide) (fun a48 hR49 => ?_)
      refine wpList_nil ?_
      exact x_then_n ⟨(hR49.sub (rc rfl (rc rfl (rc rfl (rc rfl (rc rfl (rc (rb rfl (by first | rfl | (simp only [decide_eq_false h35, if_neg h35, bl]; done) | (simp [h35]; done) | (simp [h35]; omega))) (rc rfl rnl)))))))), hS22⟩
  rintro a50 w51 ⟨hR52, hS53⟩
  refine wpList_nil (x_then_n (hK28 _ _ ?_))
  rcases Bool.eq_false_or_eq_true (((!(decide (((chk t)) = 0))) || (decide ((k) < 0)))) with h54 | h54
  · skip
    have hq55 := h54
    try simp only [Bool.or_eq_true, Bool.and_eq_true, Bool.not_eq_true', Bool.not_eq_false', decide_eq_true_eq, decide_eq_false_iff_not, Bool.or_eq_false_iff, Bool.and_eq_false_iff] at hq55
    have hR56 := hR52.setb (d := 16) (b := true) rfl h54
    refine wp_cond_true (hR56.ev rfl) ?_
    refine wp_seq_k (fun K57 hK58 => ?_)
    refine c_region ?_
    refine mv hR56 (fun a59 hR60 => ?_)
    refine asg hR60 (fun a61 hR62 => ?_)
    refine asg hR62 (fun a63 hR64 => ?_)
    refine wpList_nil (x_then_n (hK58 _ _ ?_))
    refine wp_ret ?_
    refine x_then_r ?_
    refine e_ret2 hR64 rfl rfl rfl rfl ?_
    refine ⟨?_, hS53.fr⟩
    exact ret_t2 (ret_i (by first | omega | (rw [usA_no (by omega)]; rfl) | rw [usA_ok (by omega) (by omega)])) (ret_i (by first | omega | (rw [usA_no (by omega)]; rfl) | rw [usA_ok (by omega) (by omega)]))
  · skip
    have h65 := or_fl h54
    have h66 := not_f h65
    have h67 := of_decide_eq_true h66
    have h68 := or_fr h54
    have h69 := of_decide_eq_false h68
    have hR70 := hR52.setb (d := 16) (b := false) rfl h54
    refine wp_cond_false (hR70.ev rfl) ?_
    refine wp_skip ?_
    refine x_then_n (hK26 _ _ ?_)
    refine wp_seq_k (fun K71 hK72 => ?_)
    refine c_region ?_
    refine mv hR70 (fun a73 hR74 => ?_)
    refine mv hR74 (fun a75 hR76 => ?_)
    have hS77 : St w0 Z none_ w51 [] [dRow 4 tA t.length tc (encNs t)] := hS53
    refine k_call (xs := [.tmp 19, .tmp 20, .const (.int .i64 0)]) se hR76 rfl rfl rfl (by decide) ok48 (rcount_calls _ (imm Z w0 [] _) (fun _ h => h.1) tA tc t (k) 0 (hS77.get (i := 0) rfl) hl hsm (meas_chk (by omega)) (by omega) (by omega)) ?_
    rintro e84 w79 ⟨rfl, hf82⟩
    have hS85 := hS77.below hf82.below
    refine ⟨_, rfl, fun a78 hR80 => ?_⟩
    refine mv hR80 (fun a86 hR87 => ?_)
    refine r_extract sv hR87 rfl rfl rfl rfl (by decide) (fun a88 hR89 => ?_)
    refine r_extract sv hR89 rfl rfl rfl rfl (by decide) (fun a90 hR91 => ?_)
    refine asg hR91 (fun a92 hR93 => ?_)
    refine asg hR93 (fun a94 hR95 => ?_)
    refine wpList_nil (x_then_n (hK72 _ _ ?_))
    refine wp_seq_k (fun K96 hK97 => ?_)
    refine c_region ?_
    refine mv hR95 (fun a98 hR99 => ?_)
    refine asg hR99 (fun a100 hR101 => ?_)
    refine asg hR101 (fun a102 hR103 => ?_)
    refine wpList_nil (x_then_n (hK97 _ _ ?_))
    refine wp_ret ?_
    refine e_ret2 hR103 rfl rfl rfl rfl ?_
    refine ⟨?_, hS85.fr⟩
    exact ret_t2 (ret_i (by first | omega | (rw [usA_no (by omega)]; rfl) | rw [usA_ok (by omega) (by omega)])) (ret_i (by first | omega | (rw [usA_no (by omega)]; rfl) | rw [usA_ok (by omega) (by omega)]))
end Go.Proofs.YtobgdeffhdefeaaDoor
/- Contracts of functions, one theorem each: what the call returns, and that nothing old is changed. Printed by gen.py. -/
namespace Go.Proofs.YtobgdeffhdefeaaDoor
open Go Go.RowKit
set_option linter.unusedSimpArgs false
set_option linter.unusedVariables false

set_option maxRecDepth 100000 in
set_option maxHeartbeats 1000000 in
theorem eraseMoves_calls (w0 : World) (Z : Nat → Prop) (hZ : ∀ k, Z k → k < w0.heap.size) (tA : Option Addr) (tc : Nat) (t : List Nd) (uA : Option Addr) (uc : Nat) (u : List Nd) (kb : Nat) (bb : Nat) (hShp : Shapes w0 Z) (ht : (dRow 4 tA t.length tc (encNs t)).φ w0 Z) (hu : (dRow 4 uA u.length uc (encNs u)).φ w0 Z) (hkb : kb < 256) (hbb : bb < 256) :
    Calls Tryd.prog 6 [.slice tA t.length tc, .slice uA u.length uc, .int .u8 ((kb : Nat) : Int), .int .u8 ((bb : Nat) : Int)].toArray w0 (fun e w' => e = .returned (.bool (true)) ∧ Fr none_ w0 w') := by
  have hstart : ∀ k, Z k → imm Z w0 [] w0 k ∧ w0.heap[k]? = w0.heap[k]? := fun k hk => ⟨⟨hZ k hk, fun _ => hk, fun _ h => by cases h⟩, rfl⟩
  have hS3 : St w0 Z none_ w0 [] [dShapes, dRow 4 tA t.length tc (encNs t), dRow 4 uA u.length uc (encNs u)] := St.start w0 Z none_ _ (by
    intro d hd
    simp only [List.mem_cons, List.not_mem_nil, or_false] at hd
    rcases hd with rfl | rfl | rfl
    · exact Dat.mono _ _ _ _ _ (Nat.le_refl _) hShp hstart
    · exact Dat.mono _ _ _ _ _ (Nat.le_refl _) ht hstart
    · exact Dat.mono _ _ _ _ _ (Nat.le_refl _) hu hstart
    )
  refine c_enter Tryd.func6 rfl Tryd.ntmps6 rfl (fun a1 hR2 => ?_)
  refine wp_seq_k (fun K4 hK5 => ?_)
  refine c_region ?_
  refine asg hR2 (fun a6 hR7 => ?_)
  refine wpList_nil (x_then_n (hK5 _ _ ?_))
  refine wp_seq_k (fun K8 hK9 => ?_)
  refine wp_seq_k (fun K10 hK11 => ?_)
  refine c_region ?_
  refine mv hR7 (fun a12 hR13 => ?_)
  have hS14 : St w0 Z none_ w0 [] [dShapes, dRow 4 tA t.length tc (encNs t), dRow 4 uA u.length uc (encNs u)] := hS3
  refine k_call (xs := [.tmp 26]) se hR13 rfl rfl rfl (by decide) ok26 (heavy11_calls _ (imm Z w0 [] _) (fun _ h => h.1) tA tc t (hS14.get (i := 1) rfl)) ?_
  rintro e21 w16 ⟨rfl, hf19⟩
  have hS22 := hS14.below hf19.below
  refine ⟨_, rfl, fun a15 hR17 => ?_⟩
  refine mv hR17 (fun a23 hR24 => ?_)
  refine l_join (fun ga gw => Reg ga 142 [(0, .slice tA t.length tc), (1, .slice uA u.length uc), (2, .int .u8 ((kb : Nat) : Int)), (3, .int .u8 ((bb : Nat) : Int)), (8, .bool false), (31, .bool ((heavyB 200 t) || (heavyB 200 u))), (1000000, .bool false)] ∧ St w0 Z none_ gw [] [dShapes, dRow 4 tA t.length tc (encNs t), dRow 4 uA u.length uc (encNs u)]) 3 ?_ ?_
  · skip
    rcases Bool.eq_false_or_eq_true (heavyB 200 t) with h25 | h25
    · skip
      have hR26 := hR24.setb (d := 28) (b := true) rfl h25
      refine sps hR26 (wff hR26) (fun a27 hR28 => ?_)
      refine sps hR28 (wff hR28) (fun a29 hR30 => ?_)
      refine r_pick_t sv hR30 rfl rfl rfl rfl (by decide) (fun a31 hR32 => ?_)
      refine wpList_nil ?_
      exact x_then_n ⟨(hR32.sub (rc rfl (rc rfl (rc rfl (rc rfl (rc rfl (rc (rb rfl (by first | rfl | (simp only [h25, bl]; done) | (simp [h25]; done) | (simp [h25]; omega))) (rc rfl rnl)))))))), hS22⟩
    · skip
      obtain ⟨hlt, hst⟩ := heavy_false h25
      have helt := erA_le t
      obtain ⟨hlt, hst⟩ := heavy_false h25
      have helt := erA_le t
      have hR33 := hR24.setb (d := 28) (b := false) rfl h25
      refine r_move (st_listV_w (wt hR33)) hR33 rfl rfl rfl (by decide) (fun a34 hR35 => ?_)
      have hS36 : St w0 Z none_ w16 [] [dShapes, dRow 4 tA t.length tc (encNs t), dRow 4 uA u.length uc (encNs u)] := hS22
      refine k_call (xs := [.tmp 29]) (st_list_w (wt hR35)) hR35 rfl rfl rfl (by decide) ok26 (heavy11_calls _ (imm Z w0 [] _) (fun _ h => h.1) uA uc u (hS36.get (i := 2) rfl)) ?_
      rintro e43 w38 ⟨rfl, hf41⟩
      have hS44 := hS36.below hf41.below
      refine ⟨_, rfl, fun a37 hR39 => ?_⟩
      refine r_pick_f sv hR39 rfl rfl rfl rfl (by decide) (fun a45 hR46 => ?_)
      refine wpList_nil ?_
      exact x_then_n ⟨(hR46.sub (rc rfl (rc rfl (rc rfl (rc rfl (rc rfl (rc (rb rfl (by first | rfl | (simp only [h25, bl]; done) | (simp [h25]; done) | (simp [h25]; omega))) (rc rfl rnl)))))))), hS44⟩
  rintro a47 w48 ⟨hR49, hS50⟩
  refine mv hR49 (fun a51 hR52 => ?_)
  refine l_join (fun ga gw => Reg ga 142 [(0, .slice tA t.length tc), (1, .slice uA u.length uc), (2, .int .u8 ((kb : Nat) : Int)), (3, .int .u8 ((bb : Nat) : Int)), (8, .bool false), (35, .bool (((heavyB 200 t) || (heavyB 200 u)) || (!true))), (1000000, .bool false)] ∧ St w0 Z none_ gw [] [dShapes, dRow 4 tA t.length tc (encNs t), dRow 4 uA u.length uc (encNs u)]) 3 ?_ ?_
  · skip
    rcases Bool.eq_false_or_eq_true (((heavyB 200 t) || (heavyB 200 u))) with h53 | h53
    · skip
      have hq54 := h53
      try simp only [Bool.or_eq_true, Bool.and_eq_true, Bool.not_eq_true', Bool.not_eq_false', decide_eq_true_eq, decide_eq_false_iff_not, Bool.or_eq_false_iff, Bool.and_eq_false_iff] at hq54
      have hR55 := hR52.setb (d := 32) (b := true) rfl h53
      refine sps hR55 (wff hR55) (fun a56 hR57 => ?_)
      refine sps hR57 (wff hR57) (fun a58 hR59 => ?_)
      refine r_pick_t sv hR59 rfl rfl rfl rfl (by decide) (fun a60 hR61 => ?_)
      refine wpList_nil ?_
      exact x_then_n ⟨(hR61.sub (rc rfl (rc rfl (rc rfl (rc rfl (rc rfl (rc (rb rfl (by first | rfl | (simp only [h53, bl]; done) | (simp [h53]; done) | (simp [h53]; omega))) (rc rfl rnl)))))))), hS50⟩
    · skip
      have h62 := or_fl h53
      obtain ⟨hlt, hst⟩ := heavy_false h62
      have helt := erA_le t
      have h63 := or_fr h53
      obtain ⟨hlu, hsu⟩ := heavy_false h63
      have helu := erA_le u
      have hR64 := hR52.setb (d := 32) (b := false) rfl h53
      have hS65 : St w0 Z none_ w48 [] [dShapes, dRow 4 tA t.length tc (encNs t), dRow 4 uA u.length uc (encNs u)] := hS50
      refine k_call (xs := []) (st_list_w (wt hR64)) hR64 rfl rfl rfl (by decide) ok27 (shown11_calls _ (imm Z w0 [] _) (fun _ h => h.1) (hS65.get (i := 0) rfl)) ?_
      rintro e72 w67 ⟨rfl, hf70⟩
      have hS73 := hS65.below hf70.below
      refine ⟨_, rfl, fun a66 hR68 => ?_⟩
      refine r_not (st_listV_w (wt hR68)) hR68 rfl rfl rfl (by decide) (fun a74 hR75 => ?_)
      refine r_pick_f sv hR75 rfl rfl rfl rfl (by decide) (fun a76 hR77 => ?_)
      refine wpList_nil ?_
      exact x_then_n ⟨(hR77.sub (rc rfl (rc rfl (rc rfl (rc rfl (rc rfl (rc (rb rfl (by first | rfl | (simp only [h53, bl]; done) | (simp [h53]; done) | (simp [h53]; omega))) (rc rfl rnl)))))))), hS73⟩
  rintro a78 w79 ⟨hR80, hS81⟩
  refine wpList_nil (x_then_n (hK11 _ _ ?_))
  rcases Bool.eq_false_or_eq_true ((((heavyB 200 t) || (heavyB 200 u)) || (!true))) with h82 | h82
  · skip
    have hq83 := h82
    try simp only [Bool.or_eq_true, Bool.and_eq_true, Bool.not_eq_true', Bool.not_eq_false', decide_eq_true_eq, decide_eq_false_iff_not, Bool.or_eq_false_iff, Bool.and_eq_false_iff] at hq83
    have hR84 := hR80.setb (d := 35) (b := true) rfl h82
    refine wp_cond_true (hR84.ev rfl) ?_
    refine wp_seq_k (fun K85 hK86 => ?_)
    refine c_region ?_
    have hS87 : St w0 Z none_ w79 [] [dShapes, dRow 4 tA t.length tc (encNs t), dRow 4 uA u.length uc (encNs u)] := hS81
    refine k_call (xs := []) se hR84 rfl rfl rfl (by decide) ok27 (shown11_calls _ (imm Z w0 [] _) (fun _ h => h.1) (hS87.get (i := 0) rfl)) ?_
    rintro e94 w89 ⟨rfl, hf92⟩
    have hS95 := hS87.below hf92.below
    refine ⟨_, rfl, fun a88 hR90 => ?_⟩
    refine asg hR90 (fun a96 hR97 => ?_)
    refine wpList_nil (x_then_n (hK86 _ _ ?_))
    refine wp_ret ?_
    refine x_then_r ?_
    refine e_ret1 hR97 rfl rfl rfl ?_
    refine ⟨?_, hS95.fr⟩
    exact congrArg Ending.returned (ret_b (by first | rfl | assumption | exact decide_eq_true (by assumption) | (simp only [Bool.or_eq_true, decide_eq_true_eq]; exact hm2) | (simp [h82]; done)))
  · skip
    have h98 := or_fl h82
    have h99 := or_fl h98
    obtain ⟨hlt, hst⟩ := heavy_false h99
    have helt := erA_le t
    have h100 := or_fr h98
    obtain ⟨hlu, hsu⟩ := heavy_false h100
    have helu := erA_le u
    have h101 := or_fr h82
    have h102 := not_f h101
    have hR103 := hR80.setb (d := 35) (b := false) rfl h82
    refine wp_cond_false (hR103.ev rfl) ?_
    refine wp_skip ?_
    refine x_then_n (hK9 _ _ ?_)
    refine wp_seq_k (fun K104 hK105 => ?_)
    refine c_region ?_
    refine mv hR103 (fun a106 hR107 => ?_)
    have hS108 : St w0 Z none_ w79 [] [dShapes, dRow 4 tA t.length tc (encNs t), dRow 4 uA u.length uc (encNs u)] := hS81
    refine k_call (xs := [.tmp 38]) se hR107 rfl rfl rfl (by decide) ok28 (erase_calls _ (imm Z w0 [] _) (fun _ h => h.1) tA tc t (hS108.get (i := 0) rfl) (hS108.get (i := 1) rfl) (by first | assumption | exact suA_sml hst hsu | exact sfA_sml hst) (by first | omega | exact Nat.le_trans (suA_len _ _ _) (by omega) | exact Nat.le_trans (sfA_len _ _ _) (by omega))) ?_
    rintro e118 w110 ⟨A114, c115, rfl, hf113, hd116⟩
    have hS119 := hS108.below hf113.below
    have hS120 := hS119.data (dRow 4 A114 ((erA t).length) c115 (encNs (erA t))) ⟨hd116.1, hd116.2.mono (fun _ hk => ⟨nxt_imm hS108 hk, rfl⟩)⟩
    refine ⟨_, rfl, fun a109 hR111 => ?_⟩
    refine mv hR111 (fun a121 hR122 => ?_)
    refine r_extract sv hR122 rfl rfl rfl rfl (by decide) (fun a123 hR124 => ?_)
    refine r_extract sv hR124 rfl rfl rfl rfl (by decide) (fun a125 hR126 => ?_)
    refine asg hR126 (fun a127 hR128 => ?_)
    refine asg hR128 (fun a129 hR130 => ?_)
    refine wpList_nil (x_then_n (hK105 _ _ ?_))
    refine wp_seq_k (fun K131 hK132 => ?_)
    refine c_region ?_
    refine mv hR130 (fun a133 hR134 => ?_)
    have hS135 : St w0 Z none_ w110 [] [dShapes, dRow 4 tA t.length tc (encNs t), dRow 4 uA u.length uc (encNs u), dRow 4 A114 ((erA t).length) c115 (encNs (erA t))] := hS120
    refine k_call (xs := [.tmp 43]) se hR134 rfl rfl rfl (by decide) ok28 (erase_calls _ (imm Z w0 [] _) (fun _ h => h.1) uA uc u (hS135.get (i := 0) rfl) (hS135.get (i := 2) rfl) (by first | assumption | exact suA_sml hst hsu | exact sfA_sml hst) (by first | omega | exact Nat.le_trans (suA_len _ _ _) (by omega) | exact Nat.le_trans (sfA_len _ _ _) (by omega))) ?_
    rintro e145 w137 ⟨A141, c142, rfl, hf140, hd143⟩
    have hS146 := hS135.below hf140.below
    have hS147 := hS146.data (dRow 4 A141 ((erA u).length) c142 (encNs (erA u))) ⟨hd143.1, hd143.2.mono (fun _ hk => ⟨nxt_imm hS135 hk, rfl⟩)⟩
    refine ⟨_, rfl, fun a136 hR138 => ?_⟩
    refine mv hR138 (fun a148 hR149 => ?_)
    refine r_extract sv hR149 rfl rfl rfl rfl (by decide) (fun a150 hR151 => ?_)
    refine r_extract sv hR151 rfl rfl rfl rfl (by decide) (fun a152 hR153 => ?_)
    refine asg hR153 (fun a154 hR155 => ?_)
    refine asg hR155 (fun a156 hR157 => ?_)
    refine wpList_nil (x_then_n (hK132 _ _ ?_))
    refine wp_seq_k (fun K158 hK159 => ?_)
    refine wp_seq_k (fun K160 hK161 => ?_)
    refine c_region ?_
    refine mv hR157 (fun a162 hR163 => ?_)
    refine mv hR163 (fun a164 hR165 => ?_)
    have hS166 : St w0 Z none_ w137 [] [dShapes, dRow 4 tA t.length tc (encNs t), dRow 4 uA u.length uc (encNs u), dRow 4 A114 ((erA t).length) c115 (encNs (erA t)), dRow 4 A141 ((erA u).length) c142 (encNs (erA u))] := hS147
    refine k_call (xs := [.tmp 48]) se hR165 rfl rfl rfl (by decide) ok19 (rcheck_calls _ (imm Z w0 [] _) (fun _ h => h.1) tA tc t (hS166.get (i := 1) rfl) (by first | assumption | omega | (simp; done) | (simp; omega)) (by first | assumption | omega | (simp; done) | (simp; omega))) ?_
    rintro e173 w168 ⟨rfl, hf171⟩
    have hS174 := hS166.below hf171.below
    refine ⟨_, rfl, fun a167 hR169 => ?_⟩
    refine r_neq sv hR169 rfl rfl rfl rfl (by decide) (fun a175 hR176 => ?_)
    refine mv hR176 (fun a177 hR178 => ?_)
    have h198 : ((chk t)) = ((chk t)) := rfl
    have hR199 := hR178.setb (d := 51) (b := false) rfl (by rw [(decide_eq_true h198)]; rfl)
    refine r_move (st_listV_w (wt hR199)) hR199 rfl rfl rfl (by decide) (fun a200 hR201 => ?_)
    refine r_move (st_listV_w (wt hR201)) hR201 rfl rfl rfl (by decide) (fun a202 hR203 => ?_)
    have hS204 : St w0 Z none_ w168 [] [dShapes, dRow 4 tA t.length tc (encNs t), dRow 4 uA u.length uc (encNs u), dRow 4 A114 ((erA t).length) c115 (encNs (erA t)), dRow 4 A141 ((erA u).length) c142 (encNs (erA u))] := hS174
    refine k_call (xs := [.tmp 53]) (st_list_w (wt hR203)) hR203 rfl rfl rfl (by decide) ok19 (rcheck_calls _ (imm Z w0 [] _) (fun _ h => h.1) uA uc u (hS204.get (i := 2) rfl) (by first | assumption | omega | (simp; done) | (simp; omega)) (by first | assumption | omega | (simp; done) | (simp; omega))) ?_
    rintro e211 w206 ⟨rfl, hf209⟩
    have hS212 := hS204.below hf209.below
    refine ⟨_, rfl, fun a205 hR207 => ?_⟩
    refine r_neq (st_listV_w (wt hR207)) hR207 rfl rfl rfl rfl (by decide) (fun a213 hR214 => ?_)
    refine r_pick_f sv hR214 rfl rfl rfl rfl (by decide) (fun a215 hR216 => ?_)
    refine wpList_nil (x_then_n (hK161 _ _ ?_))
    have h217 : ((chk u)) = ((chk u)) := rfl
    have hR218 := hR216.setb (d := 56) (b := false) rfl (by rw [(decide_eq_true h217)]; rfl)
    refine wp_cond_false (hR218.ev rfl) ?_
    refine wp_skip ?_
    refine x_then_n (hK159 _ _ ?_)
    refine wp_seq_k (fun K219 hK220 => ?_)
    refine wp_seq_k (fun K221 hK222 => ?_)
    refine c_region ?_
    refine mv hR218 (fun a223 hR224 => ?_)
    refine r_neq sv hR224 rfl rfl rfl rfl (by decide) (fun a225 hR226 => ?_)
    refine mv hR226 (fun a227 hR228 => ?_)
    refine l_join (fun ga gw => Reg ga 142 [(0, .slice tA t.length tc), (1, .slice uA u.length uc), (2, .int .u8 ((kb : Nat) : Int)), (3, .int .u8 ((bb : Nat) : Int)), (8, .bool false), (9, .slice A114 ((erA t).length) c115), (11, .slice A141 ((erA u).length) c142), (62, .bool ((!(decide (((chk t)) = 0))) || (!(decide (((chk u)) = 0))))), (1000000, .bool false)] ∧ St w0 Z none_ gw [] [dShapes, dRow 4 tA t.length tc (encNs t), dRow 4 uA u.length uc (encNs u), dRow 4 A114 ((erA t).length) c115 (encNs (erA t)), dRow 4 A141 ((erA u).length) c142 (encNs (erA u))]) 3 ?_ ?_
    · skip
      rcases Decidable.em (((chk t)) = 0) with h229 | h229
      · skip
        have hct := h229
        obtain ⟨hest, hect, _⟩ := (twice_facts hct hst).1
        have hR230 := hR228.setb (d := 59) (b := false) rfl (by rw [(decide_eq_true h229)]; rfl)
        refine r_move (st_listV_w (wt hR230)) hR230 rfl rfl rfl (by decide) (fun a231 hR232 => ?_)
        refine r_neq (st_listV_w (wt hR232)) hR232 rfl rfl rfl rfl (by decide) (fun a233 hR234 => ?_)
        refine r_pick_f sv hR234 rfl rfl rfl rfl (by decide) (fun a235 hR236 => ?_)
        refine wpList_nil ?_
        exact x_then_n ⟨(hR236.sub (rc rfl (rc rfl (rc rfl (rc rfl (rc rfl (rc rfl (rc rfl (rc (rb rfl (by first | rfl | (simp only [decide_eq_true h229, if_pos h229, bl]; done) | (simp [h229]; done) | (simp [h229]; omega))) (rc rfl rnl)))))))))), hS212⟩
      · skip
        have hR237 := hR228.setb (d := 59) (b := true) rfl (by rw [(decide_eq_false h229)]; rfl)
        refine sps hR237 (wff hR237) (fun a238 hR239 => ?_)
        refine sps hR239 (wff hR239) (fun a240 hR241 => ?_)
        refine r_pick_t sv hR241 rfl rfl rfl rfl (by decide) (fun a242 hR243 => ?_)
        refine wpList_nil ?_
        exact x_then_n ⟨(hR243.sub (rc rfl (rc rfl (rc rfl (rc rfl (rc rfl (rc rfl (rc rfl (rc (rb rfl (by first | rfl | (simp only [decide_eq_false h229, if_neg h229, bl]; done) | (simp [h229]; done) | (simp [h229]; omega))) (rc rfl rnl)))))))))), hS212⟩
    rintro a244 w245 ⟨hR246, hS247⟩
    refine wpList_nil (x_then_n (hK222 _ _ ?_))
    rcases Bool.eq_false_or_eq_true (((!(decide (((chk t)) = 0))) || (!(decide (((chk u)) = 0))))) with h248 | h248
    · skip
      have hq249 := h248
      try simp only [Bool.or_eq_true, Bool.and_eq_true, Bool.not_eq_true', Bool.not_eq_false', decide_eq_true_eq, decide_eq_false_iff_not, Bool.or_eq_false_iff, Bool.and_eq_false_iff] at hq249
      have hR250 := hR246.setb (d := 62) (b := true) rfl h248
      refine wp_cond_true (hR250.ev rfl) ?_
      refine wp_seq_k (fun K251 hK252 => ?_)
      refine c_region ?_
      refine asg hR250 (fun a253 hR254 => ?_)
      refine wpList_nil (x_then_n (hK252 _ _ ?_))
      refine wp_ret ?_
      refine x_then_r ?_
      refine e_ret1 hR254 rfl rfl rfl ?_
      refine ⟨?_, hS247.fr⟩
      exact congrArg Ending.returned (ret_b (by first | rfl | assumption | exact decide_eq_true (by assumption) | (simp only [Bool.or_eq_true, decide_eq_true_eq]; exact hm2) | (simp [h82, h99, h100, h102, h198, h217, h248]; done)))
    · skip
      have h255 := or_fl h248
      have h256 := not_f h255
      have h257 := of_decide_eq_true h256
      have hct := h257
      obtain ⟨hest, hect, _⟩ := (twice_facts hct hst).1
      have h258 := or_fr h248
      have h259 := not_f h258
      have h260 := of_decide_eq_true h259
      have hcu := h260
      obtain ⟨hesu, hecu, _⟩ := (twice_facts hcu hsu).1
      have hR261 := hR246.setb (d := 62) (b := false) rfl h248
      refine wp_cond_false (hR261.ev rfl) ?_
      refine wp_skip ?_
      refine x_then_n (hK220 _ _ ?_)
      refine wp_seq_k (fun K262 hK263 => ?_)
      refine c_region ?_
      refine mv hR261 (fun a264 hR265 => ?_)
      refine r_conv sv hR265 rfl rfl rfl Tryd.underlying5 Tryd.underlying3 (by decide) (by omega) (by omega) (fun a266 hR267 => ?_)
      refine r_rem (z := (((kb) % 10 : Nat) : Int)) sv hR267 rfl rfl rfl rfl (by decide) (tmod_nat (kb) 10) (by decide) (fun a268 hR269 => ?_)
      refine asg hR269 (fun a270 hR271 => ?_)
      refine wpList_nil (x_then_n (hK263 _ _ ?_))
      refine wp_seq_k (fun K272 hK273 => ?_)
      refine c_region ?_
      refine mv hR271 (fun a274 hR275 => ?_)
      refine mv hR275 (fun a276 hR277 => ?_)
      refine mv hR277 (fun a278 hR279 => ?_)
      have hS280 : St w0 Z none_ w245 [] [dShapes, dRow 4 tA t.length tc (encNs t), dRow 4 uA u.length uc (encNs u), dRow 4 A114 ((erA t).length) c115 (encNs (erA t)), dRow 4 A141 ((erA u).length) c142 (encNs (erA u))] := hS247
      refine k_call (xs := [.tmp 67, .tmp 68, .tmp 69]) se hR279 rfl rfl rfl (by decide) ok29 (rSubst_calls _ (imm Z w0 [] _) (fun _ h => h.1) tA tc t (((kb) % 10 : Nat) : Int) uA uc u (hS280.get (i := 1) rfl) (hS280.get (i := 2) rfl) (by first | assumption | omega | (simp; done) | (simp; omega)) (by first | assumption | omega | (simp; done) | (simp; omega)) (by first | assumption | omega | (simp; done) | (simp; omega)) (by first | assumption | omega | (simp; done) | (simp; omega))) ?_
      rintro e290 w282 ⟨A286, c287, rfl, hf285, hd288⟩
      have hS291 := hS280.below hf285.below
      have hS292 := hS291.data (dRow 4 A286 ((suA t (((kb) % 10 : Nat) : Int) u).length) c287 (encNs (suA t (((kb) % 10 : Nat) : Int) u))) ⟨hd288.1, hd288.2.mono (fun _ hk => ⟨nxt_imm hS280 hk, rfl⟩)⟩
      refine ⟨_, rfl, fun a281 hR283 => ?_⟩
      refine mv hR283 (fun a293 hR294 => ?_)
      refine r_extract sv hR294 rfl rfl rfl rfl (by decide) (fun a295 hR296 => ?_)
      refine r_extract sv hR296 rfl rfl rfl rfl (by decide) (fun a297 hR298 => ?_)
      refine asg hR298 (fun a299 hR300 => ?_)
      refine asg hR300 (fun a301 hR302 => ?_)
      refine wpList_nil (x_then_n (hK273 _ _ ?_))
      refine wp_seq_k (fun K303 hK304 => ?_)
      refine c_region ?_
      refine mv hR302 (fun a305 hR306 => ?_)
      refine mv hR306 (fun a307 hR308 => ?_)
      refine mv hR308 (fun a309 hR310 => ?_)
      have hS311 : St w0 Z none_ w282 [] [dShapes, dRow 4 tA t.length tc (encNs t), dRow 4 uA u.length uc (encNs u), dRow 4 A114 ((erA t).length) c115 (encNs (erA t)), dRow 4 A141 ((erA u).length) c142 (encNs (erA u)), dRow 4 A286 ((suA t (((kb) % 10 : Nat) : Int) u).length) c287 (encNs (suA t (((kb) % 10 : Nat) : Int) u))] := hS292
      refine k_call (xs := [.tmp 74, .tmp 75, .tmp 76]) se hR310 rfl rfl rfl (by decide) ok29 (rSubst_calls _ (imm Z w0 [] _) (fun _ h => h.1) A114 c115 (erA t) (((kb) % 10 : Nat) : Int) A141 c142 (erA u) (hS311.get (i := 3) rfl) (hS311.get (i := 4) rfl) (by first | assumption | omega | (simp; done) | (simp; omega)) (by first | assumption | omega | (simp; done) | (simp; omega)) (by first | assumption | omega | (simp; done) | (simp; omega)) (by first | assumption | omega | (simp; done) | (simp; omega))) ?_
      rintro e321 w313 ⟨A317, c318, rfl, hf316, hd319⟩
      have hS322 := hS311.below hf316.below
      have hS323 := hS322.data (dRow 4 A317 ((suA (erA t) (((kb) % 10 : Nat) : Int) (erA u)).length) c318 (encNs (suA (erA t) (((kb) % 10 : Nat) : Int) (erA u)))) ⟨hd319.1, hd319.2.mono (fun _ hk => ⟨nxt_imm hS311 hk, rfl⟩)⟩
      refine ⟨_, rfl, fun a312 hR314 => ?_⟩
      refine mv hR314 (fun a324 hR325 => ?_)
      refine r_extract sv hR325 rfl rfl rfl rfl (by decide) (fun a326 hR327 => ?_)
      refine r_extract sv hR327 rfl rfl rfl rfl (by decide) (fun a328 hR329 => ?_)
      refine asg hR329 (fun a330 hR331 => ?_)
      refine asg hR331 (fun a332 hR333 => ?_)
      refine wpList_nil (x_then_n (hK304 _ _ ?_))
      refine c_join (fun ga gw => Reg ga 142 [(0, .slice tA t.length tc), (3, .int .u8 ((bb : Nat) : Int)), (8, .bool false), (9, .slice A114 ((erA t).length) c115), (13, .int .i64 (((kb) % 10 : Nat) : Int)), (1000000, .bool false)] ∧ St w0 Z none_ gw [] [dShapes, dRow 4 tA t.length tc (encNs t), dRow 4 uA u.length uc (encNs u), dRow 4 A114 ((erA t).length) c115 (encNs (erA t)), dRow 4 A141 ((erA u).length) c142 (encNs (erA u)), dRow 4 A286 ((suA t (((kb) % 10 : Nat) : Int) u).length) c287 (encNs (suA t (((kb) % 10 : Nat) : Int) u)), dRow 4 A317 ((suA (erA t) (((kb) % 10 : Nat) : Int) (erA u)).length) c318 (encNs (suA (erA t) (((kb) % 10 : Nat) : Int) (erA u)))]) ?_ ?_
      · skip
        refine wp_seq_k (fun K334 hK335 => ?_)
        refine c_region ?_
        refine mv hR333 (fun a336 hR337 => ?_)
        refine r_eql sv hR337 rfl rfl rfl rfl (by decide) (fun a338 hR339 => ?_)
        refine wpList_nil (x_then_n (hK335 _ _ ?_))
        rcases Decidable.em (((suE t (((kb) % 10 : Nat) : Int) u)) = 0) with h340 | h340
        · skip
          obtain ⟨hu1, hu2, hu3⟩ := moves_su hst hsu h340
          have hR341 := hR339.setb (d := 81) (b := true) rfl (decide_eq_true h340)
          refine wp_cond_true (hR341.ev rfl) ?_
          refine wp_seq_k (fun K342 hK343 => ?_)
          refine c_region ?_
          refine mv hR341 (fun a344 hR345 => ?_)
          have hS346 : St w0 Z none_ w313 [] [dShapes, dRow 4 tA t.length tc (encNs t), dRow 4 uA u.length uc (encNs u), dRow 4 A114 ((erA t).length) c115 (encNs (erA t)), dRow 4 A141 ((erA u).length) c142 (encNs (erA u)), dRow 4 A286 ((suA t (((kb) % 10 : Nat) : Int) u).length) c287 (encNs (suA t (((kb) % 10 : Nat) : Int) u)), dRow 4 A317 ((suA (erA t) (((kb) % 10 : Nat) : Int) (erA u)).length) c318 (encNs (suA (erA t) (((kb) % 10 : Nat) : Int) (erA u)))] := hS323
          refine k_call (xs := [.tmp 83]) se hR345 rfl rfl rfl (by decide) ok28 (erase_calls _ (imm Z w0 [] _) (fun _ h => h.1) A286 c287 (suA t (((kb) % 10 : Nat) : Int) u) (hS346.get (i := 0) rfl) (hS346.get (i := 5) rfl) (by first | assumption | exact suA_sml hst hsu | exact sfA_sml hst) (by first | omega | exact Nat.le_trans (suA_len _ _ _) (by omega) | exact Nat.le_trans (sfA_len _ _ _) (by omega))) ?_
          rintro e356 w348 ⟨A352, c353, rfl, hf351, hd354⟩
          have hS357 := hS346.below hf351.below
          have hS358 := hS357.data (dRow 4 A352 ((erA (suA t (((kb) % 10 : Nat) : Int) u)).length) c353 (encNs (erA (suA t (((kb) % 10 : Nat) : Int) u)))) ⟨hd354.1, hd354.2.mono (fun _ hk => ⟨nxt_imm hS346 hk, rfl⟩)⟩
          refine ⟨_, rfl, fun a347 hR349 => ?_⟩
          refine mv hR349 (fun a359 hR360 => ?_)
          refine r_extract sv hR360 rfl rfl rfl rfl (by decide) (fun a361 hR362 => ?_)
          refine r_extract sv hR362 rfl rfl rfl rfl (by decide) (fun a363 hR364 => ?_)
          refine asg hR364 (fun a365 hR366 => ?_)
          refine asg hR366 (fun a367 hR368 => ?_)
          refine wpList_nil (x_then_n (hK343 _ _ ?_))
          refine wp_seq_k (fun K369 hK370 => ?_)
          refine c_region ?_
          refine mv hR368 (fun a371 hR372 => ?_)
          refine r_neq sv hR372 rfl rfl rfl rfl (by decide) (fun a373 hR374 => ?_)
          refine mv hR374 (fun a375 hR376 => ?_)
          have h385 : ((suE (erA t) (((kb) % 10 : Nat) : Int) (erA u))) = 0 := hu1
          have hR386 := hR376.setb (d := 89) (b := false) rfl (by rw [(decide_eq_true h385)]; rfl)
          refine r_move (st_listV_w (wt hR386)) hR386 rfl rfl rfl (by decide) (fun a387 hR388 => ?_)
          refine r_neq (st_listV_w (wt hR388)) hR388 rfl rfl rfl rfl (by decide) (fun a389 hR390 => ?_)
          refine r_pick_f sv hR390 rfl rfl rfl rfl (by decide) (fun a391 hR392 => ?_)
          refine mv hR392 (fun a393 hR394 => ?_)
          have h414 : ((chk (suA t (((kb) % 10 : Nat) : Int) u))) = 0 := hu2
          have hR415 := hR394.setb (d := 93) (b := false) rfl (by rw [(decide_eq_true h414)]; rfl)
          refine r_move (st_listV_w (wt hR415)) hR415 rfl rfl rfl (by decide) (fun a416 hR417 => ?_)
          refine r_move (st_listV_w (wt hR417)) hR417 rfl rfl rfl (by decide) (fun a418 hR419 => ?_)
          have hS420 : St w0 Z none_ w348 [] [dShapes, dRow 4 tA t.length tc (encNs t), dRow 4 uA u.length uc (encNs u), dRow 4 A114 ((erA t).length) c115 (encNs (erA t)), dRow 4 A141 ((erA u).length) c142 (encNs (erA u)), dRow 4 A286 ((suA t (((kb) % 10 : Nat) : Int) u).length) c287 (encNs (suA t (((kb) % 10 : Nat) : Int) u)), dRow 4 A317 ((suA (erA t) (((kb) % 10 : Nat) : Int) (erA u)).length) c318 (encNs (suA (erA t) (((kb) % 10 : Nat) : Int) (erA u))), dRow 4 A352 ((erA (suA t (((kb) % 10 : Nat) : Int) u)).length) c353 (encNs (erA (suA t (((kb) % 10 : Nat) : Int) u)))] := hS358
          refine k_call (xs := [.tmp 94, .tmp 95]) (st_list_w (wt hR419)) hR419 rfl rfl rfl (by decide) ok30 (rsame_calls _ (imm Z w0 [] _) (fun _ h => h.1) A352 c353 (erA (suA t (((kb) % 10 : Nat) : Int) u)) A317 c318 (suA (erA t) (((kb) % 10 : Nat) : Int) (erA u)) (hS420.get (i := 7) rfl) (hS420.get (i := 6) rfl) (by first | omega | exact Nat.le_trans (erA_le _) (Nat.le_trans (suA_len _ _ _) (by omega)) | exact Nat.le_trans (erA_le _) (Nat.le_trans (sfA_len _ _ _) (by omega)))) ?_
          rintro e427 w422 ⟨rfl, hf425⟩
          have hS428 := hS420.below hf425.below
          refine ⟨_, rfl, fun a421 hR423 => ?_⟩
          refine r_not (st_listV_w (wt hR423)) hR423 rfl rfl rfl (by decide) (fun a429 hR430 => ?_)
          refine r_pick_f sv hR430 rfl rfl rfl rfl (by decide) (fun a431 hR432 => ?_)
          refine wpList_nil (x_then_n (hK370 _ _ ?_))
          have h433 : (decide ((erA (suA t (((kb) % 10 : Nat) : Int) u)) = (suA (erA t) (((kb) % 10 : Nat) : Int) (erA u)))) = true := decide_eq_true hu3
          have h434 := of_decide_eq_true h433
          have hR435 := hR432.setb (d := 98) (b := false) rfl (by rw [h433]; rfl)
          refine wp_cond_false (hR435.ev rfl) ?_
          refine wp_skip ?_
          exact x_then_n ⟨(hR435.sub (rc rfl (rc rfl (rc rfl (rc rfl (rc rfl (rc rfl rnl))))))), (hS428.forget 7)⟩
        · skip
          have hR436 := hR339.setb (d := 81) (b := false) rfl (decide_eq_false h340)
          refine wp_cond_false (hR436.ev rfl) ?_
          refine wp_skip ?_
          exact x_then_n ⟨(hR436.sub (rc rfl (rc rfl (rc rfl (rc rfl (rc rfl (rc rfl rnl))))))), hS323⟩
      rintro a437 w438 ⟨hR439, hS440⟩
      refine wp_seq_k (fun K441 hK442 => ?_)
      refine c_region ?_
      refine mv hR439 (fun a443 hR444 => ?_)
      refine mv hR444 (fun a445 hR446 => ?_)
      refine r_conv sv hR446 rfl rfl rfl Tryd.underlying5 Tryd.underlying3 (by decide) (by omega) (by omega) (fun a447 hR448 => ?_)
      refine r_rem (z := (((bb) % 10 : Nat) : Int)) sv hR448 rfl rfl rfl rfl (by decide) (tmod_nat (bb) 10) (by decide) (fun a449 hR450 => ?_)
      refine mv hR450 (fun a451 hR452 => ?_)
      have hS453 : St w0 Z none_ w438 [] [dShapes, dRow 4 tA t.length tc (encNs t), dRow 4 uA u.length uc (encNs u), dRow 4 A114 ((erA t).length) c115 (encNs (erA t)), dRow 4 A141 ((erA u).length) c142 (encNs (erA u)), dRow 4 A286 ((suA t (((kb) % 10 : Nat) : Int) u).length) c287 (encNs (suA t (((kb) % 10 : Nat) : Int) u)), dRow 4 A317 ((suA (erA t) (((kb) % 10 : Nat) : Int) (erA u)).length) c318 (encNs (suA (erA t) (((kb) % 10 : Nat) : Int) (erA u)))] := hS440
      refine k_call (xs := [.tmp 100, .tmp 103, .tmp 104]) se hR452 rfl rfl rfl (by decide) ok24 (rShift_calls _ (imm Z w0 [] _) (fun _ h => h.1) tA tc t (((bb) % 10 : Nat) : Int) (((kb) % 10 : Nat) : Int) (hS453.get (i := 1) rfl) (by first | assumption | omega | (simp; done) | (simp; omega)) (by first | assumption | omega | (simp; done) | (simp; omega))) ?_
      rintro e463 w455 ⟨A459, c460, rfl, hf458, hd461⟩
      have hS464 := hS453.below hf458.below
      have hS465 := hS464.data (dRow 4 A459 ((sfA t (((bb) % 10 : Nat) : Int) (((kb) % 10 : Nat) : Int)).length) c460 (encNs (sfA t (((bb) % 10 : Nat) : Int) (((kb) % 10 : Nat) : Int)))) ⟨hd461.1, hd461.2.mono (fun _ hk => ⟨nxt_imm hS453 hk, rfl⟩)⟩
      refine ⟨_, rfl, fun a454 hR456 => ?_⟩
      refine mv hR456 (fun a466 hR467 => ?_)
      refine r_extract sv hR467 rfl rfl rfl rfl (by decide) (fun a468 hR469 => ?_)
      refine r_extract sv hR469 rfl rfl rfl rfl (by decide) (fun a470 hR471 => ?_)
      refine asg hR471 (fun a472 hR473 => ?_)
      refine asg hR473 (fun a474 hR475 => ?_)
      refine wpList_nil (x_then_n (hK442 _ _ ?_))
      refine wp_seq_k (fun K476 hK477 => ?_)
      refine c_region ?_
      refine mv hR475 (fun a478 hR479 => ?_)
      refine mv hR479 (fun a480 hR481 => ?_)
      refine r_conv sv hR481 rfl rfl rfl Tryd.underlying5 Tryd.underlying3 (by decide) (by omega) (by omega) (fun a482 hR483 => ?_)
      refine r_rem (z := (((bb) % 10 : Nat) : Int)) sv hR483 rfl rfl rfl rfl (by decide) (tmod_nat (bb) 10) (by decide) (fun a484 hR485 => ?_)
      refine mv hR485 (fun a486 hR487 => ?_)
      have hS488 : St w0 Z none_ w455 [] [dShapes, dRow 4 tA t.length tc (encNs t), dRow 4 uA u.length uc (encNs u), dRow 4 A114 ((erA t).length) c115 (encNs (erA t)), dRow 4 A141 ((erA u).length) c142 (encNs (erA u)), dRow 4 A286 ((suA t (((kb) % 10 : Nat) : Int) u).length) c287 (encNs (suA t (((kb) % 10 : Nat) : Int) u)), dRow 4 A317 ((suA (erA t) (((kb) % 10 : Nat) : Int) (erA u)).length) c318 (encNs (suA (erA t) (((kb) % 10 : Nat) : Int) (erA u))), dRow 4 A459 ((sfA t (((bb) % 10 : Nat) : Int) (((kb) % 10 : Nat) : Int)).length) c460 (encNs (sfA t (((bb) % 10 : Nat) : Int) (((kb) % 10 : Nat) : Int)))] := hS465
      refine k_call (xs := [.tmp 109, .tmp 112, .tmp 113]) se hR487 rfl rfl rfl (by decide) ok24 (rShift_calls _ (imm Z w0 [] _) (fun _ h => h.1) A114 c115 (erA t) (((bb) % 10 : Nat) : Int) (((kb) % 10 : Nat) : Int) (hS488.get (i := 3) rfl) (by first | assumption | omega | (simp; done) | (simp; omega)) (by first | assumption | omega | (simp; done) | (simp; omega))) ?_
      rintro e498 w490 ⟨A494, c495, rfl, hf493, hd496⟩
      have hS499 := hS488.below hf493.below
      have hS500 := hS499.data (dRow 4 A494 ((sfA (erA t) (((bb) % 10 : Nat) : Int) (((kb) % 10 : Nat) : Int)).length) c495 (encNs (sfA (erA t) (((bb) % 10 : Nat) : Int) (((kb) % 10 : Nat) : Int)))) ⟨hd496.1, hd496.2.mono (fun _ hk => ⟨nxt_imm hS488 hk, rfl⟩)⟩
      refine ⟨_, rfl, fun a489 hR491 => ?_⟩
      refine mv hR491 (fun a501 hR502 => ?_)
      refine r_extract sv hR502 rfl rfl rfl rfl (by decide) (fun a503 hR504 => ?_)
      refine r_extract sv hR504 rfl rfl rfl rfl (by decide) (fun a505 hR506 => ?_)
      refine asg hR506 (fun a507 hR508 => ?_)
      refine asg hR508 (fun a509 hR510 => ?_)
      refine wpList_nil (x_then_n (hK477 _ _ ?_))
      refine wp_seq_k (fun K511 hK512 => ?_)
      refine wp_seq_k (fun K513 hK514 => ?_)
      refine c_region ?_
      refine mv hR510 (fun a515 hR516 => ?_)
      refine r_neq sv hR516 rfl rfl rfl rfl (by decide) (fun a517 hR518 => ?_)
      refine wpList_nil (x_then_n (hK514 _ _ ?_))
      rcases Decidable.em (((sfE t (((bb) % 10 : Nat) : Int) (((kb) % 10 : Nat) : Int))) = 0) with h519 | h519
      · skip
        obtain ⟨hm1, hm3, hm4⟩ := (moves_sf hct hst (by omega)).1 h519
        have hR520 := hR518.setb (d := 118) (b := false) rfl (by rw [(decide_eq_true h519)]; rfl)
        refine wp_cond_false (hR520.ev rfl) ?_
        refine wp_skip ?_
        refine x_then_n (hK512 _ _ ?_)
        refine wp_seq_k (fun K521 hK522 => ?_)
        refine c_region ?_
        refine mv hR520 (fun a523 hR524 => ?_)
        have hS525 : St w0 Z none_ w490 [] [dShapes, dRow 4 tA t.length tc (encNs t), dRow 4 uA u.length uc (encNs u), dRow 4 A114 ((erA t).length) c115 (encNs (erA t)), dRow 4 A141 ((erA u).length) c142 (encNs (erA u)), dRow 4 A286 ((suA t (((kb) % 10 : Nat) : Int) u).length) c287 (encNs (suA t (((kb) % 10 : Nat) : Int) u)), dRow 4 A317 ((suA (erA t) (((kb) % 10 : Nat) : Int) (erA u)).length) c318 (encNs (suA (erA t) (((kb) % 10 : Nat) : Int) (erA u))), dRow 4 A459 ((sfA t (((bb) % 10 : Nat) : Int) (((kb) % 10 : Nat) : Int)).length) c460 (encNs (sfA t (((bb) % 10 : Nat) : Int) (((kb) % 10 : Nat) : Int))), dRow 4 A494 ((sfA (erA t) (((bb) % 10 : Nat) : Int) (((kb) % 10 : Nat) : Int)).length) c495 (encNs (sfA (erA t) (((bb) % 10 : Nat) : Int) (((kb) % 10 : Nat) : Int)))] := hS500
        refine k_call (xs := [.tmp 127]) se hR524 rfl rfl rfl (by decide) ok28 (erase_calls _ (imm Z w0 [] _) (fun _ h => h.1) A459 c460 (sfA t (((bb) % 10 : Nat) : Int) (((kb) % 10 : Nat) : Int)) (hS525.get (i := 0) rfl) (hS525.get (i := 7) rfl) (by first | assumption | exact suA_sml hst hsu | exact sfA_sml hst) (by first | omega | exact Nat.le_trans (suA_len _ _ _) (by omega) | exact Nat.le_trans (sfA_len _ _ _) (by omega))) ?_
        rintro e535 w527 ⟨A531, c532, rfl, hf530, hd533⟩
        have hS536 := hS525.below hf530.below
        have hS537 := hS536.data (dRow 4 A531 ((erA (sfA t (((bb) % 10 : Nat) : Int) (((kb) % 10 : Nat) : Int))).length) c532 (encNs (erA (sfA t (((bb) % 10 : Nat) : Int) (((kb) % 10 : Nat) : Int))))) ⟨hd533.1, hd533.2.mono (fun _ hk => ⟨nxt_imm hS525 hk, rfl⟩)⟩
        refine ⟨_, rfl, fun a526 hR528 => ?_⟩
        refine mv hR528 (fun a538 hR539 => ?_)
        refine r_extract sv hR539 rfl rfl rfl rfl (by decide) (fun a540 hR541 => ?_)
        refine r_extract sv hR541 rfl rfl rfl rfl (by decide) (fun a542 hR543 => ?_)
        refine asg hR543 (fun a544 hR545 => ?_)
        refine asg hR545 (fun a546 hR547 => ?_)
        refine wpList_nil (x_then_n (hK522 _ _ ?_))
        refine wp_seq_k (fun K548 hK549 => ?_)
        refine c_region ?_
        refine mv hR547 (fun a550 hR551 => ?_)
        refine r_eql sv hR551 rfl rfl rfl rfl (by decide) (fun a552 hR553 => ?_)
        refine mv hR553 (fun a554 hR555 => ?_)
        have h564 : ((sfE (erA t) (((bb) % 10 : Nat) : Int) (((kb) % 10 : Nat) : Int))) = 0 := hm1
        have hR565 := hR555.setb (d := 133) (b := true) rfl (decide_eq_true h564)
        refine r_move (st_listV_w (wt hR565)) hR565 rfl rfl rfl (by decide) (fun a566 hR567 => ?_)
        refine r_eql (st_listV_w (wt hR567)) hR567 rfl rfl rfl rfl (by decide) (fun a568 hR569 => ?_)
        refine r_pick_t sv hR569 rfl rfl rfl rfl (by decide) (fun a570 hR571 => ?_)
        refine mv hR571 (fun a572 hR573 => ?_)
        have h591 : ((chk (sfA t (((bb) % 10 : Nat) : Int) (((kb) % 10 : Nat) : Int)))) = 0 := hm3
        have hR592 := hR573.setb (d := 137) (b := true) rfl (decide_eq_true h591)
        refine r_move (st_listV_w (wt hR592)) hR592 rfl rfl rfl (by decide) (fun a593 hR594 => ?_)
        refine r_move (st_listV_w (wt hR594)) hR594 rfl rfl rfl (by decide) (fun a595 hR596 => ?_)
        have hS597 : St w0 Z none_ w527 [] [dShapes, dRow 4 tA t.length tc (encNs t), dRow 4 uA u.length uc (encNs u), dRow 4 A114 ((erA t).length) c115 (encNs (erA t)), dRow 4 A141 ((erA u).length) c142 (encNs (erA u)), dRow 4 A286 ((suA t (((kb) % 10 : Nat) : Int) u).length) c287 (encNs (suA t (((kb) % 10 : Nat) : Int) u)), dRow 4 A317 ((suA (erA t) (((kb) % 10 : Nat) : Int) (erA u)).length) c318 (encNs (suA (erA t) (((kb) % 10 : Nat) : Int) (erA u))), dRow 4 A459 ((sfA t (((bb) % 10 : Nat) : Int) (((kb) % 10 : Nat) : Int)).length) c460 (encNs (sfA t (((bb) % 10 : Nat) : Int) (((kb) % 10 : Nat) : Int))), dRow 4 A494 ((sfA (erA t) (((bb) % 10 : Nat) : Int) (((kb) % 10 : Nat) : Int)).length) c495 (encNs (sfA (erA t) (((bb) % 10 : Nat) : Int) (((kb) % 10 : Nat) : Int))), dRow 4 A531 ((erA (sfA t (((bb) % 10 : Nat) : Int) (((kb) % 10 : Nat) : Int))).length) c532 (encNs (erA (sfA t (((bb) % 10 : Nat) : Int) (((kb) % 10 : Nat) : Int))))] := hS537
        refine k_call (xs := [.tmp 138, .tmp 139]) (st_list_w (wt hR596)) hR596 rfl rfl rfl (by decide) ok30 (rsame_calls _ (imm Z w0 [] _) (fun _ h => h.1) A531 c532 (erA (sfA t (((bb) % 10 : Nat) : Int) (((kb) % 10 : Nat) : Int))) A494 c495 (sfA (erA t) (((bb) % 10 : Nat) : Int) (((kb) % 10 : Nat) : Int)) (hS597.get (i := 9) rfl) (hS597.get (i := 8) rfl) (by first | omega | exact Nat.le_trans (erA_le _) (Nat.le_trans (suA_len _ _ _) (by omega)) | exact Nat.le_trans (erA_le _) (Nat.le_trans (sfA_len _ _ _) (by omega)))) ?_
        rintro e604 w599 ⟨rfl, hf602⟩
        have hS605 := hS597.below hf602.below
        refine ⟨_, rfl, fun a598 hR600 => ?_⟩
        refine r_pick_t sv hR600 rfl rfl rfl rfl (by decide) (fun a606 hR607 => ?_)
        refine asg hR607 (fun a608 hR609 => ?_)
        refine wpList_nil (x_then_n (hK549 _ _ ?_))
        refine wp_ret ?_
        refine e_ret1 hR609 rfl rfl rfl ?_
        have h610 : (decide ((erA (sfA t (((bb) % 10 : Nat) : Int) (((kb) % 10 : Nat) : Int))) = (sfA (erA t) (((bb) % 10 : Nat) : Int) (((kb) % 10 : Nat) : Int)))) = true := decide_eq_true hm4
        refine ⟨?_, hS605.fr⟩
        exact congrArg Ending.returned (ret_b (by first | rfl | assumption | exact decide_eq_true (by assumption) | (simp only [Bool.or_eq_true, decide_eq_true_eq]; exact hm2) | (simp [h82, h99, h100, h102, h198, h217, h248, h257, h260, h519, h564, h591, h610]; done)))
      · skip
        have hm2 := (moves_sf hct hst (by omega)).2 h519
        have hR611 := hR518.setb (d := 118) (b := true) rfl (by rw [(decide_eq_false h519)]; rfl)
        refine wp_cond_true (hR611.ev rfl) ?_
        refine wp_seq_k (fun K612 hK613 => ?_)
        refine c_region ?_
        refine mv hR611 (fun a614 hR615 => ?_)
        refine r_eql sv hR615 rfl rfl rfl rfl (by decide) (fun a616 hR617 => ?_)
        refine mv hR617 (fun a618 hR619 => ?_)
        refine l_join (fun ga gw => Reg ga 142 [(8, .bool false), (20, .slice A459 ((sfA t (((bb) % 10 : Nat) : Int) (((kb) % 10 : Nat) : Int)).length) c460), (22, .slice A494 ((sfA (erA t) (((bb) % 10 : Nat) : Int) (((kb) % 10 : Nat) : Int)).length) c495), (23, .int .i64 ((sfE (erA t) (((bb) % 10 : Nat) : Int) (((kb) % 10 : Nat) : Int)))), (125, .bool ((decide (((sfE (erA t) (((bb) % 10 : Nat) : Int) (((kb) % 10 : Nat) : Int))) = 0)) || (decide (((sfE (erA t) (((bb) % 10 : Nat) : Int) (((kb) % 10 : Nat) : Int))) = ((sfE t (((bb) % 10 : Nat) : Int) (((kb) % 10 : Nat) : Int))))))), (1000000, .bool false)] ∧ St w0 Z none_ gw [] [dShapes, dRow 4 tA t.length tc (encNs t), dRow 4 uA u.length uc (encNs u), dRow 4 A114 ((erA t).length) c115 (encNs (erA t)), dRow 4 A141 ((erA u).length) c142 (encNs (erA u)), dRow 4 A286 ((suA t (((kb) % 10 : Nat) : Int) u).length) c287 (encNs (suA t (((kb) % 10 : Nat) : Int) u)), dRow 4 A317 ((suA (erA t) (((kb) % 10 : Nat) : Int) (erA u)).length) c318 (encNs (suA (erA t) (((kb) % 10 : Nat) : Int) (erA u))), dRow 4 A459 ((sfA t (((bb) % 10 : Nat) : Int) (((kb) % 10 : Nat) : Int)).length) c460 (encNs (sfA t (((bb) % 10 : Nat) : Int) (((kb) % 10 : Nat) : Int))), dRow 4 A494 ((sfA (erA t) (((bb) % 10 : Nat) : Int) (((kb) % 10 : Nat) : Int)).length) c495 (encNs (sfA (erA t) (((bb) % 10 : Nat) : Int) (((kb) % 10 : Nat) : Int)))]) 4 ?_ ?_
        · skip
          rcases Decidable.em (((sfE (erA t) (((bb) % 10 : Nat) : Int) (((kb) % 10 : Nat) : Int))) = 0) with h620 | h620
          · skip
            have hR621 := hR619.setb (d := 121) (b := true) rfl (decide_eq_true h620)
            refine sps hR621 (wff hR621) (fun a622 hR623 => ?_)
            refine sps hR623 (wff hR623) (fun a624 hR625 => ?_)
            refine sps hR625 (wff hR625) (fun a626 hR627 => ?_)
            refine r_pick_t sv hR627 rfl rfl rfl rfl (by decide) (fun a628 hR629 => ?_)
            refine wpList_nil ?_
            exact x_then_n ⟨(hR629.sub (rc rfl (rc rfl (rc rfl (rc rfl (rc (rb rfl (by first | rfl | (simp only [decide_eq_true h620, if_pos h620, bl]; done) | (simp [h620]; done) | (simp [h620]; omega))) (rc rfl rnl))))))), hS500⟩
          · skip
            have hR630 := hR619.setb (d := 121) (b := false) rfl (decide_eq_false h620)
            refine r_move (st_listV_w (wt hR630)) hR630 rfl rfl rfl (by decide) (fun a631 hR632 => ?_)
            refine r_move (st_listV_w (wt hR632)) hR632 rfl rfl rfl (by decide) (fun a633 hR634 => ?_)
            refine r_eql (st_listV_w (wt hR634)) hR634 rfl rfl rfl rfl (by decide) (fun a635 hR636 => ?_)
            refine r_pick_f sv hR636 rfl rfl rfl rfl (by decide) (fun a637 hR638 => ?_)
            refine wpList_nil ?_
            exact x_then_n ⟨(hR638.sub (rc rfl (rc rfl (rc rfl (rc rfl (rc (rb rfl (by first | rfl | (simp only [decide_eq_false h620, if_neg h620, bl]; done) | (simp [h620]; done) | (simp [h620]; omega))) (rc rfl rnl))))))), hS500⟩
        rintro a639 w640 ⟨hR641, hS642⟩
        refine asg hR641 (fun a643 hR644 => ?_)
        refine wpList_nil (x_then_n (hK613 _ _ ?_))
        refine wp_ret ?_
        refine x_then_r ?_
        refine e_ret1 hR644 rfl rfl rfl ?_
        refine ⟨?_, hS642.fr⟩
        exact congrArg Ending.returned (ret_b (by first | rfl | assumption | exact decide_eq_true (by assumption) | (simp only [Bool.or_eq_true, decide_eq_true_eq]; exact hm2) | (simp [h82, h99, h100, h102, h198, h217, h248, h257, h260, h519]; done)))
end Go.Proofs.YtobgdeffhdefeaaDoor
/- From a row's reading to cells, and back: slices of nodes, the table of shapes, arguments that nobody changed. -/
namespace Go.Proofs.YtobgdeffhdefeaaDoor
set_option linter.unusedSimpArgs false
set_option linter.unusedVariables false
open Go Go.RowKit Go.WideShapes Go.ChangeShapes

theorem kids : Kids Tryd.prog (· < Tryd.prog.types.size) := kids_rows (by kernel_rfl) (by kernel_rfl)
theorem slicesFull : ∀ t e, t < Tryd.prog.types.size → Tryd.prog.underlying t = some (.slice e) → 0 < Tryd.prog.cellsOf e := slices_full_of Tryd.prog (by kernel_rfl)
theorem ownKnobNone : ownKnob Tryd.prog.godebug = none := by kernel_rfl

section
variable {H : Type} {enc : TypeId × Value → H} {P : Program} {w W W' : World}
/-- What lay in old blocks reads as it did. -/
theorem trodAll_carry {base : Nat} {sp : Nat → Bool} {held : Bool} : ∀ {ts : List TypeId} {vs : List Value} {ds : List (DataW H)} {ps : List MemPlace},
    DataW.TrodAll enc P W base sp held ts vs ds ps → (∀ p ∈ ps, W.sameAt W' p) → DataW.TrodAll enc P W' base sp held ts vs ds ps
  | [], [], [], _, h, _ => h
  | _ :: _, _ :: _, _ :: _, _, ⟨p, q, ⟨n, h1⟩, h2, e⟩, hs =>
    ⟨p, q, ⟨n, DataW.trod_carry n _ _ _ h1 (fun x hx => hs x (by rw [e]; exact List.mem_append_left _ hx))⟩,
      trodAll_carry h2 (fun x hx => hs x (by rw [e]; exact List.mem_append_right _ hx)), e⟩
  | [], [], _ :: _, _, h, _ => h.elim
  | [], _ :: _, _, _, h, _ => h.elim
  | _ :: _, [], _, _, h, _ => h.elim
  | _ :: _, _ :: _, [], _, h, _ => h.elim
theorem sameAt_below (hb : Below W.heap.size W W') {p : MemPlace} (hp : p.block < W.heap.size) : W.sameAt W' p := by
  cases p with
  | cell b off => exact hb.cell (p := ⟨b, off, none⟩) hp
  | map b => exact hb.block b hp
/-- The last step of a row of a law that returns true and changes nothing old. -/
theorem post_true {f : Func} {s : ChangeSpec} {apart fresh handsOn again : Bool} {args : Array Value} {ds : List (DataW H)} {before : List MemPlace}
    (K : Kids P (· < P.types.size)) (hz : ∀ t e, t < P.types.size → P.underlying t = some (.slice e) → 0 < P.cellsOf e) (hts : ∀ t ∈ f.params.toList, t < P.types.size)
    (hvars : s.vars = []) (hW : DataW.Whole enc P f.params.toList s.vars apart W args.toList ds [] before)
    {tb : TypeId} (hrt : f.resultTypes = #[tb]) (htb : P.underlying tb = some .bool)
    (hfn : (s.fn H ds).results = [.lit (.bool true)] ∧ (s.fn H ds).args = ds ∧ (s.fn H ds).vars = []) (hb : Below W.heap.size W W') :
    s.post enc P f apart fresh handsOn again W args (.bool true) W' := by
  have hlt : ∀ p ∈ before, p.block < W.heap.size := fun p hp => hW.lt p hp
  have hold : ∀ p ∈ before, (fun b => decide (b < W.heap.size)) p.block = true := fun p hp => by simpa using hlt p hp
  have hW0 := hW
  obtain ⟨p, q, hA, hV, he, hzf, hn⟩ := hW0
  rw [hvars] at hV
  have hq : q = [] := hV
  subst hq
  rw [List.append_nil] at he
  subst he
  have hA' := trodAll_carry (W' := W') hA (fun x hx => sameAt_below hb (hlt x hx))
  have hres : ∀ (b : Nat) (sp : Nat → Bool) (hd : Bool), DataW.TrodAll enc P W' b sp hd f.resultTypes.toList ((Value.bool true).resultList f.resultTypes.size) (s.fn H ds).results [] := fun b sp hd => by
    rw [hfn.1, hrt]
    exact trodAll_mk1 (shut_bool htb true)
  refine ⟨ds, [], before, [], before, [], hW, ?_, ?_, ?_, World.keptBut_mono (fun p hp => ⟨hp, .inr (.inl hp)⟩) (hb.frame (· ∈ before)), fun _ => ⟨?_, ?_⟩⟩
  · rw [List.append_nil]; exact hres _ _ _
  · rw [List.append_nil, hfn.2.1]
    exact DataW.TrodAll.respare K hz hts hA' hold
  · rw [List.append_nil, hfn.2.2, hvars]
    exact rfl
  · exact ok_one hrt rfl (okWide_bool_mk htb true)
  · refine ⟨[.lit (.bool true)] ++ ds, [], [] ++ before, ⟨[] ++ before, [], ?_, ?_, by simp, ?_, ?_⟩, ?_⟩
    · rw [hrt]
      exact trodAll_append hA' (trodAll_mk1 (shut_bool htb true))
    · rw [hvars]
      exact rfl
    · intro b off hp
      have hin : MemPlace.cell b off ∈ before := by simpa using hp
      rw [hb.frozen (hlt _ hin)]
      exact hzf b off hin
    · intro ha
      simpa using hn ha
    · intro x hx _
      simpa using hx
end

section
variable {H : Type} {enc : TypeId × Value → H} {w : World}
theorem lt_of_cell {p : Addr} {v : Value} (h : w.cell? p = some v) : p.block < w.heap.size := by
  unfold World.cell? at h
  cases ho : w.heap[p.block]? with
  | none => simp [ho] at h
  | some o => exact (Array.getElem?_eq_some_iff.1 ho).1
set_option maxRecDepth 100000 in
/-- A node's four cells, read. -/
theorem node_cells {base : Nat} {sp : Nat → Bool} {held : Bool} {n : Nat} {cs : List Value} {x : DataW H × List MemPlace} (h : DataW.trod enc Tryd.prog w base sp held n 32 cs = some x) : ∃ nd : Nd, cs = encN nd := by
  have hu : Tryd.prog.underlying 32 = some (.struct (Tryd.prog.fieldsOf 32)) := by kernel_rfl
  have hf : (Tryd.prog.fieldsOf 32).toList.map (fun f => (f.type, f.offset)) = [(3, 0), (3, 1), (3, 2), (9, 3)] := by kernel_rfl
  have hci : Tryd.prog.cellsOf 3 = 1 := by kernel_rfl
  have hcs : Tryd.prog.cellsOf 9 = 1 := by kernel_rfl
  have hcn : Tryd.prog.cellsOf 32 = 4 := by kernel_rfl
  obtain ⟨xs, m, _, _, hl, _, hg⟩ := DataW.trod_struct hu h
  rw [hcn] at hl
  have fld : ∀ (j : Nat) (t : TypeId) (off : Nat), ((Tryd.prog.fieldsOf 32).toList.map (fun f => (f.type, f.offset)))[j]? = some (t, off) → ∃ y, DataW.trod enc Tryd.prog w base sp held m t ((cs.drop off).take (Tryd.prog.cellsOf t)) = some y := by
    intro j t off hj
    rw [List.getElem?_map] at hj
    cases hfj : (Tryd.prog.fieldsOf 32).toList[j]? with
    | none => rw [hfj] at hj; cases hj
    | some f =>
      rw [hfj] at hj
      simp only [Option.map_some, Option.some.injEq, Prod.mk.injEq] at hj
      obtain ⟨rfl, rfl⟩ := hj
      have h1 := hg j f (by rw [← Array.getElem?_toList]; exact hfj)
      have hjl : j < (Tryd.prog.fieldsOf 32).size := by
        have := (List.getElem?_eq_some_iff.1 hfj).1
        simpa using this
      have hxl : j < xs.length := by omega
      exact ⟨xs[j], by rw [h1]; exact List.getElem?_eq_getElem hxl⟩
  rw [hf] at fld
  match cs, hl with
  | [c0, c1, c2, c3], _ =>
    obtain ⟨y0, h0⟩ := fld 0 _ _ rfl
    obtain ⟨y1, h1⟩ := fld 1 _ _ rfl
    obtain ⟨y2, h2⟩ := fld 2 _ _ rfl
    obtain ⟨y3, h3⟩ := fld 3 _ _ rfl
    rw [hci] at h0 h1 h2
    rw [hcs] at h3
    obtain ⟨a, ha, _⟩ := DataW.trod_int Tryd.underlying3 h0
    obtain ⟨b, hb, _⟩ := DataW.trod_int Tryd.underlying3 h1
    obtain ⟨c, hc, _⟩ := DataW.trod_int Tryd.underlying3 h2
    obtain ⟨s, hs, _⟩ := DataW.trod_string Tryd.underlying9 h3
    simp at ha hb hc hs
    exact ⟨⟨a, b, c, s⟩, by simp [encN, ha, hb, hc, hs]⟩
set_option maxRecDepth 100000 in
/-- An argument that is a slice of nodes. -/
theorem open_nodes {r : Reach} {base b0 : Nat} {sp : Nat → Bool} {held : Bool} {v : Value} {d : DataW H} {ps : List MemPlace} (hval : Value.okWide Tryd.prog w r b0 22 v) (hd : DataW.Trod enc Tryd.prog w base sp held 22 v d ps) :
    ∃ (A : Option Addr) (c : Nat) (t : List Nd), v = .slice A t.length c ∧ (dRow 4 A t.length c (encNs t)).φ w (fun k => k < w.heap.size) := by
  obtain ⟨A, len, cap, rfl⟩ := okWide_slice Tryd.underlying22 hval
  obtain ⟨fuel, hf⟩ := hd
  have hcn : Tryd.prog.cellsOf 32 = 4 := by kernel_rfl
  rcases Deep.open_slice Tryd.underlying22 hf with ⟨hcs, _⟩ | ⟨a, len', cap', m, n, D, Pl, hcs, _, hl, _, hm, _, hi⟩
  · simp [Value.cells] at hcs
    obtain ⟨rfl, rfl, rfl⟩ := hcs
    exact ⟨none, 0, [], rfl, Nat.le_refl _, rfl, fun h => absurd h (by simp)⟩
  · simp [Value.cells] at hcs
    obtain ⟨rfl, rfl, rfl⟩ := hcs
    have hmm : len ≤ m := by rw [hm]; split <;> omega
    have hnd : ∀ i, ∃ nd : Nd, i < len → w.cells? base (a.add (i * 4)) 4 = some (encN nd) := by
      intro i
      by_cases hil : i < len
      · obtain ⟨cs', hc, ht⟩ := hi i (by omega)
        obtain ⟨nd, rfl⟩ := node_cells ht
        rw [hcn] at hc
        exact ⟨nd, fun _ => hc⟩
      · exact ⟨ndz, fun h => absurd h hil⟩
    obtain ⟨f, hf'⟩ := Classical.axiomOfChoice hnd
    refine ⟨some a, cap, (List.range len).map f, by simp, ?_, ?_, fun hpos => ⟨a, rfl, ?_, ?_⟩⟩
    · simpa using hl
    · exact encNs_length _
    · have hp0 : 0 < len := by simpa using hpos
      obtain ⟨_, _, hat⟩ := World.cells?_some (hf' 0 hp0)
      have h0 := hat 0 (by omega)
      rw [add_of_add] at h0
      have := lt_of_cell (w := w) (p := a.add (0 * 4 + 0)) (by rw [h0]; rfl)
      rwa [block_of_add] at this
    · intro j u hu
      have hjl : j < len * 4 := by
        have h1 := (List.getElem?_eq_some_iff.1 hu).1
        rw [encNs_length] at h1
        simpa using h1
      have hi4 : j / 4 < len := by omega
      obtain ⟨_, hcl, hat⟩ := World.cells?_some (hf' (j / 4) hi4)
      have h1 := hat (j % 4) (by omega)
      rw [add_of_add, show j / 4 * 4 + j % 4 = j by omega] at h1
      rw [h1, ← hu]
      have h2 := enc_at encN_len ((List.range len).map f) (j / 4) (by simpa using hi4) ndz
      have h3 : (((List.range len).map f).getD (j / 4) ndz) = f (j / 4) := by simp [hi4]
      rw [h3] at h2
      have h4 : (encNs ((List.range len).map f))[j]? = (((((List.range len).map f).flatMap encN).drop (j / 4 * 4)).take 4)[j % 4]? := by
        rw [List.getElem?_take_of_lt (by omega), List.getElem?_drop, show j / 4 * 4 + j % 4 = j by omega]
        rfl
      rw [h4, h2]
end
end Go.Proofs.YtobgdeffhdefeaaDoor
/- An argument that is a byte. -/
namespace Go.Proofs.YtobgdeffhdefeaaDoor
set_option linter.unusedSimpArgs false
set_option linter.unusedVariables false
open Go Go.RowKit Go.WideShapes Go.ChangeShapes
section
variable {P : Program}
theorem okWide_byte {t : TypeId} {w : World} {r : Reach} {b0 : Nat} {v : Value} (ht : P.underlying t = some (.int .u8)) (h : Value.okWide P w r b0 t v) : ∃ b : Nat, v = .int .u8 (b : Int) ∧ b < 256 := by
  have h0 := h
  obtain ⟨n, rfl⟩ := okWide_int ht h
  simp only [Value.okWide, ht, Cell.okWide] at h0
  have h1 : IntKind.u8.has n := by simpa [Cell.ok, ht] using h0
  have h2 : (0 : Int) ≤ n ∧ n ≤ 255 := h1
  exact ⟨n.toNat, by rw [Int.toNat_of_nonneg h2.1], by omega⟩
end
set_option maxRecDepth 100000 in
theorem open_byte {w : World} {r : Reach} {b0 : Nat} {v : Value} (hval : Value.okWide Tryd.prog w r b0 5 v) : ∃ b : Nat, v = .int .u8 (b : Int) ∧ b < 256 := okWide_byte Tryd.underlying5 hval
end Go.Proofs.YtobgdeffhdefeaaDoor
/- The table of shapes: from the row's list to cells; a world that holds it. -/
namespace Go.Proofs.YtobgdeffhdefeaaDoor
set_option linter.unusedSimpArgs false
set_option linter.unusedVariables false
open Go Go.RowKit Go.WideShapes Go.ChangeShapes
set_option maxRecDepth 100000
/-- The datum of one shape. -/
def shapeD (k : Nat) : DataW Unit := .agg [(match (shp k).b with | [] => .nil | b => .slice (lits .i64 b) []), .lit (.bool (shp k).n), .lit (.bool (shp k).m), .lit (.bool (shp k).s)]
theorem laid_eq : (Rows.laid_cornice_term_shapes : DataW Unit) = .agg ((List.range 30).map shapeD) := by kernel_rfl
theorem encIs_map (l : List Int) : encIs l = l.map (fun n => Value.int .i64 n) := by
  induction l with
  | nil => rfl
  | cons x t ih => rw [List.map_cons, ← ih]; rfl
theorem shape_cells {w : World} {base : Nat} {sp : Nat → Bool} {held : Bool} {n : Nat} {cs : List Value} {k : Nat} {p : List MemPlace}
    (h : DataW.trod (fun _ => ()) Tryd.prog w base sp held n 129 cs = some (shapeD k, p)) :
    ∃ (A : Option Addr) (cap : Nat), cs = [.slice A (shp k).b.length cap, .bool (shp k).n, .bool (shp k).m, .bool (shp k).s] ∧ (shp k).b.length ≤ cap ∧ RowI w (fun k => k < w.heap.size) 1 A (shp k).b.length (encIs (shp k).b) := by
  have hu : Tryd.prog.underlying 129 = some (.struct (Tryd.prog.fieldsOf 129)) := by kernel_rfl
  have hf : (Tryd.prog.fieldsOf 129).toList.map (fun f => (f.type, f.offset)) = [(66, 0), (4, 1), (4, 2), (4, 3)] := by kernel_rfl
  have hci : Tryd.prog.cellsOf 66 = 1 := by kernel_rfl
  have hci1 : Tryd.prog.cellsOf 3 = 1 := by kernel_rfl
  have hcs : Tryd.prog.cellsOf 4 = 1 := by kernel_rfl
  have hcn : Tryd.prog.cellsOf 129 = 4 := by kernel_rfl
  obtain ⟨xs, m, _, hx, hl, hxl, hg⟩ := DataW.trod_struct hu h
  rw [hcn] at hl
  have hd : xs.map (·.1) = [(match (shp k).b with | [] => .nil | b => .slice (lits .i64 b) []), .lit (.bool (shp k).n), .lit (.bool (shp k).m), .lit (.bool (shp k).s)] := by
    have := congrArg Prod.fst hx
    simp only [shapeD] at this
    injection this with h1
    exact h1.symm
  have fld : ∀ (j : Nat) (t : TypeId) (off : Nat), ((Tryd.prog.fieldsOf 129).toList.map (fun f => (f.type, f.offset)))[j]? = some (t, off) → DataW.trod (fun _ => ()) Tryd.prog w base sp held m t ((cs.drop off).take (Tryd.prog.cellsOf t)) = xs[j]? := by
    intro j t off hj
    rw [List.getElem?_map] at hj
    cases hfj : (Tryd.prog.fieldsOf 129).toList[j]? with
    | none => rw [hfj] at hj; cases hj
    | some f =>
      rw [hfj] at hj
      simp only [Option.map_some, Option.some.injEq, Prod.mk.injEq] at hj
      obtain ⟨rfl, rfl⟩ := hj
      exact hg j f (by rw [← Array.getElem?_toList]; exact hfj)
  rw [hf] at fld
  match cs, hl, xs, hd with
  | [c0, c1, c2, c3], _, [y0, y1, y2, y3], hd =>
    simp only [List.map_cons, List.map_nil, List.cons.injEq, and_true] at hd
    obtain ⟨d0, d1, d2, d3⟩ := hd
    have h0 := fld 0 _ _ rfl
    have h1 := fld 1 _ _ rfl
    have h2 := fld 2 _ _ rfl
    have h3 := fld 3 _ _ rfl
    rw [hci] at h0
    rw [hcs] at h1 h2 h3
    obtain ⟨b1, e1, f1⟩ := DataW.trod_bool Tryd.underlying4 h1
    obtain ⟨b2, e2, f2⟩ := DataW.trod_bool Tryd.underlying4 h2
    obtain ⟨b3, e3, f3⟩ := DataW.trod_bool Tryd.underlying4 h3
    simp at e1 e2 e3
    simp [f1] at d1
    simp [f2] at d2
    simp [f3] at d3
    subst e1 e2 e3 d1 d2 d3
    rcases open_ints Tryd.underlying66 Tryd.underlying3 hci1 h0 with ⟨hcs0, hy⟩ | ⟨a, len, cap, zs, hcs0, _, hle, _, hzl, hy, hcell, _⟩
    · simp at hcs0
      subst hcs0
      rw [hy] at d0
      cases hb : (shp k).b with
      | nil => exact ⟨none, 0, by simp, by simp, by simp [encIs], fun h => absurd h (by simp)⟩
      | cons z zs => rw [hb] at d0; simp at d0
    · simp at hcs0
      subst hcs0
      rw [hy] at d0
      cases hb : (shp k).b with
      | nil => rw [hb] at d0; simp at d0
      | cons z l =>
        rw [hb] at d0
        simp only [DataW.slice.injEq] at d0
        obtain ⟨d4, d5⟩ := d0
        have hinj : ∀ a b : List Int, (lits .i64 a : List (DataW Unit)) = lits .i64 b → a = b := by
          intro a
          induction a with
          | nil => intro b hb; cases b with
            | nil => rfl
            | cons _ _ => simp [lits] at hb
          | cons x a ih => intro b hb; cases b with
            | nil => simp [lits] at hb
            | cons y b =>
              simp only [lits, List.map_cons, List.cons.injEq, DataW.lit.injEq, Lit.int.injEq, true_and] at hb
              rw [hb.1, ih b hb.2]
        have d6 := hinj _ _ d4
        have hll : len = (z :: l).length := by
          have := congrArg List.length d6
          rw [List.length_take] at this
          have hz : len ≤ zs.length := by rw [hzl]; split <;> omega
          omega
        subst hll
        refine ⟨some a, cap, rfl, hle, by simp [encIs_length], fun _ => ⟨a, rfl, ?_, ?_⟩⟩
        · have h9 := hcell 0 (by have hz2 : (z :: l).length ≤ zs.length := (by rw [hzl]; split <;> omega); rw [List.length_cons] at hz2; omega)
          have := lt_of_cell h9
          rwa [block_of_add] at this
        · intro j u hu
          have hjl : j < (z :: l).length := by
            have := (List.getElem?_eq_some_iff.1 hu).1
            rw [encIs_length] at this
            simpa using this
          have hzz : (z :: l).length ≤ zs.length := by rw [hzl]; split <;> omega
          rw [hcell j (by omega)]
          have h8 : (z :: l)[j]? = zs[j]? := by rw [← d6, List.getElem?_take_of_lt hjl]
          have h7 := encIs_map (z :: l)
          rw [h7, List.getElem?_map, h8] at hu
          cases hq : zs[j]? with
          | none => rw [hq] at hu; simp at hu
          | some q =>
            rw [hq] at hu
            simp only [Option.map_some, Option.some.injEq] at hu
            rw [← hu, List.getD_eq_getElem?_getD, hq]
            rfl
/-- What the row's list gives. -/
theorem shapes_of_laid {W : World} (h : laidMetH Tryd.prog [("cornice/term.shapes", Rows.laid_cornice_term_shapes)] W) : Shapes W (fun k => k < W.heap.size) := by
  have h' : laidMet Tryd.prog [("cornice/term.shapes", Rows.laid_cornice_term_shapes)] W := h
  obtain ⟨ps, ⟨g, t, cs, fuel, p, q, hg, ht, hvar, hd, _, _⟩, _⟩ := h'
  have hg0 : Tryd.prog.globalNamed "cornice/term.shapes" = some 0 := by kernel_rfl
  have ht0 : (Tryd.prog.globals[0]?).map (·.type) = some 130 := by kernel_rfl
  obtain rfl : 0 = g := Option.some.inj (hg0.symm.trans hg)
  obtain rfl : 130 = t := Option.some.inj (ht0.symm.trans ht)
  have hcn : Tryd.prog.cellsOf 129 = 4 := by kernel_rfl
  have hct : Tryd.prog.cellsOf 130 = 120 := by kernel_rfl
  obtain ⟨xs, m, _, hx, hl, hxl, hi⟩ := DataW.trod_array Tryd.underlying130 hd
  rw [hct] at hl
  have hxd : xs.map (·.1) = (List.range 30).map shapeD := by
    have := congrArg Prod.fst hx
    simp only [laid_eq] at this
    injection this with h1
    exact h1.symm
  intro k hk
  have h1 := hi k hk
  rw [hcn] at h1
  have hkx : k < xs.length := by omega
  have h2 : xs[k]? = some (shapeD k, (xs[k]).2) := by
    rw [List.getElem?_eq_getElem hkx]
    have h3 : (xs.map (·.1))[k]? = some (shapeD k) := by rw [hxd]; simp [hk]
    rw [List.getElem?_map, List.getElem?_eq_getElem hkx] at h3
    simp only [Option.map_some, Option.some.injEq] at h3
    rw [← h3]
  rw [h2] at h1
  obtain ⟨A, cap, hcs, hle, hrow⟩ := shape_cells h1
  refine ⟨A, cap, ⟨hle, hrow⟩, ?_, ?_⟩
  · have h4 := World.var?_cell hg hvar 0
    have h5 : cs[0]? ≠ none := by
      intro e
      rw [← Array.getElem?_toList, List.getElem?_eq_none_iff] at e
      omega
    cases h6 : cs[0]? with
    | none => exact absurd h6 h5
    | some v => rw [h6] at h4; exact lt_of_cell h4
  · intro j u hu
    have hj : j < 4 := by
      have := (List.getElem?_eq_some_iff.1 hu).1
      simpa using this
    have h4 := World.var?_cell hg hvar (k * 4 + j)
    rw [← hcs, List.getElem?_take_of_lt hj, List.getElem?_drop, Array.getElem?_toList] at hu
    rw [hu] at h4
    rw [add_of_add]
    have : (⟨0, 0, none⟩ : Addr).add (k * 4 + j) = ⟨0, k * 4 + j, none⟩ := by unfold Addr.add; split <;> simp_all
    rw [this]
    exact h4
/-- A world that holds the table. -/
noncomputable def laidWorld (os : Os) : World :=
  { World.holding Tryd.prog os ⟨#[.cells #[.int .i64 0, .int .i64 1, .int .i64 0, .int .i64 1, .int .i64 0, .int .i64 0, .int .i64 0, .int .i64 1, .int .i64 0, .int .i64 0, .int .i64 0, .int .i64 0, .int .i64 0, .int .i64 0, .int .i64 1, .int .i64 0, .int .i64 2, .int .i64 0, .int .i64 0, .int .i64 0, .int .i64 0, .int .i64 0, .int .i64 0, .int .i64 0, .int .i64 0, .int .i64 0, .int .i64 0, .int .i64 0, .int .i64 0, .int .i64 0, .int .i64 0, .int .i64 1, .int .i64 0, .int .i64 0, .int .i64 0, .int .i64 0, .int .i64 2, .int .i64 0, .int .i64 0, .int .i64 0, .int .i64 0, .int .i64 0, .int .i64 0, .int .i64 1, .int .i64 0, .int .i64 0, .int .i64 0] 3], #[], []⟩ with heap := (World.holding Tryd.prog os ⟨#[.cells #[.int .i64 0, .int .i64 1, .int .i64 0, .int .i64 1, .int .i64 0, .int .i64 0, .int .i64 0, .int .i64 1, .int .i64 0, .int .i64 0, .int .i64 0, .int .i64 0, .int .i64 0, .int .i64 0, .int .i64 1, .int .i64 0, .int .i64 2, .int .i64 0, .int .i64 0, .int .i64 0, .int .i64 0, .int .i64 0, .int .i64 0, .int .i64 0, .int .i64 0, .int .i64 0, .int .i64 0, .int .i64 0, .int .i64 0, .int .i64 0, .int .i64 0, .int .i64 1, .int .i64 0, .int .i64 0, .int .i64 0, .int .i64 0, .int .i64 2, .int .i64 0, .int .i64 0, .int .i64 0, .int .i64 0, .int .i64 0, .int .i64 0, .int .i64 1, .int .i64 0, .int .i64 0, .int .i64 0] 3], #[], []⟩).heap.modify 0 fun
      | .cells _ t frozen => .cells #[.slice none 0 0, .bool true, .bool false, .bool false, .slice none 0 0, .bool false, .bool false, .bool true, .slice none 0 0, .bool true, .bool false, .bool false, .slice (some ⟨6, 0, none⟩) 2 2, .bool true, .bool false, .bool false, .slice (some ⟨6, 2, none⟩) 2 2, .bool false, .bool false, .bool false, .slice (some ⟨6, 4, none⟩) 2 2, .bool false, .bool false, .bool false, .slice (some ⟨6, 6, none⟩) 2 2, .bool true, .bool false, .bool false, .slice (some ⟨6, 8, none⟩) 3 3, .bool false, .bool false, .bool false, .slice (some ⟨6, 11, none⟩) 1 1, .bool false, .bool false, .bool false, .slice (some ⟨6, 12, none⟩) 1 1, .bool false, .bool false, .bool false, .slice none 0 0, .bool false, .bool false, .bool false, .slice none 0 0, .bool false, .bool false, .bool false, .slice (some ⟨6, 13, none⟩) 1 1, .bool false, .bool false, .bool false, .slice (some ⟨6, 14, none⟩) 4 4, .bool false, .bool false, .bool false, .slice none 0 0, .bool false, .bool false, .bool false, .slice (some ⟨6, 18, none⟩) 2 2, .bool false, .bool false, .bool false, .slice none 0 0, .bool false, .bool false, .bool false, .slice none 0 0, .bool false, .bool false, .bool false, .slice (some ⟨6, 20, none⟩) 3 3, .bool false, .bool false, .bool false, .slice (some ⟨6, 23, none⟩) 2 2, .bool false, .bool false, .bool false, .slice (some ⟨6, 25, none⟩) 4 4, .bool false, .bool false, .bool false, .slice (some ⟨6, 29, none⟩) 6 6, .bool false, .bool false, .bool false, .slice (some ⟨6, 35, none⟩) 5 5, .bool false, .bool false, .bool false, .slice (some ⟨6, 40, none⟩) 2 2, .bool false, .bool false, .bool false, .slice (some ⟨6, 42, none⟩) 4 4, .bool false, .bool false, .bool false, .slice none 0 0, .bool false, .bool false, .bool true, .slice none 0 0, .bool true, .bool true, .bool true, .slice none 0 0, .bool false, .bool true, .bool true, .slice (some ⟨6, 46, none⟩) 1 1, .bool false, .bool false, .bool false, .slice none 0 0, .bool false, .bool false, .bool false] t frozen
      | o => o }
end Go.Proofs.YtobgdeffhdefeaaDoor
/- The law EraseMoves: it returns true, whatever its arguments are, and they read as they did; the table of shapes holds what the program's text lays. -/
namespace Go.Proofs.YtobgdeffhdefeaaDoor.lawEraseMoves
open Go Go.RowKit Go.WideShapes Go.ChangeShapes Go.Proofs.YtobgdeffhdefeaaDoor
set_option maxRecDepth 100000
set_option linter.unusedSimpArgs false
set_option linter.unusedVariables false
theorem contract (H : Type) (enc : TypeId × Value → H) (W : World) (base : Nat) (args : Array Value) (ds gs : List (DataW H)) (before : List MemPlace)
    (hval : ∀ (j : Nat) t v, Tryd.f6.params[j]? = some t → args[j]? = some v → Value.okWide Tryd.prog W .any base t v)
    (hW : DataW.Whole enc Tryd.prog Tryd.f6.params.toList Rows.eraseMovesSpec.vars false W args.toList ds gs before) (hL : laidMetH Tryd.prog Rows.eraseMovesRow.laid W) :
    Calls Tryd.prog 6 args W fun e W' => ∃ v, e = .returned v ∧ Rows.eraseMovesSpec.post enc Tryd.prog Tryd.f6 false true false false W args v W' := by
  have hW' := hW
  obtain ⟨p, q, hA0, hV, rfl, hfz, hnd⟩ := hW
  have hA := hA0
  rw [Tryd.params6] at hA hval
  obtain ⟨v0, vs0, d0, ds0, p0, q0, hargs, rfl, rfl, h0, r0⟩ := trodAll_cons hA
  obtain ⟨v1, vs1, d1, ds1, p1, q1, rfl, rfl, rfl, h1, r1⟩ := trodAll_cons r0
  obtain ⟨v2, vs2, d2, ds2, p2, q2, rfl, rfl, rfl, h2, r2⟩ := trodAll_cons r1
  obtain ⟨v3, vs3, d3, ds3, p3, q3, rfl, rfl, rfl, h3, r3⟩ := trodAll_cons r2
  obtain ⟨rfl, rfl, rfl⟩ := trodAll_nil r3
  obtain rfl : args = #[v0, v1, v2, v3] := by cases args; simp_all
  obtain ⟨rfl, rfl⟩ := trodVars_none hV
  obtain ⟨A0, c0, t0, rfl, g0⟩ := open_nodes (hval 0 _ _ rfl rfl) h0
  obtain ⟨A1, c1, t1, rfl, g1⟩ := open_nodes (hval 1 _ _ rfl rfl) h1
  obtain ⟨b2, rfl, hb2⟩ := open_byte (hval 2 _ _ rfl rfl)
  obtain ⟨b3, rfl, hb3⟩ := open_byte (hval 3 _ _ rfl rfl)
  refine (eraseMoves_calls W (fun k => k < W.heap.size) (fun _ h => h) A0 c0 t0 A1 c1 t1 b2 b3 (shapes_of_laid hL) g0 g1 hb2 hb3).mono fun e W' ⟨he, hf⟩ => ?_
  subst he
  exact ⟨_, rfl, post_true kids slicesFull (by rw [Tryd.params6]; decide) rfl hW' rfl Tryd.underlying4 ⟨rfl, rfl, rfl⟩ hf.below⟩
theorem laid_met (os : Os) : laidMet Tryd.prog Rows.eraseMovesRow.laid ((laidWorld os).forCall (fun _ _ => 0) ⟨#[], #[Value.slice none 0 0, Value.slice none 0 0, Value.int .u8 0, Value.int .u8 0], []⟩).memory :=
  laidMet_of_run' 8 (by kernel_rfl) (by kernel_rfl)
theorem reads (os : Os) {H : Type} (enc : TypeId × Value → H) : ∃ places, DataW.whole enc Tryd.prog ((laidWorld os).forCall (fun _ _ => 0) ⟨#[], #[Value.slice none 0 0, Value.slice none 0 0, Value.int .u8 0, Value.int .u8 0], []⟩).memory Tryd.f6.params.toList Rows.eraseMovesSpec.vars false #[Value.slice none 0 0, Value.slice none 0 0, Value.int .u8 0, Value.int .u8 0].toList 8 = some ([.nil, .nil, .lit (.int .u8 0), .lit (.int .u8 0)], [], places) :=
  ⟨[], by kernel_rfl⟩
theorem lifted (os : Os) (started : os.Started) (H : Type) (enc : TypeId × Value → H) (F : Stop.Interp) :
    ReturnsInHanded {} Tryd.checked os 6 .any ((OpenSpec.ofChange Rows.eraseMovesSpec).preRow enc Tryd.prog Tryd.f6 Rows.eraseMovesRow.domain false Rows.eraseMovesRow.laid) (((OpenSpec.ofChange Rows.eraseMovesSpec).at F).post enc Tryd.prog Tryd.f6 false true false false) := by
  obtain ⟨places, hx⟩ := reads os enc
  refine returnsInHanded_of_row (C := Tryd.checked) (s := OpenSpec.ofChange Rows.eraseMovesSpec) ownKnobNone started (by kernel_rfl) Tryd.func6
    (witness_row_atRef (enc := enc) (C := Tryd.checked) false (laidWorld os) #[Value.slice none 0 0, Value.slice none 0 0, Value.int .u8 0, Value.int .u8 0] rfl (by kernel_rfl) (by kernel_rfl) (by kernel_rfl)
      (OpenSpec.preRow_of_cond 8 hx (by kernel_rfl) (fun k hk => by cases hk) (by kernel_rfl) (laid_met os))) ?_
  intro W base args ds gs before hval hW _ _ _ hL _ _
  exact contract H enc W base args ds gs before hval hW hL
theorem said : Rows.EraseMovesSaid :=
  OpenClaim.holds_of_cond 6 Tryd.f6 rfl rfl rfl rfl rfl rfl rfl ⟨rfl, rfl, rfl, rfl, rfl⟩ rfl rfl rfl rfl rfl (by kernel_rfl) Tryd.func6 (by kernel_rfl)
    (of_decide_eq_true (by kernel_rfl)) (by unfold Func.isWrapper; first | (rw [if_pos (by decide +kernel)]; kernel_rfl) | (rw [if_neg (by decide +kernel)]; exact ⟨rfl, rfl⟩))
    (fun os started H enc _ F => by rw [OpenClaim.pre_eq_preRow]; exact lifted os started H enc F)
theorem plain (f : FuncId) (fn : Func) (hf : Tryd.pinned.checked.prog.funcNamed "cornice/cornicelaw11.EraseMoves" = some f) (hfn : Tryd.pinned.checked.prog.funcs[f]? = some fn) :
    false = Tryd.pinned.checked.prog.looks [] ∧ ∀ (j : Nat) t, fn.params[j]? = some t → Tryd.pinned.checked.prog.wantsStandIn t = false := by
  obtain rfl : f = 6 := Option.some.inj ((show Tryd.prog.funcNamed "cornice/cornicelaw11.EraseMoves" = some 6 by kernel_rfl).symm.trans hf) |>.symm
  obtain rfl : fn = Tryd.f6 := (Option.some.inj (Tryd.func6.symm.trans hfn)).symm
  refine ⟨by kernel_rfl, fun j t ht => ?_⟩
  rw [Tryd.params6] at ht
  have hm := Array.mem_of_getElem? ht
  simp only [List.mem_toArray, List.mem_cons, List.not_mem_nil, or_false] at hm
  rcases hm with rfl | rfl | rfl | rfl
  · exact (show Tryd.prog.wantsStandIn 22 = false by kernel_rfl)
  · exact (show Tryd.prog.wantsStandIn 22 = false by kernel_rfl)
  · exact (show Tryd.prog.wantsStandIn 5 = false by kernel_rfl)
  · exact (show Tryd.prog.wantsStandIn 5 = false by kernel_rfl)
/-- The card. -/
theorem proved : Rows.EraseMovesCardSaid :=
  Claim7.holds_tied_plain_at .later [] _ _ _ _ said (fun _ h => by cases h) (by kernel_rfl) (fun _ h => by cases h) eraseMoves_row_tie rfl ⟨rfl, rfl⟩ (by kernel_rfl) rfl plain (by kernel_rfl)
end Go.Proofs.YtobgdeffhdefeaaDoor.lawEraseMoves
