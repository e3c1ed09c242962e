import Derived.Test.YtobgdeffhdefeaaDoorZxc
/- Contracts of functions, one theorem each: what the call returns, and that nothing old is changed. Printed by gen.py. -/
namespace Go.Proofs.YtobgdeffhdefeaaDoor
open Go Go.RowKit
set_option linter.unusedSimpArgs false
set_option linter.unusedVariables false

set_option maxRecDepth 100000 in
set_option maxHeartbeats 1000000 in
theorem rbinds_calls (w0 : World) (Z : Nat → Prop) (hZ : ∀ k, Z k → k < w0.heap.size) (n : Nd) (hs : n.S.size < 1000000) :
    Calls Tryd.prog 56 [.agg #[.int .i64 (n.K), .int .i64 (n.N), .int .i64 (n.M), .string n.S]].toArray w0 (fun e w' => ∃ (rA0 : Option Addr) (rc0 : Nat), e = .returned (.tuple #[.slice rA0 (bindL n).length rc0, .bool (right n)]) ∧ Fr none_ w0 w' ∧ (dRow 1 rA0 ((bindL n).length) rc0 (encIs (bindL n))).φ w' (nxt Z w0 w')) := by
  have hstart : ∀ k, Z k → imm Z w0 [] w0 k ∧ w0.heap[k]? = w0.heap[k]? := fun k hk => ⟨⟨hZ k hk, fun _ => hk, fun _ h => by cases h⟩, rfl⟩
  have hS3 : St w0 Z none_ w0 [] [] := St.start w0 Z none_ _ (by
    intro d hd
    cases hd
    )
  refine c_enter Tryd.func56 rfl Tryd.ntmps56 rfl (fun a1 hR2 => ?_)
  refine wp_seq_k (fun K4 hK5 => ?_)
  refine c_region ?_
  refine m_box (cs := [.int .i64 (n.K), .int .i64 (n.N), .int .i64 (n.M), .string n.S]) sv hR2 hS3 rfl rfl rfl rfl (by decide) (fun a6 w7 g8 hR9 hS10 => ?_)
  refine asg hR9 (fun a11 hR12 => ?_)
  refine asg hR12 (fun a13 hR14 => ?_)
  refine wpList_nil (x_then_n (hK5 _ _ ?_))
  refine wp_seq_k (fun K15 hK16 => ?_)
  refine c_region ?_
  refine m_buildSlice (ps := []) (cs := []) sv hR14 hS10 rfl rfl rfl Tryd.underlying66 zi3 rfl rfl (by kernel_rfl) rfl (by decide) (fun a17 w18 g19 hR20 hS21 => ?_)
  refine asg hR20 (fun a22 hR23 => ?_)
  refine wpList_nil (x_then_n (hK16 _ _ ?_))
  refine wp_seq_k (fun K24 hK25 => ?_)
  refine wp_seq_k (fun K26 hK27 => ?_)
  refine c_region ?_
  refine m_field (j' := 0) sv hR23 rfl rfl rfl Tryd.underlying32 rfl sz3 rfl rfl (by decide) (fun a28 hR29 => ?_)
  refine m_load (i := 0) sv hR29 hS21 rfl rfl rfl rfl rfl Tryd.underlying3 rfl (by decide) (fun a30 hR31 => ?_)
  refine wpList_nil (x_then_n (hK27 _ _ ?_))
  refine wp_block ?_
  refine wp_seq_k (fun K32 hK33 => ?_)
  refine c_region ?_
  refine r_eql sv hR31 rfl rfl rfl rfl (by decide) (fun a34 hR35 => ?_)
  refine asg hR35 (fun a36 hR37 => ?_)
  refine wpList_nil (x_then_n (hK33 _ _ ?_))
  rcases Decidable.em ((n.K) = 0) with h38 | h38
  · skip
    have hR39 := hR37.setb (d := 8) (b := true) rfl (decide_eq_true h38)
    refine wp_cond_true (hR39.ev rfl) ?_
    refine wp_seq_k (fun K40 hK41 => ?_)
    obtain ⟨J42, hJ43, hS44⟩ := hS21.agree
    refine d_region2 (S := (fun x => agr w18 J42 x ∧ cel g8 0 (.int .i64 (n.K)) x ∧ cel g8 1 (.int .i64 (n.N)) x ∧ cel g8 2 (.int .i64 (n.M)) x ∧ cel g8 3 (.string n.S) x ∧ True)) (n := 21) mixed rfl hS44 (pan_then (pan_block (pan_then pan_body))) (fun Q47 hP48 hN49 w45 hS46 => ?_)
    have hSw50 : agr w18 J42 w45 ∧ cel g8 0 (.int .i64 (n.K)) w45 ∧ cel g8 1 (.int .i64 (n.N)) w45 ∧ cel g8 2 (.int .i64 (n.M)) w45 ∧ cel g8 3 (.string n.S) w45 ∧ True := ⟨⟨(hS46.get (i := 0) rfl).1, fun k hk => ((hS46.get (i := 0) rfl).2 k hk).2⟩, (box_cell (hS46.res (i := 0) rfl) rfl), (box_cell (hS46.res (i := 0) rfl) rfl), (box_cell (hS46.res (i := 0) rfl) rfl), (box_cell (hS46.res (i := 0) rfl) rfl), trivial⟩
    refine dt 0 rfl hP48 hR39 (want_n rfl) (fun x hx => r_move (sy hR39) hR39 rfl rfl rfl (by decide) gt) hSw50 (fun a51 hR52 => ?_)
    refine dt 1 rfl hP48 hR52 (want_n rfl) (fun x hx => m_field (j' := 1) (sy hR52) hR52 rfl rfl rfl Tryd.underlying32 rfl sz3 rfl rfl (by decide) gt) hSw50 (fun a53 hR54 => ?_)
    refine dt 2 rfl hP48 hR54 (want_n rfl) (fun x hx => m_loadC (sy hR54) hR54 rfl rfl rfl hx.2.2.1 Tryd.underlying3 rfl (by decide) gt) hSw50 (fun a55 hR56 => ?_)
    refine dt 3 rfl hP48 hR56 (want_n rfl) (fun x hx => r_geq (sy hR56) hR56 rfl rfl rfl rfl (by decide) gt) hSw50 (fun a57 hR58 => ?_)
    refine dt 4 rfl hP48 hR58 (want_n rfl) (fun x hx => r_move (sy hR58) hR58 rfl rfl rfl (by decide) gt) hSw50 (fun a59 hR60 => ?_)
    rcases Decidable.em (0 ≤ (n.N)) with h61 | h61
    · skip
      have hR62 := hR60.setb (d := 14) (b := true) rfl (decide_eq_true h61)
      refine dt 5 rfl hP48 hR62 (wt hR62) (fun x hx => m_field (j' := 1) (sy hR62) hR62 rfl rfl rfl Tryd.underlying32 rfl sz3 rfl rfl (by decide) gt) hSw50 (fun a63 hR64 => ?_)
      refine dt 6 rfl hP48 hR64 (wt hR64) (fun x hx => m_loadC (sy hR64) hR64 rfl rfl rfl hx.2.2.1 Tryd.underlying3 rfl (by decide) gt) hSw50 (fun a65 hR66 => ?_)
      refine dt 7 rfl hP48 hR66 (wt hR66) (fun x hx => r_leq (sy hR66) hR66 rfl rfl rfl rfl (by decide) gt) hSw50 (fun a67 hR68 => ?_)
      refine dt 8 rfl hP48 hR68 (want_n rfl) (fun x hx => r_pick_t (sy hR68) hR68 rfl rfl rfl rfl (by decide) gt) hSw50 (fun a69 hR70 => ?_)
      refine dt 9 rfl hP48 hR70 (want_n rfl) (fun x hx => r_move (sy hR70) hR70 rfl rfl rfl (by decide) gt) hSw50 (fun a71 hR72 => ?_)
      rcases Decidable.em ((n.N) ≤ 99) with h73 | h73
      · skip
        have hR74 := hR72.setb (d := 19) (b := true) rfl (decide_eq_true h73)
        refine dt 10 rfl hP48 hR74 (wt hR74) (fun x hx => m_field (j' := 2) (sy hR74) hR74 rfl rfl rfl Tryd.underlying32 rfl sz3 rfl rfl (by decide) gt) hSw50 (fun a75 hR76 => ?_)
        refine dt 11 rfl hP48 hR76 (wt hR76) (fun x hx => m_loadC (sy hR76) hR76 rfl rfl rfl hx.2.2.2.1 Tryd.underlying3 rfl (by decide) gt) hSw50 (fun a77 hR78 => ?_)
        refine dt 12 rfl hP48 hR78 (wt hR78) (fun x hx => r_eql (sy hR78) hR78 rfl rfl rfl rfl (by decide) gt) hSw50 (fun a79 hR80 => ?_)
        refine dt 13 rfl hP48 hR80 (want_n rfl) (fun x hx => r_pick_t (sy hR80) hR80 rfl rfl rfl rfl (by decide) gt) hSw50 (fun a81 hR82 => ?_)
        refine dt 14 rfl hP48 hR82 (want_n rfl) (fun x hx => r_move (sy hR82) hR82 rfl rfl rfl (by decide) gt) hSw50 (fun a83 hR84 => ?_)
        rcases Decidable.em ((n.M) = 0) with h85 | h85
        · skip
          have hR86 := hR84.setb (d := 24) (b := true) rfl (decide_eq_true h85)
          refine dt 15 rfl hP48 hR86 (wt hR86) (fun x hx => m_field (j' := 3) (sy hR86) hR86 rfl rfl rfl Tryd.underlying32 rfl sz9 rfl rfl (by decide) gt) hSw50 (fun a87 hR88 => ?_)
          refine dt 16 rfl hP48 hR88 (wt hR88) (fun x hx => m_loadC (sy hR88) hR88 rfl rfl rfl hx.2.2.2.2.1 Tryd.underlying9 rfl (by decide) gt) hSw50 (fun a89 hR90 => ?_)
          refine dt 17 rfl hP48 hR90 (wt hR90) (fun x hx => r_eqlS (sy hR90) hR90 rfl rfl rfl rfl (by decide) gt) hSw50 (fun a91 hR92 => ?_)
          refine dt 18 rfl hP48 hR92 (want_n rfl) (fun x hx => r_pick_t (sy hR92) hR92 rfl rfl rfl rfl (by decide) gt) hSw50 (fun a93 hR94 => ?_)
          refine dt 19 rfl hP48 hR94 (want_n rfl) (fun x hx => r_assign (sy hR94) hR94 rfl rfl rfl (by decide) gt) hSw50 (fun a95 hR96 => ?_)
          refine dt 20 rfl hP48 hR96 (want_n rfl) (fun x hx => r_assign (sy hR96) hR96 rfl rfl rfl (by decide) gt) hSw50 (fun a97 hR98 => ?_)
          refine wpAnyH_done (by kernel_rfl) (hN49 _ _ ?_) _
          refine x_then_n (hK41 _ _ ?_)
          refine wp_ret ?_
          refine x_block_r ?_
          refine x_then_r ?_
          refine e_ret2 hR98 rfl rfl rfl rfl ?_
          have he99 : bindL n = [] := by rcases (show n.K = 0 by omega) with h <;> simp [bindL, h, shp]
          rw [he99]
          have hc103 := own_cap (hS46.res (i := 1) rfl)
          obtain ⟨hS100, hrow101⟩ := hS46.row_data (i := 1) rfl (fun _ h => h)
          have hS102 := hS100.data (dRow 1 (some ⟨g19, 0, none⟩) 0 0 (encIs ([]))) ⟨hc103, hrow101⟩
          refine ⟨(some ⟨g19, 0, none⟩), 0, ?_, hS102.fr, ⟨by have := (hS102.row (i := 1) rfl).1; exact this, ((hS102.row (i := 1) rfl).2.mono (fun _ hk => ⟨imm_nxt hk, rfl⟩))⟩⟩
          exact ret_t2 rfl (ret_b (by first | (rw [(right_var (by omega))]; done) | (rw [(right_var (by omega)), Bool.eq_iff_iff]; simp [and_assoc]; done) | (rw [(right_var (by omega))]; simp [h61, h73, h85]; done) | (rw [(right_var (by omega))]; simp [h61, h73, h85] <;> omega) | (symm; rw [(right_var (by omega))]; have z0 := h61; have z1 := h73; have z2 := h85;  simp; first | omega | (simp_all; done) | (simp_all; omega)) ))
        · skip
          have hR104 := hR84.setb (d := 24) (b := false) rfl (decide_eq_false h85)
          refine dp 15 rfl hP48 hR104 (wff hR104) hSw50 (fun a105 hR106 => ?_)
          refine dp 16 rfl hP48 hR106 (wff hR106) hSw50 (fun a107 hR108 => ?_)
          refine dp 17 rfl hP48 hR108 (wff hR108) hSw50 (fun a109 hR110 => ?_)
          refine dt 18 rfl hP48 hR110 (want_n rfl) (fun x hx => r_pick_f (sy hR110) hR110 rfl rfl rfl rfl (by decide) gt) hSw50 (fun a111 hR112 => ?_)
          refine dt 19 rfl hP48 hR112 (want_n rfl) (fun x hx => r_assign (sy hR112) hR112 rfl rfl rfl (by decide) gt) hSw50 (fun a113 hR114 => ?_)
          refine dt 20 rfl hP48 hR114 (want_n rfl) (fun x hx => r_assign (sy hR114) hR114 rfl rfl rfl (by decide) gt) hSw50 (fun a115 hR116 => ?_)
          refine wpAnyH_done (by kernel_rfl) (hN49 _ _ ?_) _
          refine x_then_n (hK41 _ _ ?_)
          refine wp_ret ?_
          refine x_block_r ?_
          refine x_then_r ?_
          refine e_ret2 hR116 rfl rfl rfl rfl ?_
          have he117 : bindL n = [] := by rcases (show n.K = 0 by omega) with h <;> simp [bindL, h, shp]
          rw [he117]
          have hc121 := own_cap (hS46.res (i := 1) rfl)
          obtain ⟨hS118, hrow119⟩ := hS46.row_data (i := 1) rfl (fun _ h => h)
          have hS120 := hS118.data (dRow 1 (some ⟨g19, 0, none⟩) 0 0 (encIs ([]))) ⟨hc121, hrow119⟩
          refine ⟨(some ⟨g19, 0, none⟩), 0, ?_, hS120.fr, ⟨by have := (hS120.row (i := 1) rfl).1; exact this, ((hS120.row (i := 1) rfl).2.mono (fun _ hk => ⟨imm_nxt hk, rfl⟩))⟩⟩
          exact ret_t2 rfl (ret_b (by first | (rw [(right_var (by omega))]; done) | (rw [(right_var (by omega)), Bool.eq_iff_iff]; simp [and_assoc]; done) | (rw [(right_var (by omega))]; simp [h61, h73, h85]; done) | (rw [(right_var (by omega))]; simp [h61, h73, h85] <;> omega) | (symm; rw [(right_var (by omega))]; have z0 := h61; have z1 := h73; have z2 := h85;  simp; first | omega | (simp_all; done) | (simp_all; omega)) ))
      · skip
        have hR122 := hR72.setb (d := 19) (b := false) rfl (decide_eq_false h73)
        refine dp 10 rfl hP48 hR122 (wff hR122) hSw50 (fun a123 hR124 => ?_)
        refine dp 11 rfl hP48 hR124 (wff hR124) hSw50 (fun a125 hR126 => ?_)
        refine dp 12 rfl hP48 hR126 (wff hR126) hSw50 (fun a127 hR128 => ?_)
        refine dt 13 rfl hP48 hR128 (want_n rfl) (fun x hx => r_pick_f (sy hR128) hR128 rfl rfl rfl rfl (by decide) gt) hSw50 (fun a129 hR130 => ?_)
        refine dt 14 rfl hP48 hR130 (want_n rfl) (fun x hx => r_move (sy hR130) hR130 rfl rfl rfl (by decide) gt) hSw50 (fun a131 hR132 => ?_)
        refine dp 15 rfl hP48 hR132 (wff hR132) hSw50 (fun a133 hR134 => ?_)
        refine dp 16 rfl hP48 hR134 (wff hR134) hSw50 (fun a135 hR136 => ?_)
        refine dp 17 rfl hP48 hR136 (wff hR136) hSw50 (fun a137 hR138 => ?_)
        refine dt 18 rfl hP48 hR138 (want_n rfl) (fun x hx => r_pick_f (sy hR138) hR138 rfl rfl rfl rfl (by decide) gt) hSw50 (fun a139 hR140 => ?_)
        refine dt 19 rfl hP48 hR140 (want_n rfl) (fun x hx => r_assign (sy hR140) hR140 rfl rfl rfl (by decide) gt) hSw50 (fun a141 hR142 => ?_)
        refine dt 20 rfl hP48 hR142 (want_n rfl) (fun x hx => r_assign (sy hR142) hR142 rfl rfl rfl (by decide) gt) hSw50 (fun a143 hR144 => ?_)
        refine wpAnyH_done (by kernel_rfl) (hN49 _ _ ?_) _
        refine x_then_n (hK41 _ _ ?_)
        refine wp_ret ?_
        refine x_block_r ?_
        refine x_then_r ?_
        refine e_ret2 hR144 rfl rfl rfl rfl ?_
        have he145 : bindL n = [] := by rcases (show n.K = 0 by omega) with h <;> simp [bindL, h, shp]
        rw [he145]
        have hc149 := own_cap (hS46.res (i := 1) rfl)
        obtain ⟨hS146, hrow147⟩ := hS46.row_data (i := 1) rfl (fun _ h => h)
        have hS148 := hS146.data (dRow 1 (some ⟨g19, 0, none⟩) 0 0 (encIs ([]))) ⟨hc149, hrow147⟩
        refine ⟨(some ⟨g19, 0, none⟩), 0, ?_, hS148.fr, ⟨by have := (hS148.row (i := 1) rfl).1; exact this, ((hS148.row (i := 1) rfl).2.mono (fun _ hk => ⟨imm_nxt hk, rfl⟩))⟩⟩
        exact ret_t2 rfl (ret_b (by first | (rw [(right_var (by omega))]; done) | (rw [(right_var (by omega)), Bool.eq_iff_iff]; simp [and_assoc]; done) | (rw [(right_var (by omega))]; simp [h61, h73]; done) | (rw [(right_var (by omega))]; simp [h61, h73] <;> omega) | (symm; rw [(right_var (by omega))]; have z0 := h61; have z1 := h73;  simp; first | omega | (simp_all; done) | (simp_all; omega)) ))
    · skip
      have hR150 := hR60.setb (d := 14) (b := false) rfl (decide_eq_false h61)
      refine dp 5 rfl hP48 hR150 (wff hR150) hSw50 (fun a151 hR152 => ?_)
      refine dp 6 rfl hP48 hR152 (wff hR152) hSw50 (fun a153 hR154 => ?_)
      refine dp 7 rfl hP48 hR154 (wff hR154) hSw50 (fun a155 hR156 => ?_)
      refine dt 8 rfl hP48 hR156 (want_n rfl) (fun x hx => r_pick_f (sy hR156) hR156 rfl rfl rfl rfl (by decide) gt) hSw50 (fun a157 hR158 => ?_)
      refine dt 9 rfl hP48 hR158 (want_n rfl) (fun x hx => r_move (sy hR158) hR158 rfl rfl rfl (by decide) gt) hSw50 (fun a159 hR160 => ?_)
      refine dp 10 rfl hP48 hR160 (wff hR160) hSw50 (fun a161 hR162 => ?_)
      refine dp 11 rfl hP48 hR162 (wff hR162) hSw50 (fun a163 hR164 => ?_)
      refine dp 12 rfl hP48 hR164 (wff hR164) hSw50 (fun a165 hR166 => ?_)
      refine dt 13 rfl hP48 hR166 (want_n rfl) (fun x hx => r_pick_f (sy hR166) hR166 rfl rfl rfl rfl (by decide) gt) hSw50 (fun a167 hR168 => ?_)
      refine dt 14 rfl hP48 hR168 (want_n rfl) (fun x hx => r_move (sy hR168) hR168 rfl rfl rfl (by decide) gt) hSw50 (fun a169 hR170 => ?_)
      refine dp 15 rfl hP48 hR170 (wff hR170) hSw50 (fun a171 hR172 => ?_)
      refine dp 16 rfl hP48 hR172 (wff hR172) hSw50 (fun a173 hR174 => ?_)
      refine dp 17 rfl hP48 hR174 (wff hR174) hSw50 (fun a175 hR176 => ?_)
      refine dt 18 rfl hP48 hR176 (want_n rfl) (fun x hx => r_pick_f (sy hR176) hR176 rfl rfl rfl rfl (by decide) gt) hSw50 (fun a177 hR178 => ?_)
      refine dt 19 rfl hP48 hR178 (want_n rfl) (fun x hx => r_assign (sy hR178) hR178 rfl rfl rfl (by decide) gt) hSw50 (fun a179 hR180 => ?_)
      refine dt 20 rfl hP48 hR180 (want_n rfl) (fun x hx => r_assign (sy hR180) hR180 rfl rfl rfl (by decide) gt) hSw50 (fun a181 hR182 => ?_)
      refine wpAnyH_done (by kernel_rfl) (hN49 _ _ ?_) _
      refine x_then_n (hK41 _ _ ?_)
      refine wp_ret ?_
      refine x_block_r ?_
      refine x_then_r ?_
      refine e_ret2 hR182 rfl rfl rfl rfl ?_
      have he183 : bindL n = [] := by rcases (show n.K = 0 by omega) with h <;> simp [bindL, h, shp]
      rw [he183]
      have hc187 := own_cap (hS46.res (i := 1) rfl)
      obtain ⟨hS184, hrow185⟩ := hS46.row_data (i := 1) rfl (fun _ h => h)
      have hS186 := hS184.data (dRow 1 (some ⟨g19, 0, none⟩) 0 0 (encIs ([]))) ⟨hc187, hrow185⟩
      refine ⟨(some ⟨g19, 0, none⟩), 0, ?_, hS186.fr, ⟨by have := (hS186.row (i := 1) rfl).1; exact this, ((hS186.row (i := 1) rfl).2.mono (fun _ hk => ⟨imm_nxt hk, rfl⟩))⟩⟩
      exact ret_t2 rfl (ret_b (by first | (rw [(right_var (by omega))]; done) | (rw [(right_var (by omega)), Bool.eq_iff_iff]; simp [and_assoc]; done) | (rw [(right_var (by omega))]; simp [h61]; done) | (rw [(right_var (by omega))]; simp [h61] <;> omega) | (symm; rw [(right_var (by omega))]; have z0 := h61;  simp; first | omega | (simp_all; done) | (simp_all; omega)) ))
  · skip
    have hR188 := hR37.setb (d := 8) (b := false) rfl (decide_eq_false h38)
    refine wp_cond_false (hR188.ev rfl) ?_
    refine c_join (fun ga gw => Reg ga 228 [(1, .pointer (some ⟨g8, 0, none⟩)), (2, .slice none 0 0), (3, .bool false), (4, .slice (some ⟨g19, 0, none⟩) 0 0), (7, .int .i64 (n.K)), (29, .bool ((decide ((n.K) = 1)) || (decide ((n.K) = 25)))), (1000000, .bool false)] ∧ St w0 Z none_ gw [.box g8 32 [.int .i64 (n.K), .int .i64 (n.N), .int .i64 (n.M), .string n.S], .row (some ⟨g19, 0, none⟩) 0 0 3 1 (encIs ([]))] []) ?_ ?_
    · skip
      refine wp_seq_k (fun K189 hK190 => ?_)
      refine c_region ?_
      refine r_eql sv hR188 rfl rfl rfl rfl (by decide) (fun a191 hR192 => ?_)
      refine asg hR192 (fun a193 hR194 => ?_)
      refine wpList_nil (x_then_n (hK190 _ _ ?_))
      rcases Decidable.em ((n.K) = 1) with h195 | h195
      · skip
        have hR196 := hR194.setb (d := 29) (b := true) rfl (decide_eq_true h195)
        refine wp_cond_true (hR196.ev rfl) ?_
        refine wp_skip ?_
        exact x_then_n ⟨(hR196.sub (rc rfl (rc rfl (rc rfl (rc rfl (rc rfl (rc (rb rfl (by first | rfl | (simp only [decide_eq_true h195, if_pos h195, bl]; done) | (simp [h195]; done) | (simp [h195]; omega))) (rc rfl rnl)))))))), hS21⟩
      · skip
        have hR197 := hR194.setb (d := 29) (b := false) rfl (decide_eq_false h195)
        refine wp_cond_false (hR197.ev rfl) ?_
        refine c_region ?_
        refine r_eql sv hR197 rfl rfl rfl rfl (by decide) (fun a198 hR199 => ?_)
        refine asg hR199 (fun a200 hR201 => ?_)
        refine wpList_nil ?_
        exact x_then_n ⟨(hR201.sub (rc rfl (rc rfl (rc rfl (rc rfl (rc rfl (rc (rb rfl (by first | rfl | (simp only [decide_eq_false h195, if_neg h195, bl]; done) | (simp [h195]; done) | (simp [h195]; omega))) (rc rfl rnl)))))))), hS21⟩
    rintro a202 w203 ⟨hR204, hS205⟩
    rcases Bool.eq_false_or_eq_true (((decide ((n.K) = 1)) || (decide ((n.K) = 25)))) with h206 | h206
    · skip
      have hq207 := h206
      try simp only [Bool.or_eq_true, Bool.and_eq_true, Bool.not_eq_true', Bool.not_eq_false', decide_eq_true_eq, decide_eq_false_iff_not, Bool.or_eq_false_iff, Bool.and_eq_false_iff] at hq207
      have hR208 := hR204.setb (d := 29) (b := true) rfl h206
      refine wp_cond_true (hR208.ev rfl) ?_
      refine wp_seq_k (fun K209 hK210 => ?_)
      refine c_region ?_
      refine mv hR208 (fun a211 hR212 => ?_)
      refine m_field (j' := 1) sv hR212 rfl rfl rfl Tryd.underlying32 rfl sz3 rfl rfl (by decide) (fun a213 hR214 => ?_)
      refine m_load (i := 0) sv hR214 hS205 rfl rfl rfl rfl rfl Tryd.underlying3 rfl (by decide) (fun a215 hR216 => ?_)
      refine r_eql sv hR216 rfl rfl rfl rfl (by decide) (fun a217 hR218 => ?_)
      refine mv hR218 (fun a219 hR220 => ?_)
      refine l_join (fun ga gw => Reg ga 228 [(1, .pointer (some ⟨g8, 0, none⟩)), (2, .slice none 0 0), (3, .bool false), (4, .slice (some ⟨g19, 0, none⟩) 0 0), (32, .slice (some ⟨g19, 0, none⟩) 0 0), (40, .bool ((decide ((n.N) = 0)) && (decide ((n.M) = 0)))), (1000000, .bool false)] ∧ St w0 Z none_ gw [.box g8 32 [.int .i64 (n.K), .int .i64 (n.N), .int .i64 (n.M), .string n.S], .row (some ⟨g19, 0, none⟩) 0 0 3 1 (encIs ([]))] []) 4 ?_ ?_
      · skip
        rcases Decidable.em ((n.N) = 0) with h221 | h221
        · skip
          have hR222 := hR220.setb (d := 36) (b := true) rfl (decide_eq_true h221)
          refine m_field (j' := 2) (st_listV_w (wt hR222)) hR222 rfl rfl rfl Tryd.underlying32 rfl sz3 rfl rfl (by decide) (fun a223 hR224 => ?_)
          refine m_load (i := 0) (st_listV_w (wt hR224)) hR224 hS205 rfl rfl rfl rfl rfl Tryd.underlying3 rfl (by decide) (fun a225 hR226 => ?_)
          refine r_eql (st_listV_w (wt hR226)) hR226 rfl rfl rfl rfl (by decide) (fun a227 hR228 => ?_)
          refine r_pick_t sv hR228 rfl rfl rfl rfl (by decide) (fun a229 hR230 => ?_)
          refine wpList_nil ?_
          exact x_then_n ⟨(hR230.sub (rc rfl (rc rfl (rc rfl (rc rfl (rc rfl (rc (rb rfl (by first | rfl | (simp only [decide_eq_true h221, if_pos h221, bl]; done) | (simp [h221]; done) | (simp [h221]; omega))) (rc rfl rnl)))))))), hS205⟩
        · skip
          have hR231 := hR220.setb (d := 36) (b := false) rfl (decide_eq_false h221)
          refine sps hR231 (wff hR231) (fun a232 hR233 => ?_)
          refine sps hR233 (wff hR233) (fun a234 hR235 => ?_)
          refine sps hR235 (wff hR235) (fun a236 hR237 => ?_)
          refine r_pick_f sv hR237 rfl rfl rfl rfl (by decide) (fun a238 hR239 => ?_)
          refine wpList_nil ?_
          exact x_then_n ⟨(hR239.sub (rc rfl (rc rfl (rc rfl (rc rfl (rc rfl (rc (rb rfl (by first | rfl | (simp only [decide_eq_false h221, if_neg h221, bl]; done) | (simp [h221]; done) | (simp [h221]; omega))) (rc rfl rnl)))))))), hS205⟩
      rintro a240 w241 ⟨hR242, hS243⟩
      refine mv hR242 (fun a244 hR245 => ?_)
      refine l_join (fun ga gw => Reg ga 228 [(2, .slice none 0 0), (3, .bool false), (4, .slice (some ⟨g19, 0, none⟩) 0 0), (32, .slice (some ⟨g19, 0, none⟩) 0 0), (45, .bool (((decide ((n.N) = 0)) && (decide ((n.M) = 0))) && (nameOk n.S))), (1000000, .bool false)] ∧ St w0 Z none_ gw [.box g8 32 [.int .i64 (n.K), .int .i64 (n.N), .int .i64 (n.M), .string n.S], .row (some ⟨g19, 0, none⟩) 0 0 3 1 (encIs ([]))] []) 4 ?_ ?_
      · skip
        rcases Bool.eq_false_or_eq_true (((decide ((n.N) = 0)) && (decide ((n.M) = 0)))) with h246 | h246
        · skip
          have h247 := and_tl h246
          have h248 := of_decide_eq_true h247
          have h249 := and_tr h246
          have h250 := of_decide_eq_true h249
          have hR251 := hR245.setb (d := 41) (b := true) rfl h246
          refine m_field (j' := 3) (st_listV_w (wt hR251)) hR251 rfl rfl rfl Tryd.underlying32 rfl sz9 rfl rfl (by decide) (fun a252 hR253 => ?_)
          refine m_load (i := 0) (st_listV_w (wt hR253)) hR253 hS243 rfl rfl rfl rfl rfl Tryd.underlying9 rfl (by decide) (fun a254 hR255 => ?_)
          have hS256 : St w0 Z none_ w241 [.box g8 32 [.int .i64 (n.K), .int .i64 (n.N), .int .i64 (n.M), .string n.S], .row (some ⟨g19, 0, none⟩) 0 0 3 1 (encIs ([]))] [] := hS243
          refine k_call (xs := [.tmp 43]) (st_list_w (wt hR255)) hR255 rfl rfl rfl (by decide) ok77 (rname_calls _ (imm Z w0 [.box g8 32 [.int .i64 (n.K), .int .i64 (n.N), .int .i64 (n.M), .string n.S], .row (some ⟨g19, 0, none⟩) 0 0 3 1 (encIs ([]))] _) (fun _ h => h.1) n.S (by first | assumption | omega | (simp; done) | (simp; omega))) ?_
          rintro e263 w258 ⟨rfl, hf261⟩
          have hS264 := hS256.below hf261.below
          refine ⟨_, rfl, fun a257 hR259 => ?_⟩
          refine r_pick_t sv hR259 rfl rfl rfl rfl (by decide) (fun a265 hR266 => ?_)
          refine wpList_nil ?_
          exact x_then_n ⟨(hR266.sub (rc rfl (rc rfl (rc rfl (rc rfl (rc (rb rfl (by first | rfl | (simp only [h246, bl]; done) | (simp [h246]; done) | (simp [h246]; omega))) (rc rfl rnl))))))), hS264⟩
        · skip
          have hq267 := h246
          try simp only [Bool.or_eq_true, Bool.and_eq_true, Bool.not_eq_true', Bool.not_eq_false', decide_eq_true_eq, decide_eq_false_iff_not, Bool.or_eq_false_iff, Bool.and_eq_false_iff] at hq267
          have hR268 := hR245.setb (d := 41) (b := false) rfl h246
          refine sps hR268 (wff hR268) (fun a269 hR270 => ?_)
          refine sps hR270 (wff hR270) (fun a271 hR272 => ?_)
          refine sps hR272 (wff hR272) (fun a273 hR274 => ?_)
          refine r_pick_f sv hR274 rfl rfl rfl rfl (by decide) (fun a275 hR276 => ?_)
          refine wpList_nil ?_
          exact x_then_n ⟨(hR276.sub (rc rfl (rc rfl (rc rfl (rc rfl (rc (rb rfl (by first | rfl | (simp only [h246, bl]; done) | (simp [h246]; done) | (simp [h246]; omega))) (rc rfl rnl))))))), hS243⟩
      rintro a277 w278 ⟨hR279, hS280⟩
      refine asg hR279 (fun a281 hR282 => ?_)
      refine asg hR282 (fun a283 hR284 => ?_)
      refine wpList_nil (x_then_n (hK210 _ _ ?_))
      refine wp_ret ?_
      refine x_block_r ?_
      refine x_then_r ?_
      refine e_ret2 hR284 rfl rfl rfl rfl ?_
      have he285 : bindL n = [] := by rcases (show n.K = 1 ∨ n.K = 25 by omega) with h | h <;> simp [bindL, h, shp]
      rw [he285]
      have hc289 := own_cap (hS280.res (i := 1) rfl)
      obtain ⟨hS286, hrow287⟩ := hS280.row_data (i := 1) rfl (fun _ h => h)
      have hS288 := hS286.data (dRow 1 (some ⟨g19, 0, none⟩) 0 0 (encIs ([]))) ⟨hc289, hrow287⟩
      refine ⟨(some ⟨g19, 0, none⟩), 0, ?_, hS288.fr, ⟨by have := (hS288.row (i := 0) rfl).1; exact this, ((hS288.row (i := 0) rfl).2.mono (fun _ hk => ⟨imm_nxt hk, rfl⟩))⟩⟩
      exact ret_t2 rfl (ret_b (by first | (rw [(right_str (by omega))]; done) | (rw [(right_str (by omega)), Bool.eq_iff_iff]; simp [and_assoc]; done) | (rw [(right_str (by omega))]; simp []; done) | (rw [(right_str (by omega))]; simp [] <;> omega) | (symm; rw [(right_str (by omega))];  simp; first | omega | (simp_all; done) | (simp_all; omega)) ))
    · skip
      have h290 := or_fl h206
      have h291 := of_decide_eq_false h290
      have h292 := or_fr h206
      have h293 := of_decide_eq_false h292
      have hR294 := hR204.setb (d := 29) (b := false) rfl h206
      refine wp_cond_false (hR294.ev rfl) ?_
      refine wp_seq_k (fun K295 hK296 => ?_)
      refine c_region ?_
      refine r_eql sv hR294 rfl rfl rfl rfl (by decide) (fun a297 hR298 => ?_)
      refine asg hR298 (fun a299 hR300 => ?_)
      refine wpList_nil (x_then_n (hK296 _ _ ?_))
      rcases Decidable.em ((n.K) = 2) with h301 | h301
      · skip
        have hR302 := hR300.setb (d := 46) (b := true) rfl (decide_eq_true h301)
        refine wp_cond_true (hR302.ev rfl) ?_
        refine wp_seq_k (fun K303 hK304 => ?_)
        obtain ⟨J305, hJ306, hS307⟩ := hS205.agree
        refine d_region2 (S := (fun x => agr w203 J305 x ∧ cel g8 0 (.int .i64 (n.K)) x ∧ cel g8 1 (.int .i64 (n.N)) x ∧ cel g8 2 (.int .i64 (n.M)) x ∧ cel g8 3 (.string n.S) x ∧ True)) (n := 17) mixed rfl hS307 (pan_then (pan_block (pan_then pan_body))) (fun Q310 hP311 hN312 w308 hS309 => ?_)
        have hSw313 : agr w203 J305 w308 ∧ cel g8 0 (.int .i64 (n.K)) w308 ∧ cel g8 1 (.int .i64 (n.N)) w308 ∧ cel g8 2 (.int .i64 (n.M)) w308 ∧ cel g8 3 (.string n.S) w308 ∧ True := ⟨⟨(hS309.get (i := 0) rfl).1, fun k hk => ((hS309.get (i := 0) rfl).2 k hk).2⟩, (box_cell (hS309.res (i := 0) rfl) rfl), (box_cell (hS309.res (i := 0) rfl) rfl), (box_cell (hS309.res (i := 0) rfl) rfl), (box_cell (hS309.res (i := 0) rfl) rfl), trivial⟩
        refine dt 0 rfl hP311 hR302 (want_n rfl) (fun x hx => r_move (sy hR302) hR302 rfl rfl rfl (by decide) gt) hSw313 (fun a314 hR315 => ?_)
        refine dt 1 rfl hP311 hR315 (want_n rfl) (fun x hx => m_field (j' := 1) (sy hR315) hR315 rfl rfl rfl Tryd.underlying32 rfl sz3 rfl rfl (by decide) gt) hSw313 (fun a316 hR317 => ?_)
        refine dt 2 rfl hP311 hR317 (want_n rfl) (fun x hx => m_loadC (sy hR317) hR317 rfl rfl rfl hx.2.2.1 Tryd.underlying3 rfl (by decide) gt) hSw313 (fun a318 hR319 => ?_)
        refine d_one (i := 3) (by kernel_rfl) ?_
        have hS320 : St w0 Z none_ w308 [.box g8 32 [.int .i64 (n.K), .int .i64 (n.N), .int .i64 (n.M), .string n.S], .row (some ⟨g19, 0, none⟩) 0 0 3 1 (encIs ([]))] [dAg w203 J305] := hS309
        refine k_call (xs := [.tmp 50]) (st_op rfl (want_n rfl)) hR319 rfl rfl rfl (by decide) ok78 (rlvCheck_calls _ (imm Z w0 [.box g8 32 [.int .i64 (n.K), .int .i64 (n.N), .int .i64 (n.M), .string n.S], .row (some ⟨g19, 0, none⟩) 0 0 3 1 (encIs ([]))] _) (fun _ h => h.1) (n.N)) ?_
        rintro e327 w322 ⟨rfl, hf325⟩
        have hS328 := hS320.below hf325.below
        refine ⟨_, rfl, fun a321 hR323 => ?_⟩
        have hSw329 : agr w203 J305 w322 ∧ cel g8 0 (.int .i64 (n.K)) w322 ∧ cel g8 1 (.int .i64 (n.N)) w322 ∧ cel g8 2 (.int .i64 (n.M)) w322 ∧ cel g8 3 (.string n.S) w322 ∧ True := ⟨⟨(hS328.get (i := 0) rfl).1, fun k hk => ((hS328.get (i := 0) rfl).2 k hk).2⟩, (box_cell (hS328.res (i := 0) rfl) rfl), (box_cell (hS328.res (i := 0) rfl) rfl), (box_cell (hS328.res (i := 0) rfl) rfl), (box_cell (hS328.res (i := 0) rfl) rfl), trivial⟩
        refine ⟨hSw329, ?_⟩
        refine dt 4 rfl hP311 hR323 (want_n rfl) (fun x hx => r_eql (sy hR323) hR323 rfl rfl rfl rfl (by decide) gt) hSw329 (fun a330 hR331 => ?_)
        refine dt 5 rfl hP311 hR331 (want_n rfl) (fun x hx => r_move (sy hR331) hR331 rfl rfl rfl (by decide) gt) hSw329 (fun a332 hR333 => ?_)
        rcases Decidable.em (((lvChk (n.N))) = 0) with h334 | h334
        · skip
          have hR335 := hR333.setb (d := 53) (b := true) rfl (decide_eq_true h334)
          refine dt 6 rfl hP311 hR335 (wt hR335) (fun x hx => m_field (j' := 2) (sy hR335) hR335 rfl rfl rfl Tryd.underlying32 rfl sz3 rfl rfl (by decide) gt) hSw329 (fun a336 hR337 => ?_)
          refine dt 7 rfl hP311 hR337 (wt hR337) (fun x hx => m_loadC (sy hR337) hR337 rfl rfl rfl hx.2.2.2.1 Tryd.underlying3 rfl (by decide) gt) hSw329 (fun a338 hR339 => ?_)
          refine dt 8 rfl hP311 hR339 (wt hR339) (fun x hx => r_eql (sy hR339) hR339 rfl rfl rfl rfl (by decide) gt) hSw329 (fun a340 hR341 => ?_)
          refine dt 9 rfl hP311 hR341 (want_n rfl) (fun x hx => r_pick_t (sy hR341) hR341 rfl rfl rfl rfl (by decide) gt) hSw329 (fun a342 hR343 => ?_)
          refine dt 10 rfl hP311 hR343 (want_n rfl) (fun x hx => r_move (sy hR343) hR343 rfl rfl rfl (by decide) gt) hSw329 (fun a344 hR345 => ?_)
          rcases Decidable.em ((n.M) = 0) with h346 | h346
          · skip
            have hR347 := hR345.setb (d := 58) (b := true) rfl (decide_eq_true h346)
            refine dt 11 rfl hP311 hR347 (wt hR347) (fun x hx => m_field (j' := 3) (sy hR347) hR347 rfl rfl rfl Tryd.underlying32 rfl sz9 rfl rfl (by decide) gt) hSw329 (fun a348 hR349 => ?_)
            refine dt 12 rfl hP311 hR349 (wt hR349) (fun x hx => m_loadC (sy hR349) hR349 rfl rfl rfl hx.2.2.2.2.1 Tryd.underlying9 rfl (by decide) gt) hSw329 (fun a350 hR351 => ?_)
            refine dt 13 rfl hP311 hR351 (wt hR351) (fun x hx => r_eqlS (sy hR351) hR351 rfl rfl rfl rfl (by decide) gt) hSw329 (fun a352 hR353 => ?_)
            refine dt 14 rfl hP311 hR353 (want_n rfl) (fun x hx => r_pick_t (sy hR353) hR353 rfl rfl rfl rfl (by decide) gt) hSw329 (fun a354 hR355 => ?_)
            refine dt 15 rfl hP311 hR355 (want_n rfl) (fun x hx => r_assign (sy hR355) hR355 rfl rfl rfl (by decide) gt) hSw329 (fun a356 hR357 => ?_)
            refine dt 16 rfl hP311 hR357 (want_n rfl) (fun x hx => r_assign (sy hR357) hR357 rfl rfl rfl (by decide) gt) hSw329 (fun a358 hR359 => ?_)
            refine wpAnyH_done (by kernel_rfl) (hN312 _ _ ?_) _
            refine x_then_n (hK304 _ _ ?_)
            refine wp_ret ?_
            refine x_block_r ?_
            refine x_then_r ?_
            refine e_ret2 hR359 rfl rfl rfl rfl ?_
            have he360 : bindL n = [] := by rcases (show n.K = 2 by omega) with h <;> simp [bindL, h, shp]
            rw [he360]
            have hc364 := own_cap (hS328.res (i := 1) rfl)
            obtain ⟨hS361, hrow362⟩ := hS328.row_data (i := 1) rfl (fun _ h => h)
            have hS363 := hS361.data (dRow 1 (some ⟨g19, 0, none⟩) 0 0 (encIs ([]))) ⟨hc364, hrow362⟩
            refine ⟨(some ⟨g19, 0, none⟩), 0, ?_, hS363.fr, ⟨by have := (hS363.row (i := 1) rfl).1; exact this, ((hS363.row (i := 1) rfl).2.mono (fun _ hk => ⟨imm_nxt hk, rfl⟩))⟩⟩
            exact ret_t2 rfl (ret_b (by first | (rw [(right_sortR (by omega))]; done) | (rw [(right_sortR (by omega)), Bool.eq_iff_iff]; simp [and_assoc]; done) | (rw [(right_sortR (by omega))]; simp [h334, h346]; done) | (rw [(right_sortR (by omega))]; simp [h334, h346] <;> omega) | (symm; rw [(right_sortR (by omega))]; have z0 := h334; have z1 := h346;  simp; first | omega | (simp_all; done) | (simp_all; omega)) ))
          · skip
            have hR365 := hR345.setb (d := 58) (b := false) rfl (decide_eq_false h346)
            refine dp 11 rfl hP311 hR365 (wff hR365) hSw329 (fun a366 hR367 => ?_)
            refine dp 12 rfl hP311 hR367 (wff hR367) hSw329 (fun a368 hR369 => ?_)
            refine dp 13 rfl hP311 hR369 (wff hR369) hSw329 (fun a370 hR371 => ?_)
            refine dt 14 rfl hP311 hR371 (want_n rfl) (fun x hx => r_pick_f (sy hR371) hR371 rfl rfl rfl rfl (by decide) gt) hSw329 (fun a372 hR373 => ?_)
            refine dt 15 rfl hP311 hR373 (want_n rfl) (fun x hx => r_assign (sy hR373) hR373 rfl rfl rfl (by decide) gt) hSw329 (fun a374 hR375 => ?_)
            refine dt 16 rfl hP311 hR375 (want_n rfl) (fun x hx => r_assign (sy hR375) hR375 rfl rfl rfl (by decide) gt) hSw329 (fun a376 hR377 => ?_)
            refine wpAnyH_done (by kernel_rfl) (hN312 _ _ ?_) _
            refine x_then_n (hK304 _ _ ?_)
            refine wp_ret ?_
            refine x_block_r ?_
            refine x_then_r ?_
            refine e_ret2 hR377 rfl rfl rfl rfl ?_
            have he378 : bindL n = [] := by rcases (show n.K = 2 by omega) with h <;> simp [bindL, h, shp]
            rw [he378]
            have hc382 := own_cap (hS328.res (i := 1) rfl)
            obtain ⟨hS379, hrow380⟩ := hS328.row_data (i := 1) rfl (fun _ h => h)
            have hS381 := hS379.data (dRow 1 (some ⟨g19, 0, none⟩) 0 0 (encIs ([]))) ⟨hc382, hrow380⟩
            refine ⟨(some ⟨g19, 0, none⟩), 0, ?_, hS381.fr, ⟨by have := (hS381.row (i := 1) rfl).1; exact this, ((hS381.row (i := 1) rfl).2.mono (fun _ hk => ⟨imm_nxt hk, rfl⟩))⟩⟩
            exact ret_t2 rfl (ret_b (by first | (rw [(right_sortR (by omega))]; done) | (rw [(right_sortR (by omega)), Bool.eq_iff_iff]; simp [and_assoc]; done) | (rw [(right_sortR (by omega))]; simp [h334, h346]; done) | (rw [(right_sortR (by omega))]; simp [h334, h346] <;> omega) | (symm; rw [(right_sortR (by omega))]; have z0 := h334; have z1 := h346;  simp; first | omega | (simp_all; done) | (simp_all; omega)) ))
        · skip
          have hR383 := hR333.setb (d := 53) (b := false) rfl (decide_eq_false h334)
          refine dp 6 rfl hP311 hR383 (wff hR383) hSw329 (fun a384 hR385 => ?_)
          refine dp 7 rfl hP311 hR385 (wff hR385) hSw329 (fun a386 hR387 => ?_)
          refine dp 8 rfl hP311 hR387 (wff hR387) hSw329 (fun a388 hR389 => ?_)
          refine dt 9 rfl hP311 hR389 (want_n rfl) (fun x hx => r_pick_f (sy hR389) hR389 rfl rfl rfl rfl (by decide) gt) hSw329 (fun a390 hR391 => ?_)
          refine dt 10 rfl hP311 hR391 (want_n rfl) (fun x hx => r_move (sy hR391) hR391 rfl rfl rfl (by decide) gt) hSw329 (fun a392 hR393 => ?_)
          refine dp 11 rfl hP311 hR393 (wff hR393) hSw329 (fun a394 hR395 => ?_)
          refine dp 12 rfl hP311 hR395 (wff hR395) hSw329 (fun a396 hR397 => ?_)
          refine dp 13 rfl hP311 hR397 (wff hR397) hSw329 (fun a398 hR399 => ?_)
          refine dt 14 rfl hP311 hR399 (want_n rfl) (fun x hx => r_pick_f (sy hR399) hR399 rfl rfl rfl rfl (by decide) gt) hSw329 (fun a400 hR401 => ?_)
          refine dt 15 rfl hP311 hR401 (want_n rfl) (fun x hx => r_assign (sy hR401) hR401 rfl rfl rfl (by decide) gt) hSw329 (fun a402 hR403 => ?_)
          refine dt 16 rfl hP311 hR403 (want_n rfl) (fun x hx => r_assign (sy hR403) hR403 rfl rfl rfl (by decide) gt) hSw329 (fun a404 hR405 => ?_)
          refine wpAnyH_done (by kernel_rfl) (hN312 _ _ ?_) _
          refine x_then_n (hK304 _ _ ?_)
          refine wp_ret ?_
          refine x_block_r ?_
          refine x_then_r ?_
          refine e_ret2 hR405 rfl rfl rfl rfl ?_
          have he406 : bindL n = [] := by rcases (show n.K = 2 by omega) with h <;> simp [bindL, h, shp]
          rw [he406]
          have hc410 := own_cap (hS328.res (i := 1) rfl)
          obtain ⟨hS407, hrow408⟩ := hS328.row_data (i := 1) rfl (fun _ h => h)
          have hS409 := hS407.data (dRow 1 (some ⟨g19, 0, none⟩) 0 0 (encIs ([]))) ⟨hc410, hrow408⟩
          refine ⟨(some ⟨g19, 0, none⟩), 0, ?_, hS409.fr, ⟨by have := (hS409.row (i := 1) rfl).1; exact this, ((hS409.row (i := 1) rfl).2.mono (fun _ hk => ⟨imm_nxt hk, rfl⟩))⟩⟩
          exact ret_t2 rfl (ret_b (by first | (rw [(right_sortR (by omega))]; done) | (rw [(right_sortR (by omega)), Bool.eq_iff_iff]; simp [and_assoc]; done) | (rw [(right_sortR (by omega))]; simp [h334]; done) | (rw [(right_sortR (by omega))]; simp [h334] <;> omega) | (symm; rw [(right_sortR (by omega))]; have z0 := h334;  simp; first | omega | (simp_all; done) | (simp_all; omega)) ))
      · skip
        have hR411 := hR300.setb (d := 46) (b := false) rfl (decide_eq_false h301)
        refine wp_cond_false (hR411.ev rfl) ?_
        refine c_join (fun ga gw => Reg ga 228 [(1, .pointer (some ⟨g8, 0, none⟩)), (2, .slice none 0 0), (3, .bool false), (4, .slice (some ⟨g19, 0, none⟩) 0 0), (7, .int .i64 (n.K)), (63, .bool ((decide ((n.K) = 3)) || (decide ((n.K) = 6)))), (1000000, .bool false)] ∧ St w0 Z none_ gw [.box g8 32 [.int .i64 (n.K), .int .i64 (n.N), .int .i64 (n.M), .string n.S], .row (some ⟨g19, 0, none⟩) 0 0 3 1 (encIs ([]))] []) ?_ ?_
        · skip
          refine wp_seq_k (fun K412 hK413 => ?_)
          refine c_region ?_
          refine r_eql sv hR411 rfl rfl rfl rfl (by decide) (fun a414 hR415 => ?_)
          refine asg hR415 (fun a416 hR417 => ?_)
          refine wpList_nil (x_then_n (hK413 _ _ ?_))
          rcases Decidable.em ((n.K) = 3) with h418 | h418
          · skip
            have hR419 := hR417.setb (d := 63) (b := true) rfl (decide_eq_true h418)
            refine wp_cond_true (hR419.ev rfl) ?_
            refine wp_skip ?_
            exact x_then_n ⟨(hR419.sub (rc rfl (rc rfl (rc rfl (rc rfl (rc rfl (rc (rb rfl (by first | rfl | (simp only [decide_eq_true h418, if_pos h418, bl]; done) | (simp [h418]; done) | (simp [h418]; omega))) (rc rfl rnl)))))))), hS205⟩
          · skip
            have hR420 := hR417.setb (d := 63) (b := false) rfl (decide_eq_false h418)
            refine wp_cond_false (hR420.ev rfl) ?_
            refine c_region ?_
            refine r_eql sv hR420 rfl rfl rfl rfl (by decide) (fun a421 hR422 => ?_)
            refine asg hR422 (fun a423 hR424 => ?_)
            refine wpList_nil ?_
            exact x_then_n ⟨(hR424.sub (rc rfl (rc rfl (rc rfl (rc rfl (rc rfl (rc (rb rfl (by first | rfl | (simp only [decide_eq_false h418, if_neg h418, bl]; done) | (simp [h418]; done) | (simp [h418]; omega))) (rc rfl rnl)))))))), hS205⟩
        rintro a425 w426 ⟨hR427, hS428⟩
        rcases Bool.eq_false_or_eq_true (((decide ((n.K) = 3)) || (decide ((n.K) = 6)))) with h429 | h429
        · skip
          have hq430 := h429
          try simp only [Bool.or_eq_true, Bool.and_eq_true, Bool.not_eq_true', Bool.not_eq_false', decide_eq_true_eq, decide_eq_false_iff_not, Bool.or_eq_false_iff, Bool.and_eq_false_iff] at hq430
          have hR431 := hR427.setb (d := 63) (b := true) rfl h429
          refine wp_cond_true (hR431.ev rfl) ?_
          refine wp_seq_k (fun K432 hK433 => ?_)
          obtain ⟨J434, hJ435, hS436⟩ := hS428.agree
          refine d_region2 (S := (fun x => agr w426 J434 x ∧ cel g8 0 (.int .i64 (n.K)) x ∧ cel g8 1 (.int .i64 (n.N)) x ∧ cel g8 2 (.int .i64 (n.M)) x ∧ cel g8 3 (.string n.S) x ∧ True)) (n := 23) mixed rfl hS436 (pan_then (pan_block (pan_then pan_body))) (fun Q439 hP440 hN441 w437 hS438 => ?_)
          have hSw442 : agr w426 J434 w437 ∧ cel g8 0 (.int .i64 (n.K)) w437 ∧ cel g8 1 (.int .i64 (n.N)) w437 ∧ cel g8 2 (.int .i64 (n.M)) w437 ∧ cel g8 3 (.string n.S) w437 ∧ True := ⟨⟨(hS438.get (i := 0) rfl).1, fun k hk => ((hS438.get (i := 0) rfl).2 k hk).2⟩, (box_cell (hS438.res (i := 0) rfl) rfl), (box_cell (hS438.res (i := 0) rfl) rfl), (box_cell (hS438.res (i := 0) rfl) rfl), (box_cell (hS438.res (i := 0) rfl) rfl), trivial⟩
          refine dt 0 rfl hP440 hR431 (want_n rfl) (fun x hx => r_move (sy hR431) hR431 rfl rfl rfl (by decide) gt) hSw442 (fun a443 hR444 => ?_)
          refine dt 3 rfl hP440 hR444 (want_n rfl) (fun x hx => m_field (j' := 1) (sy hR444) hR444 rfl rfl rfl Tryd.underlying32 rfl sz3 rfl rfl (by decide) gt) hSw442 (fun a445 hR446 => ?_)
          refine dt 4 rfl hP440 hR446 (want_n rfl) (fun x hx => m_loadC (sy hR446) hR446 rfl rfl rfl hx.2.2.1 Tryd.underlying3 rfl (by decide) gt) hSw442 (fun a447 hR448 => ?_)
          refine dt 5 rfl hP440 hR448 (want_n rfl) (fun x hx => r_geq (sy hR448) hR448 rfl rfl rfl rfl (by decide) gt) hSw442 (fun a449 hR450 => ?_)
          refine d_one (i := 1) (by kernel_rfl) ?_
          refine m_buildSlice (ps := [(0, .const (.int .i64 0)), (1, .const (.int .i64 1))]) (cs := [.int .i64 0, .int .i64 1]) (st_opV rfl (want_n rfl)) hR450 hS438 rfl rfl rfl Tryd.underlying66 zi3 rfl rfl (by kernel_rfl) rfl (by decide) (fun a451 w452 g453 hR454 hS455 => ?_)
          have hSw456 : agr w426 J434 w452 ∧ cel g8 0 (.int .i64 (n.K)) w452 ∧ cel g8 1 (.int .i64 (n.N)) w452 ∧ cel g8 2 (.int .i64 (n.M)) w452 ∧ cel g8 3 (.string n.S) w452 ∧ True := ⟨⟨(hS455.get (i := 0) rfl).1, fun k hk => ((hS455.get (i := 0) rfl).2 k hk).2⟩, (box_cell (hS455.res (i := 0) rfl) rfl), (box_cell (hS455.res (i := 0) rfl) rfl), (box_cell (hS455.res (i := 0) rfl) rfl), (box_cell (hS455.res (i := 0) rfl) rfl), trivial⟩
          refine ⟨hSw456, ?_⟩
          refine d_one (i := 2) (by kernel_rfl) ?_
          refine m_appendF (f := encI) (i := 1) ([]) ([0, 1]) (st_opV rfl (want_n rfl)) hR454 hS455 rfl rfl rfl rfl rfl encI_len (encI_one _) Tryd.underlying66 zi3 rfl rfl (own_lnews (f := encI) (hS455.res (i := 2) rfl)) rfl (by first | omega | (simp only [List.length_cons, List.length_nil]; omega)) (by decide) (fun a457 w458 A459 c460 hc461 hR462 hS463 => ?_)
          have hl465 : (([]) ++ ([0, 1]) : List Int).length = 2 := by first | (simp only [List.length_append, List.length_take, List.length_cons, List.length_nil]; done) | (simp only [List.length_append, List.length_take, List.length_cons, List.length_nil]; omega)
          have hS466 := hS463.erase 2
          have hSw467 : agr w426 J434 w458 ∧ cel g8 0 (.int .i64 (n.K)) w458 ∧ cel g8 1 (.int .i64 (n.N)) w458 ∧ cel g8 2 (.int .i64 (n.M)) w458 ∧ cel g8 3 (.string n.S) w458 ∧ True := ⟨⟨(hS466.get (i := 0) rfl).1, fun k hk => ((hS466.get (i := 0) rfl).2 k hk).2⟩, (box_cell (hS466.res (i := 0) rfl) rfl), (box_cell (hS466.res (i := 0) rfl) rfl), (box_cell (hS466.res (i := 0) rfl) rfl), (box_cell (hS466.res (i := 0) rfl) rfl), trivial⟩
          refine ⟨hSw467, ?_⟩
          refine dt 6 rfl hP440 hR462 (want_n rfl) (fun x hx => r_move (sy hR462) hR462 rfl rfl rfl (by decide) gt) hSw467 (fun a468 hR469 => ?_)
          rcases Decidable.em (0 ≤ (n.N)) with h470 | h470
          · skip
            have hR471 := hR469.setb (d := 72) (b := true) rfl (decide_eq_true h470)
            refine dt 7 rfl hP440 hR471 (wt hR471) (fun x hx => m_field (j' := 1) (sy hR471) hR471 rfl rfl rfl Tryd.underlying32 rfl sz3 rfl rfl (by decide) gt) hSw467 (fun a472 hR473 => ?_)
            refine dt 8 rfl hP440 hR473 (wt hR473) (fun x hx => m_loadC (sy hR473) hR473 rfl rfl rfl hx.2.2.1 Tryd.underlying3 rfl (by decide) gt) hSw467 (fun a474 hR475 => ?_)
            refine dt 9 rfl hP440 hR475 (wt hR475) (fun x hx => r_leq (sy hR475) hR475 rfl rfl rfl rfl (by decide) gt) hSw467 (fun a476 hR477 => ?_)
            refine dt 10 rfl hP440 hR477 (want_n rfl) (fun x hx => r_pick_t (sy hR477) hR477 rfl rfl rfl rfl (by decide) gt) hSw467 (fun a478 hR479 => ?_)
            refine dt 11 rfl hP440 hR479 (want_n rfl) (fun x hx => r_move (sy hR479) hR479 rfl rfl rfl (by decide) gt) hSw467 (fun a480 hR481 => ?_)
            rcases Decidable.em ((n.N) ≤ 3) with h482 | h482
            · skip
              have hR483 := hR481.setb (d := 77) (b := true) rfl (decide_eq_true h482)
              refine dt 12 rfl hP440 hR483 (wt hR483) (fun x hx => m_field (j' := 2) (sy hR483) hR483 rfl rfl rfl Tryd.underlying32 rfl sz3 rfl rfl (by decide) gt) hSw467 (fun a484 hR485 => ?_)
              refine dt 13 rfl hP440 hR485 (wt hR485) (fun x hx => m_loadC (sy hR485) hR485 rfl rfl rfl hx.2.2.2.1 Tryd.underlying3 rfl (by decide) gt) hSw467 (fun a486 hR487 => ?_)
              refine dt 14 rfl hP440 hR487 (wt hR487) (fun x hx => r_eql (sy hR487) hR487 rfl rfl rfl rfl (by decide) gt) hSw467 (fun a488 hR489 => ?_)
              refine dt 15 rfl hP440 hR489 (want_n rfl) (fun x hx => r_pick_t (sy hR489) hR489 rfl rfl rfl rfl (by decide) gt) hSw467 (fun a490 hR491 => ?_)
              refine dt 16 rfl hP440 hR491 (want_n rfl) (fun x hx => r_move (sy hR491) hR491 rfl rfl rfl (by decide) gt) hSw467 (fun a492 hR493 => ?_)
              rcases Decidable.em ((n.M) = 0) with h494 | h494
              · skip
                have hR495 := hR493.setb (d := 82) (b := true) rfl (decide_eq_true h494)
                refine dt 17 rfl hP440 hR495 (wt hR495) (fun x hx => m_field (j' := 3) (sy hR495) hR495 rfl rfl rfl Tryd.underlying32 rfl sz9 rfl rfl (by decide) gt) hSw467 (fun a496 hR497 => ?_)
                refine dt 18 rfl hP440 hR497 (wt hR497) (fun x hx => m_loadC (sy hR497) hR497 rfl rfl rfl hx.2.2.2.2.1 Tryd.underlying9 rfl (by decide) gt) hSw467 (fun a498 hR499 => ?_)
                refine dt 19 rfl hP440 hR499 (wt hR499) (fun x hx => r_eqlS (sy hR499) hR499 rfl rfl rfl rfl (by decide) gt) hSw467 (fun a500 hR501 => ?_)
                refine dt 20 rfl hP440 hR501 (want_n rfl) (fun x hx => r_pick_t (sy hR501) hR501 rfl rfl rfl rfl (by decide) gt) hSw467 (fun a502 hR503 => ?_)
                refine dt 21 rfl hP440 hR503 (want_n rfl) (fun x hx => r_assign (sy hR503) hR503 rfl rfl rfl (by decide) gt) hSw467 (fun a504 hR505 => ?_)
                refine dt 22 rfl hP440 hR505 (want_n rfl) (fun x hx => r_assign (sy hR505) hR505 rfl rfl rfl (by decide) gt) hSw467 (fun a506 hR507 => ?_)
                refine wpAnyH_done (by kernel_rfl) (hN441 _ _ ?_) _
                refine x_then_n (hK433 _ _ ?_)
                refine wp_ret ?_
                refine x_block_r ?_
                refine x_then_r ?_
                refine e_ret2 hR507 rfl rfl rfl rfl ?_
                have he508 : bindL n = ([]) ++ ([0, 1]) := by rcases (show n.K = 3 ∨ n.K = 6 by omega) with h | h <;> simp [bindL, h, shp]
                rw [he508]
                have hc512 := own_cap (hS466.res (i := 1) rfl)
                obtain ⟨hS509, hrow510⟩ := hS466.row_data (i := 1) rfl (fun _ h => h)
                have hS511 := hS509.data (dRow 1 A459 ((([]) ++ ([0, 1]) : List Int).length) c460 (encIs (([]) ++ ([0, 1])))) ⟨hc512, hrow510⟩
                refine ⟨A459, c460, ?_, hS511.fr, ⟨by have := (hS511.row (i := 1) rfl).1; exact this, ((hS511.row (i := 1) rfl).2.mono (fun _ hk => ⟨imm_nxt hk, rfl⟩))⟩⟩
                exact ret_t2 rfl (ret_b (by first | (rw [(right_pi (by omega))]; done) | (rw [(right_pi (by omega)), Bool.eq_iff_iff]; simp [and_assoc]; done) | (rw [(right_pi (by omega))]; simp [h470, h482, h494]; done) | (rw [(right_pi (by omega))]; simp [h470, h482, h494] <;> omega) | (symm; rw [(right_pi (by omega))]; have z0 := h470; have z1 := h482; have z2 := h494;  simp; first | omega | (simp_all; done) | (simp_all; omega)) ))
              · skip
                have hR513 := hR493.setb (d := 82) (b := false) rfl (decide_eq_false h494)
                refine dp 17 rfl hP440 hR513 (wff hR513) hSw467 (fun a514 hR515 => ?_)
                refine dp 18 rfl hP440 hR515 (wff hR515) hSw467 (fun a516 hR517 => ?_)
                refine dp 19 rfl hP440 hR517 (wff hR517) hSw467 (fun a518 hR519 => ?_)
                refine dt 20 rfl hP440 hR519 (want_n rfl) (fun x hx => r_pick_f (sy hR519) hR519 rfl rfl rfl rfl (by decide) gt) hSw467 (fun a520 hR521 => ?_)
                refine dt 21 rfl hP440 hR521 (want_n rfl) (fun x hx => r_assign (sy hR521) hR521 rfl rfl rfl (by decide) gt) hSw467 (fun a522 hR523 => ?_)
                refine dt 22 rfl hP440 hR523 (want_n rfl) (fun x hx => r_assign (sy hR523) hR523 rfl rfl rfl (by decide) gt) hSw467 (fun a524 hR525 => ?_)
                refine wpAnyH_done (by kernel_rfl) (hN441 _ _ ?_) _
                refine x_then_n (hK433 _ _ ?_)
                refine wp_ret ?_
                refine x_block_r ?_
                refine x_then_r ?_
                refine e_ret2 hR525 rfl rfl rfl rfl ?_
                have he526 : bindL n = ([]) ++ ([0, 1]) := by rcases (show n.K = 3 ∨ n.K = 6 by omega) with h | h <;> simp [bindL, h, shp]
                rw [he526]
                have hc530 := own_cap (hS466.res (i := 1) rfl)
                obtain ⟨hS527, hrow528⟩ := hS466.row_data (i := 1) rfl (fun _ h => h)
                have hS529 := hS527.data (dRow 1 A459 ((([]) ++ ([0, 1]) : List Int).length) c460 (encIs (([]) ++ ([0, 1])))) ⟨hc530, hrow528⟩
                refine ⟨A459, c460, ?_, hS529.fr, ⟨by have := (hS529.row (i := 1) rfl).1; exact this, ((hS529.row (i := 1) rfl).2.mono (fun _ hk => ⟨imm_nxt hk, rfl⟩))⟩⟩
                exact ret_t2 rfl (ret_b (by first | (rw [(right_pi (by omega))]; done) | (rw [(right_pi (by omega)), Bool.eq_iff_iff]; simp [and_assoc]; done) | (rw [(right_pi (by omega))]; simp [h470, h482, h494]; done) | (rw [(right_pi (by omega))]; simp [h470, h482, h494] <;> omega) | (symm; rw [(right_pi (by omega))]; have z0 := h470; have z1 := h482; have z2 := h494;  simp; first | omega | (simp_all; done) | (simp_all; omega)) ))
            · skip
              have hR531 := hR481.setb (d := 77) (b := false) rfl (decide_eq_false h482)
              refine dp 12 rfl hP440 hR531 (wff hR531) hSw467 (fun a532 hR533 => ?_)
              refine dp 13 rfl hP440 hR533 (wff hR533) hSw467 (fun a534 hR535 => ?_)
              refine dp 14 rfl hP440 hR535 (wff hR535) hSw467 (fun a536 hR537 => ?_)
              refine dt 15 rfl hP440 hR537 (want_n rfl) (fun x hx => r_pick_f (sy hR537) hR537 rfl rfl rfl rfl (by decide) gt) hSw467 (fun a538 hR539 => ?_)
              refine dt 16 rfl hP440 hR539 (want_n rfl) (fun x hx => r_move (sy hR539) hR539 rfl rfl rfl (by decide) gt) hSw467 (fun a540 hR541 => ?_)
              refine dp 17 rfl hP440 hR541 (wff hR541) hSw467 (fun a542 hR543 => ?_)
              refine dp 18 rfl hP440 hR543 (wff hR543) hSw467 (fun a544 hR545 => ?_)
              refine dp 19 rfl hP440 hR545 (wff hR545) hSw467 (fun a546 hR547 => ?_)
              refine dt 20 rfl hP440 hR547 (want_n rfl) (fun x hx => r_pick_f (sy hR547) hR547 rfl rfl rfl rfl (by decide) gt) hSw467 (fun a548 hR549 => ?_)
              refine dt 21 rfl hP440 hR549 (want_n rfl) (fun x hx => r_assign (sy hR549) hR549 rfl rfl rfl (by decide) gt) hSw467 (fun a550 hR551 => ?_)
              refine dt 22 rfl hP440 hR551 (want_n rfl) (fun x hx => r_assign (sy hR551) hR551 rfl rfl rfl (by decide) gt) hSw467 (fun a552 hR553 => ?_)
              refine wpAnyH_done (by kernel_rfl) (hN441 _ _ ?_) _
              refine x_then_n (hK433 _ _ ?_)
              refine wp_ret ?_
              refine x_block_r ?_
              refine x_then_r ?_
              refine e_ret2 hR553 rfl rfl rfl rfl ?_
              have he554 : bindL n = ([]) ++ ([0, 1]) := by rcases (show n.K = 3 ∨ n.K = 6 by omega) with h | h <;> simp [bindL, h, shp]
              rw [he554]
              have hc558 := own_cap (hS466.res (i := 1) rfl)
              obtain ⟨hS555, hrow556⟩ := hS466.row_data (i := 1) rfl (fun _ h => h)
              have hS557 := hS555.data (dRow 1 A459 ((([]) ++ ([0, 1]) : List Int).length) c460 (encIs (([]) ++ ([0, 1])))) ⟨hc558, hrow556⟩
              refine ⟨A459, c460, ?_, hS557.fr, ⟨by have := (hS557.row (i := 1) rfl).1; exact this, ((hS557.row (i := 1) rfl).2.mono (fun _ hk => ⟨imm_nxt hk, rfl⟩))⟩⟩
              exact ret_t2 rfl (ret_b (by first | (rw [(right_pi (by omega))]; done) | (rw [(right_pi (by omega)), Bool.eq_iff_iff]; simp [and_assoc]; done) | (rw [(right_pi (by omega))]; simp [h470, h482]; done) | (rw [(right_pi (by omega))]; simp [h470, h482] <;> omega) | (symm; rw [(right_pi (by omega))]; have z0 := h470; have z1 := h482;  simp; first | omega | (simp_all; done) | (simp_all; omega)) ))
          · skip
            have hR559 := hR469.setb (d := 72) (b := false) rfl (decide_eq_false h470)
            refine dp 7 rfl hP440 hR559 (wff hR559) hSw467 (fun a560 hR561 => ?_)
            refine dp 8 rfl hP440 hR561 (wff hR561) hSw467 (fun a562 hR563 => ?_)
            refine dp 9 rfl hP440 hR563 (wff hR563) hSw467 (fun a564 hR565 => ?_)
            refine dt 10 rfl hP440 hR565 (want_n rfl) (fun x hx => r_pick_f (sy hR565) hR565 rfl rfl rfl rfl (by decide) gt) hSw467 (fun a566 hR567 => ?_)
            refine dt 11 rfl hP440 hR567 (want_n rfl) (fun x hx => r_move (sy hR567) hR567 rfl rfl rfl (by decide) gt) hSw467 (fun a568 hR569 => ?_)
            refine dp 12 rfl hP440 hR569 (wff hR569) hSw467 (fun a570 hR571 => ?_)
            refine dp 13 rfl hP440 hR571 (wff hR571) hSw467 (fun a572 hR573 => ?_)
            refine dp 14 rfl hP440 hR573 (wff hR573) hSw467 (fun a574 hR575 => ?_)
            refine dt 15 rfl hP440 hR575 (want_n rfl) (fun x hx => r_pick_f (sy hR575) hR575 rfl rfl rfl rfl (by decide) gt) hSw467 (fun a576 hR577 => ?_)
            refine dt 16 rfl hP440 hR577 (want_n rfl) (fun x hx => r_move (sy hR577) hR577 rfl rfl rfl (by decide) gt) hSw467 (fun a578 hR579 => ?_)
            refine dp 17 rfl hP440 hR579 (wff hR579) hSw467 (fun a580 hR581 => ?_)
            refine dp 18 rfl hP440 hR581 (wff hR581) hSw467 (fun a582 hR583 => ?_)
            refine dp 19 rfl hP440 hR583 (wff hR583) hSw467 (fun a584 hR585 => ?_)
            refine dt 20 rfl hP440 hR585 (want_n rfl) (fun x hx => r_pick_f (sy hR585) hR585 rfl rfl rfl rfl (by decide) gt) hSw467 (fun a586 hR587 => ?_)
            refine dt 21 rfl hP440 hR587 (want_n rfl) (fun x hx => r_assign (sy hR587) hR587 rfl rfl rfl (by decide) gt) hSw467 (fun a588 hR589 => ?_)
            refine dt 22 rfl hP440 hR589 (want_n rfl) (fun x hx => r_assign (sy hR589) hR589 rfl rfl rfl (by decide) gt) hSw467 (fun a590 hR591 => ?_)
            refine wpAnyH_done (by kernel_rfl) (hN441 _ _ ?_) _
            refine x_then_n (hK433 _ _ ?_)
            refine wp_ret ?_
            refine x_block_r ?_
            refine x_then_r ?_
            refine e_ret2 hR591 rfl rfl rfl rfl ?_
            have he592 : bindL n = ([]) ++ ([0, 1]) := by rcases (show n.K = 3 ∨ n.K = 6 by omega) with h | h <;> simp [bindL, h, shp]
            rw [he592]
            have hc596 := own_cap (hS466.res (i := 1) rfl)
            obtain ⟨hS593, hrow594⟩ := hS466.row_data (i := 1) rfl (fun _ h => h)
            have hS595 := hS593.data (dRow 1 A459 ((([]) ++ ([0, 1]) : List Int).length) c460 (encIs (([]) ++ ([0, 1])))) ⟨hc596, hrow594⟩
            refine ⟨A459, c460, ?_, hS595.fr, ⟨by have := (hS595.row (i := 1) rfl).1; exact this, ((hS595.row (i := 1) rfl).2.mono (fun _ hk => ⟨imm_nxt hk, rfl⟩))⟩⟩
            exact ret_t2 rfl (ret_b (by first | (rw [(right_pi (by omega))]; done) | (rw [(right_pi (by omega)), Bool.eq_iff_iff]; simp [and_assoc]; done) | (rw [(right_pi (by omega))]; simp [h470]; done) | (rw [(right_pi (by omega))]; simp [h470] <;> omega) | (symm; rw [(right_pi (by omega))]; have z0 := h470;  simp; first | omega | (simp_all; done) | (simp_all; omega)) ))
        · skip
          have h597 := or_fl h429
          have h598 := of_decide_eq_false h597
          have h599 := or_fr h429
          have h600 := of_decide_eq_false h599
          have hR601 := hR427.setb (d := 63) (b := false) rfl h429
          refine wp_cond_false (hR601.ev rfl) ?_
          refine wp_seq_k (fun K602 hK603 => ?_)
          refine c_region ?_
          refine r_eql sv hR601 rfl rfl rfl rfl (by decide) (fun a604 hR605 => ?_)
          refine asg hR605 (fun a606 hR607 => ?_)
          refine wpList_nil (x_then_n (hK603 _ _ ?_))
          rcases Decidable.em ((n.K) = 4) with h608 | h608
          · skip
            have hR609 := hR607.setb (d := 87) (b := true) rfl (decide_eq_true h608)
            refine wp_cond_true (hR609.ev rfl) ?_
            refine wp_seq_k (fun K610 hK611 => ?_)
            obtain ⟨J612, hJ613, hS614⟩ := hS428.agree
            refine d_region2 (S := (fun x => agr w426 J612 x ∧ cel g8 0 (.int .i64 (n.K)) x ∧ cel g8 1 (.int .i64 (n.N)) x ∧ cel g8 2 (.int .i64 (n.M)) x ∧ cel g8 3 (.string n.S) x ∧ True)) (n := 7) mixed rfl hS614 (pan_then (pan_block (pan_then pan_body))) (fun Q617 hP618 hN619 w615 hS616 => ?_)
            have hSw620 : agr w426 J612 w615 ∧ cel g8 0 (.int .i64 (n.K)) w615 ∧ cel g8 1 (.int .i64 (n.N)) w615 ∧ cel g8 2 (.int .i64 (n.M)) w615 ∧ cel g8 3 (.string n.S) w615 ∧ True := ⟨⟨(hS616.get (i := 0) rfl).1, fun k hk => ((hS616.get (i := 0) rfl).2 k hk).2⟩, (box_cell (hS616.res (i := 0) rfl) rfl), (box_cell (hS616.res (i := 0) rfl) rfl), (box_cell (hS616.res (i := 0) rfl) rfl), (box_cell (hS616.res (i := 0) rfl) rfl), trivial⟩
            refine dt 0 rfl hP618 hR609 (want_n rfl) (fun x hx => r_move (sy hR609) hR609 rfl rfl rfl (by decide) gt) hSw620 (fun a621 hR622 => ?_)
            refine dt 3 rfl hP618 hR622 (want_n rfl) (fun x hx => m_loadCN (sy hR622) hR622 rfl rfl rfl (CellsAt.cons_ hx.2.1 (CellsAt.cons_ hx.2.2.1 (CellsAt.cons_ hx.2.2.2.1 (CellsAt.cons_ hx.2.2.2.2.1 (CellsAt.nil _ _))))) Tryd.underlying32 rfl sz32 (by decide) gt) hSw620 (fun a623 hR624 => ?_)
            refine d_one (i := 1) (by kernel_rfl) ?_
            refine m_buildSlice (ps := [(0, .const (.int .i64 0)), (1, .const (.int .i64 1))]) (cs := [.int .i64 0, .int .i64 1]) (st_opV rfl (want_n rfl)) hR624 hS616 rfl rfl rfl Tryd.underlying66 zi3 rfl rfl (by kernel_rfl) rfl (by decide) (fun a625 w626 g627 hR628 hS629 => ?_)
            have hSw630 : agr w426 J612 w626 ∧ cel g8 0 (.int .i64 (n.K)) w626 ∧ cel g8 1 (.int .i64 (n.N)) w626 ∧ cel g8 2 (.int .i64 (n.M)) w626 ∧ cel g8 3 (.string n.S) w626 ∧ True := ⟨⟨(hS629.get (i := 0) rfl).1, fun k hk => ((hS629.get (i := 0) rfl).2 k hk).2⟩, (box_cell (hS629.res (i := 0) rfl) rfl), (box_cell (hS629.res (i := 0) rfl) rfl), (box_cell (hS629.res (i := 0) rfl) rfl), (box_cell (hS629.res (i := 0) rfl) rfl), trivial⟩
            refine ⟨hSw630, ?_⟩
            refine d_one (i := 2) (by kernel_rfl) ?_
            refine m_appendF (f := encI) (i := 1) ([]) ([0, 1]) (st_opV rfl (want_n rfl)) hR628 hS629 rfl rfl rfl rfl rfl encI_len (encI_one _) Tryd.underlying66 zi3 rfl rfl (own_lnews (f := encI) (hS629.res (i := 2) rfl)) rfl (by first | omega | (simp only [List.length_cons, List.length_nil]; omega)) (by decide) (fun a631 w632 A633 c634 hc635 hR636 hS637 => ?_)
            have hl639 : (([]) ++ ([0, 1]) : List Int).length = 2 := by first | (simp only [List.length_append, List.length_take, List.length_cons, List.length_nil]; done) | (simp only [List.length_append, List.length_take, List.length_cons, List.length_nil]; omega)
            have hS640 := hS637.erase 2
            have hSw641 : agr w426 J612 w632 ∧ cel g8 0 (.int .i64 (n.K)) w632 ∧ cel g8 1 (.int .i64 (n.N)) w632 ∧ cel g8 2 (.int .i64 (n.M)) w632 ∧ cel g8 3 (.string n.S) w632 ∧ True := ⟨⟨(hS640.get (i := 0) rfl).1, fun k hk => ((hS640.get (i := 0) rfl).2 k hk).2⟩, (box_cell (hS640.res (i := 0) rfl) rfl), (box_cell (hS640.res (i := 0) rfl) rfl), (box_cell (hS640.res (i := 0) rfl) rfl), (box_cell (hS640.res (i := 0) rfl) rfl), trivial⟩
            refine ⟨hSw641, ?_⟩
            refine d_one (i := 4) (by kernel_rfl) ?_
            have hS642 : St w0 Z none_ w632 [.box g8 32 [.int .i64 (n.K), .int .i64 (n.N), .int .i64 (n.M), .string n.S], .row A633 ((([]) ++ ([0, 1]) : List Int).length) c634 3 1 (encIs (([]) ++ ([0, 1])))] [dAg w426 J612] := hS640
            refine k_call (xs := [.tmp 92]) (st_op rfl (want_n rfl)) hR636 rfl rfl rfl (by decide) ok79 (rplain_calls _ (imm Z w0 [.box g8 32 [.int .i64 (n.K), .int .i64 (n.N), .int .i64 (n.M), .string n.S], .row A633 ((([]) ++ ([0, 1]) : List Int).length) c634 3 1 (encIs (([]) ++ ([0, 1])))] _) (fun _ h => h.1) n) ?_
            rintro e649 w644 ⟨rfl, hf647⟩
            have hS650 := hS642.below hf647.below
            refine ⟨_, rfl, fun a643 hR645 => ?_⟩
            have hSw651 : agr w426 J612 w644 ∧ cel g8 0 (.int .i64 (n.K)) w644 ∧ cel g8 1 (.int .i64 (n.N)) w644 ∧ cel g8 2 (.int .i64 (n.M)) w644 ∧ cel g8 3 (.string n.S) w644 ∧ True := ⟨⟨(hS650.get (i := 0) rfl).1, fun k hk => ((hS650.get (i := 0) rfl).2 k hk).2⟩, (box_cell (hS650.res (i := 0) rfl) rfl), (box_cell (hS650.res (i := 0) rfl) rfl), (box_cell (hS650.res (i := 0) rfl) rfl), (box_cell (hS650.res (i := 0) rfl) rfl), trivial⟩
            refine ⟨hSw651, ?_⟩
            refine dt 5 rfl hP618 hR645 (want_n rfl) (fun x hx => r_assign (sy hR645) hR645 rfl rfl rfl (by decide) gt) hSw651 (fun a652 hR653 => ?_)
            refine dt 6 rfl hP618 hR653 (want_n rfl) (fun x hx => r_assign (sy hR653) hR653 rfl rfl rfl (by decide) gt) hSw651 (fun a654 hR655 => ?_)
            refine wpAnyH_done (by kernel_rfl) (hN619 _ _ ?_) _
            refine x_then_n (hK611 _ _ ?_)
            refine wp_ret ?_
            refine x_block_r ?_
            refine x_then_r ?_
            refine e_ret2 hR655 rfl rfl rfl rfl ?_
            have he656 : bindL n = ([]) ++ ([0, 1]) := by rcases (show n.K = 4 by omega) with h <;> simp [bindL, h, shp]
            rw [he656]
            have hc660 := own_cap (hS650.res (i := 1) rfl)
            obtain ⟨hS657, hrow658⟩ := hS650.row_data (i := 1) rfl (fun _ h => h)
            have hS659 := hS657.data (dRow 1 A633 ((([]) ++ ([0, 1]) : List Int).length) c634 (encIs (([]) ++ ([0, 1])))) ⟨hc660, hrow658⟩
            refine ⟨A633, c634, ?_, hS659.fr, ⟨by have := (hS659.row (i := 1) rfl).1; exact this, ((hS659.row (i := 1) rfl).2.mono (fun _ hk => ⟨imm_nxt hk, rfl⟩))⟩⟩
            exact ret_t2 rfl (ret_b (by first | (rw [(right_plain (by omega) (by omega) (by omega))]; done) | (rw [(right_plain (by omega) (by omega) (by omega)), Bool.eq_iff_iff]; simp [and_assoc]; done) | (rw [(right_plain (by omega) (by omega) (by omega))]; simp []; done) | (rw [(right_plain (by omega) (by omega) (by omega))]; simp [] <;> omega) | (symm; rw [(right_plain (by omega) (by omega) (by omega))];  simp; first | omega | (simp_all; done) | (simp_all; omega)) ))
          · skip
            have hR661 := hR607.setb (d := 87) (b := false) rfl (decide_eq_false h608)
            refine wp_cond_false (hR661.ev rfl) ?_
            refine c_join (fun ga gw => Reg ga 228 [(1, .pointer (some ⟨g8, 0, none⟩)), (2, .slice none 0 0), (3, .bool false), (4, .slice (some ⟨g19, 0, none⟩) 0 0), (7, .int .i64 (n.K)), (94, .bool ((decide ((n.K) = 5)) || ((decide ((n.K) = 15)) || ((decide ((n.K) = 19)) || (decide ((n.K) = 23)))))), (1000000, .bool false)] ∧ St w0 Z none_ gw [.box g8 32 [.int .i64 (n.K), .int .i64 (n.N), .int .i64 (n.M), .string n.S], .row (some ⟨g19, 0, none⟩) 0 0 3 1 (encIs ([]))] []) ?_ ?_
            · skip
              refine wp_seq_k (fun K662 hK663 => ?_)
              refine c_region ?_
              refine r_eql sv hR661 rfl rfl rfl rfl (by decide) (fun a664 hR665 => ?_)
              refine asg hR665 (fun a666 hR667 => ?_)
              refine wpList_nil (x_then_n (hK663 _ _ ?_))
              rcases Decidable.em ((n.K) = 5) with h668 | h668
              · skip
                have hR669 := hR667.setb (d := 94) (b := true) rfl (decide_eq_true h668)
                refine wp_cond_true (hR669.ev rfl) ?_
                refine wp_skip ?_
                exact x_then_n ⟨(hR669.sub (rc rfl (rc rfl (rc rfl (rc rfl (rc rfl (rc (rb rfl (by first | rfl | (simp only [decide_eq_true h668, if_pos h668, bl]; done) | (simp [h668]; done) | (simp [h668]; omega))) (rc rfl rnl)))))))), hS428⟩
              · skip
                have hR670 := hR667.setb (d := 94) (b := false) rfl (decide_eq_false h668)
                refine wp_cond_false (hR670.ev rfl) ?_
                refine wp_seq_k (fun K671 hK672 => ?_)
                refine c_region ?_
                refine r_eql sv hR670 rfl rfl rfl rfl (by decide) (fun a673 hR674 => ?_)
                refine asg hR674 (fun a675 hR676 => ?_)
                refine wpList_nil (x_then_n (hK672 _ _ ?_))
                rcases Decidable.em ((n.K) = 15) with h677 | h677
                · skip
                  have hR678 := hR676.setb (d := 94) (b := true) rfl (decide_eq_true h677)
                  refine wp_cond_true (hR678.ev rfl) ?_
                  refine wp_skip ?_
                  exact x_then_n ⟨(hR678.sub (rc rfl (rc rfl (rc rfl (rc rfl (rc rfl (rc (rb rfl (by first | rfl | (simp only [decide_eq_false h668, if_neg h668, decide_eq_true h677, if_pos h677, bl]; done) | (simp [h668, h677]; done) | (simp [h668, h677]; omega))) (rc rfl rnl)))))))), hS428⟩
                · skip
                  have hR679 := hR676.setb (d := 94) (b := false) rfl (decide_eq_false h677)
                  refine wp_cond_false (hR679.ev rfl) ?_
                  refine wp_seq_k (fun K680 hK681 => ?_)
                  refine c_region ?_
                  refine r_eql sv hR679 rfl rfl rfl rfl (by decide) (fun a682 hR683 => ?_)
                  refine asg hR683 (fun a684 hR685 => ?_)
                  refine wpList_nil (x_then_n (hK681 _ _ ?_))
                  rcases Decidable.em ((n.K) = 19) with h686 | h686
                  · skip
                    have hR687 := hR685.setb (d := 94) (b := true) rfl (decide_eq_true h686)
                    refine wp_cond_true (hR687.ev rfl) ?_
                    refine wp_skip ?_
                    exact x_then_n ⟨(hR687.sub (rc rfl (rc rfl (rc rfl (rc rfl (rc rfl (rc (rb rfl (by first | rfl | (simp only [decide_eq_false h668, if_neg h668, decide_eq_false h677, if_neg h677, decide_eq_true h686, if_pos h686, bl]; done) | (simp [h668, h677, h686]; done) | (simp [h668, h677, h686]; omega))) (rc rfl rnl)))))))), hS428⟩
                  · skip
                    have hR688 := hR685.setb (d := 94) (b := false) rfl (decide_eq_false h686)
                    refine wp_cond_false (hR688.ev rfl) ?_
                    refine c_region ?_
                    refine r_eql sv hR688 rfl rfl rfl rfl (by decide) (fun a689 hR690 => ?_)
                    refine asg hR690 (fun a691 hR692 => ?_)
                    refine wpList_nil ?_
                    exact x_then_n ⟨(hR692.sub (rc rfl (rc rfl (rc rfl (rc rfl (rc rfl (rc (rb rfl (by first | rfl | (simp only [decide_eq_false h668, if_neg h668, decide_eq_false h677, if_neg h677, decide_eq_false h686, if_neg h686, bl]; done) | (simp [h668, h677, h686]; done) | (simp [h668, h677, h686]; omega))) (rc rfl rnl)))))))), hS428⟩
            rintro a693 w694 ⟨hR695, hS696⟩
            rcases Bool.eq_false_or_eq_true (((decide ((n.K) = 5)) || ((decide ((n.K) = 15)) || ((decide ((n.K) = 19)) || (decide ((n.K) = 23)))))) with h697 | h697
            · skip
              have hq698 := h697
              try simp only [Bool.or_eq_true, Bool.and_eq_true, Bool.not_eq_true', Bool.not_eq_false', decide_eq_true_eq, decide_eq_false_iff_not, Bool.or_eq_false_iff, Bool.and_eq_false_iff] at hq698
              have hR699 := hR695.setb (d := 94) (b := true) rfl h697
              refine wp_cond_true (hR699.ev rfl) ?_
              refine wp_seq_k (fun K700 hK701 => ?_)
              obtain ⟨J702, hJ703, hS704⟩ := hS696.agree
              refine d_region2 (S := (fun x => agr w694 J702 x ∧ cel g8 0 (.int .i64 (n.K)) x ∧ cel g8 1 (.int .i64 (n.N)) x ∧ cel g8 2 (.int .i64 (n.M)) x ∧ cel g8 3 (.string n.S) x ∧ True)) (n := 7) mixed rfl hS704 (pan_then (pan_block (pan_then pan_body))) (fun Q707 hP708 hN709 w705 hS706 => ?_)
              have hSw710 : agr w694 J702 w705 ∧ cel g8 0 (.int .i64 (n.K)) w705 ∧ cel g8 1 (.int .i64 (n.N)) w705 ∧ cel g8 2 (.int .i64 (n.M)) w705 ∧ cel g8 3 (.string n.S) w705 ∧ True := ⟨⟨(hS706.get (i := 0) rfl).1, fun k hk => ((hS706.get (i := 0) rfl).2 k hk).2⟩, (box_cell (hS706.res (i := 0) rfl) rfl), (box_cell (hS706.res (i := 0) rfl) rfl), (box_cell (hS706.res (i := 0) rfl) rfl), (box_cell (hS706.res (i := 0) rfl) rfl), trivial⟩
              refine dt 0 rfl hP708 hR699 (want_n rfl) (fun x hx => r_move (sy hR699) hR699 rfl rfl rfl (by decide) gt) hSw710 (fun a711 hR712 => ?_)
              refine dt 3 rfl hP708 hR712 (want_n rfl) (fun x hx => m_loadCN (sy hR712) hR712 rfl rfl rfl (CellsAt.cons_ hx.2.1 (CellsAt.cons_ hx.2.2.1 (CellsAt.cons_ hx.2.2.2.1 (CellsAt.cons_ hx.2.2.2.2.1 (CellsAt.nil _ _))))) Tryd.underlying32 rfl sz32 (by decide) gt) hSw710 (fun a713 hR714 => ?_)
              refine d_one (i := 1) (by kernel_rfl) ?_
              refine m_buildSlice (ps := [(0, .const (.int .i64 0)), (1, .const (.int .i64 0))]) (cs := [.int .i64 0, .int .i64 0]) (st_opV rfl (want_n rfl)) hR714 hS706 rfl rfl rfl Tryd.underlying66 zi3 rfl rfl (by kernel_rfl) rfl (by decide) (fun a715 w716 g717 hR718 hS719 => ?_)
              have hSw720 : agr w694 J702 w716 ∧ cel g8 0 (.int .i64 (n.K)) w716 ∧ cel g8 1 (.int .i64 (n.N)) w716 ∧ cel g8 2 (.int .i64 (n.M)) w716 ∧ cel g8 3 (.string n.S) w716 ∧ True := ⟨⟨(hS719.get (i := 0) rfl).1, fun k hk => ((hS719.get (i := 0) rfl).2 k hk).2⟩, (box_cell (hS719.res (i := 0) rfl) rfl), (box_cell (hS719.res (i := 0) rfl) rfl), (box_cell (hS719.res (i := 0) rfl) rfl), (box_cell (hS719.res (i := 0) rfl) rfl), trivial⟩
              refine ⟨hSw720, ?_⟩
              refine d_one (i := 2) (by kernel_rfl) ?_
              refine m_appendF (f := encI) (i := 1) ([]) ([0, 0]) (st_opV rfl (want_n rfl)) hR718 hS719 rfl rfl rfl rfl rfl encI_len (encI_one _) Tryd.underlying66 zi3 rfl rfl (own_lnews (f := encI) (hS719.res (i := 2) rfl)) rfl (by first | omega | (simp only [List.length_cons, List.length_nil]; omega)) (by decide) (fun a721 w722 A723 c724 hc725 hR726 hS727 => ?_)
              have hl729 : (([]) ++ ([0, 0]) : List Int).length = 2 := by first | (simp only [List.length_append, List.length_take, List.length_cons, List.length_nil]; done) | (simp only [List.length_append, List.length_take, List.length_cons, List.length_nil]; omega)
              have hS730 := hS727.erase 2
              have hSw731 : agr w694 J702 w722 ∧ cel g8 0 (.int .i64 (n.K)) w722 ∧ cel g8 1 (.int .i64 (n.N)) w722 ∧ cel g8 2 (.int .i64 (n.M)) w722 ∧ cel g8 3 (.string n.S) w722 ∧ True := ⟨⟨(hS730.get (i := 0) rfl).1, fun k hk => ((hS730.get (i := 0) rfl).2 k hk).2⟩, (box_cell (hS730.res (i := 0) rfl) rfl), (box_cell (hS730.res (i := 0) rfl) rfl), (box_cell (hS730.res (i := 0) rfl) rfl), (box_cell (hS730.res (i := 0) rfl) rfl), trivial⟩
              refine ⟨hSw731, ?_⟩
              refine d_one (i := 4) (by kernel_rfl) ?_
              have hS732 : St w0 Z none_ w722 [.box g8 32 [.int .i64 (n.K), .int .i64 (n.N), .int .i64 (n.M), .string n.S], .row A723 ((([]) ++ ([0, 0]) : List Int).length) c724 3 1 (encIs (([]) ++ ([0, 0])))] [dAg w694 J702] := hS730
              refine k_call (xs := [.tmp 102]) (st_op rfl (want_n rfl)) hR726 rfl rfl rfl (by decide) ok79 (rplain_calls _ (imm Z w0 [.box g8 32 [.int .i64 (n.K), .int .i64 (n.N), .int .i64 (n.M), .string n.S], .row A723 ((([]) ++ ([0, 0]) : List Int).length) c724 3 1 (encIs (([]) ++ ([0, 0])))] _) (fun _ h => h.1) n) ?_
              rintro e739 w734 ⟨rfl, hf737⟩
              have hS740 := hS732.below hf737.below
              refine ⟨_, rfl, fun a733 hR735 => ?_⟩
              have hSw741 : agr w694 J702 w734 ∧ cel g8 0 (.int .i64 (n.K)) w734 ∧ cel g8 1 (.int .i64 (n.N)) w734 ∧ cel g8 2 (.int .i64 (n.M)) w734 ∧ cel g8 3 (.string n.S) w734 ∧ True := ⟨⟨(hS740.get (i := 0) rfl).1, fun k hk => ((hS740.get (i := 0) rfl).2 k hk).2⟩, (box_cell (hS740.res (i := 0) rfl) rfl), (box_cell (hS740.res (i := 0) rfl) rfl), (box_cell (hS740.res (i := 0) rfl) rfl), (box_cell (hS740.res (i := 0) rfl) rfl), trivial⟩
              refine ⟨hSw741, ?_⟩
              refine dt 5 rfl hP708 hR735 (want_n rfl) (fun x hx => r_assign (sy hR735) hR735 rfl rfl rfl (by decide) gt) hSw741 (fun a742 hR743 => ?_)
              refine dt 6 rfl hP708 hR743 (want_n rfl) (fun x hx => r_assign (sy hR743) hR743 rfl rfl rfl (by decide) gt) hSw741 (fun a744 hR745 => ?_)
              refine wpAnyH_done (by kernel_rfl) (hN709 _ _ ?_) _
              refine x_then_n (hK701 _ _ ?_)
              refine wp_ret ?_
              refine x_block_r ?_
              refine x_then_r ?_
              refine e_ret2 hR745 rfl rfl rfl rfl ?_
              have he746 : bindL n = ([]) ++ ([0, 0]) := by rcases (show n.K = 5 ∨ n.K = 15 ∨ n.K = 19 ∨ n.K = 23 by omega) with h | h | h | h <;> simp [bindL, h, shp]
              rw [he746]
              have hc750 := own_cap (hS740.res (i := 1) rfl)
              obtain ⟨hS747, hrow748⟩ := hS740.row_data (i := 1) rfl (fun _ h => h)
              have hS749 := hS747.data (dRow 1 A723 ((([]) ++ ([0, 0]) : List Int).length) c724 (encIs (([]) ++ ([0, 0])))) ⟨hc750, hrow748⟩
              refine ⟨A723, c724, ?_, hS749.fr, ⟨by have := (hS749.row (i := 1) rfl).1; exact this, ((hS749.row (i := 1) rfl).2.mono (fun _ hk => ⟨imm_nxt hk, rfl⟩))⟩⟩
              exact ret_t2 rfl (ret_b (by first | (rw [(right_plain (by omega) (by omega) (by omega))]; done) | (rw [(right_plain (by omega) (by omega) (by omega)), Bool.eq_iff_iff]; simp [and_assoc]; done) | (rw [(right_plain (by omega) (by omega) (by omega))]; simp []; done) | (rw [(right_plain (by omega) (by omega) (by omega))]; simp [] <;> omega) | (symm; rw [(right_plain (by omega) (by omega) (by omega))];  simp; first | omega | (simp_all; done) | (simp_all; omega)) ))
            · skip
              have h751 := or_fl h697
              have h752 := of_decide_eq_false h751
              have h753 := or_fr h697
              have h754 := or_fl h753
              have h755 := of_decide_eq_false h754
              have h756 := or_fr h753
              have h757 := or_fl h756
              have h758 := of_decide_eq_false h757
              have h759 := or_fr h756
              have h760 := of_decide_eq_false h759
              have hR761 := hR695.setb (d := 94) (b := false) rfl h697
              refine wp_cond_false (hR761.ev rfl) ?_
              refine c_join (fun ga gw => Reg ga 228 [(1, .pointer (some ⟨g8, 0, none⟩)), (2, .slice none 0 0), (3, .bool false), (4, .slice (some ⟨g19, 0, none⟩) 0 0), (7, .int .i64 (n.K)), (104, .bool ((decide ((n.K) = 7)) || (decide ((n.K) = 18)))), (1000000, .bool false)] ∧ St w0 Z none_ gw [.box g8 32 [.int .i64 (n.K), .int .i64 (n.N), .int .i64 (n.M), .string n.S], .row (some ⟨g19, 0, none⟩) 0 0 3 1 (encIs ([]))] []) ?_ ?_
              · skip
                refine wp_seq_k (fun K762 hK763 => ?_)
                refine c_region ?_
                refine r_eql sv hR761 rfl rfl rfl rfl (by decide) (fun a764 hR765 => ?_)
                refine asg hR765 (fun a766 hR767 => ?_)
                refine wpList_nil (x_then_n (hK763 _ _ ?_))
                rcases Decidable.em ((n.K) = 7) with h768 | h768
                · skip
                  have hR769 := hR767.setb (d := 104) (b := true) rfl (decide_eq_true h768)
                  refine wp_cond_true (hR769.ev rfl) ?_
                  refine wp_skip ?_
                  exact x_then_n ⟨(hR769.sub (rc rfl (rc rfl (rc rfl (rc rfl (rc rfl (rc (rb rfl (by first | rfl | (simp only [decide_eq_true h768, if_pos h768, bl]; done) | (simp [h768]; done) | (simp [h768]; omega))) (rc rfl rnl)))))))), hS696⟩
                · skip
                  have hR770 := hR767.setb (d := 104) (b := false) rfl (decide_eq_false h768)
                  refine wp_cond_false (hR770.ev rfl) ?_
                  refine c_region ?_
                  refine r_eql sv hR770 rfl rfl rfl rfl (by decide) (fun a771 hR772 => ?_)
                  refine asg hR772 (fun a773 hR774 => ?_)
                  refine wpList_nil ?_
                  exact x_then_n ⟨(hR774.sub (rc rfl (rc rfl (rc rfl (rc rfl (rc rfl (rc (rb rfl (by first | rfl | (simp only [decide_eq_false h768, if_neg h768, bl]; done) | (simp [h768]; done) | (simp [h768]; omega))) (rc rfl rnl)))))))), hS696⟩
              rintro a775 w776 ⟨hR777, hS778⟩
              rcases Bool.eq_false_or_eq_true (((decide ((n.K) = 7)) || (decide ((n.K) = 18)))) with h779 | h779
              · skip
                have hq780 := h779
                try simp only [Bool.or_eq_true, Bool.and_eq_true, Bool.not_eq_true', Bool.not_eq_false', decide_eq_true_eq, decide_eq_false_iff_not, Bool.or_eq_false_iff, Bool.and_eq_false_iff] at hq780
                have hR781 := hR777.setb (d := 104) (b := true) rfl h779
                refine wp_cond_true (hR781.ev rfl) ?_
                refine wp_seq_k (fun K782 hK783 => ?_)
                obtain ⟨J784, hJ785, hS786⟩ := hS778.agree
                refine d_region2 (S := (fun x => agr w776 J784 x ∧ cel g8 0 (.int .i64 (n.K)) x ∧ cel g8 1 (.int .i64 (n.N)) x ∧ cel g8 2 (.int .i64 (n.M)) x ∧ cel g8 3 (.string n.S) x ∧ True)) (n := 7) mixed rfl hS786 (pan_then (pan_block (pan_then pan_body))) (fun Q789 hP790 hN791 w787 hS788 => ?_)
                have hSw792 : agr w776 J784 w787 ∧ cel g8 0 (.int .i64 (n.K)) w787 ∧ cel g8 1 (.int .i64 (n.N)) w787 ∧ cel g8 2 (.int .i64 (n.M)) w787 ∧ cel g8 3 (.string n.S) w787 ∧ True := ⟨⟨(hS788.get (i := 0) rfl).1, fun k hk => ((hS788.get (i := 0) rfl).2 k hk).2⟩, (box_cell (hS788.res (i := 0) rfl) rfl), (box_cell (hS788.res (i := 0) rfl) rfl), (box_cell (hS788.res (i := 0) rfl) rfl), (box_cell (hS788.res (i := 0) rfl) rfl), trivial⟩
                refine dt 0 rfl hP790 hR781 (want_n rfl) (fun x hx => r_move (sy hR781) hR781 rfl rfl rfl (by decide) gt) hSw792 (fun a793 hR794 => ?_)
                refine dt 3 rfl hP790 hR794 (want_n rfl) (fun x hx => m_loadCN (sy hR794) hR794 rfl rfl rfl (CellsAt.cons_ hx.2.1 (CellsAt.cons_ hx.2.2.1 (CellsAt.cons_ hx.2.2.2.1 (CellsAt.cons_ hx.2.2.2.2.1 (CellsAt.nil _ _))))) Tryd.underlying32 rfl sz32 (by decide) gt) hSw792 (fun a795 hR796 => ?_)
                refine d_one (i := 1) (by kernel_rfl) ?_
                refine m_buildSlice (ps := [(0, .const (.int .i64 0)), (1, .const (.int .i64 0)), (2, .const (.int .i64 0))]) (cs := [.int .i64 0, .int .i64 0, .int .i64 0]) (st_opV rfl (want_n rfl)) hR796 hS788 rfl rfl rfl Tryd.underlying66 zi3 rfl rfl (by kernel_rfl) rfl (by decide) (fun a797 w798 g799 hR800 hS801 => ?_)
                have hSw802 : agr w776 J784 w798 ∧ cel g8 0 (.int .i64 (n.K)) w798 ∧ cel g8 1 (.int .i64 (n.N)) w798 ∧ cel g8 2 (.int .i64 (n.M)) w798 ∧ cel g8 3 (.string n.S) w798 ∧ True := ⟨⟨(hS801.get (i := 0) rfl).1, fun k hk => ((hS801.get (i := 0) rfl).2 k hk).2⟩, (box_cell (hS801.res (i := 0) rfl) rfl), (box_cell (hS801.res (i := 0) rfl) rfl), (box_cell (hS801.res (i := 0) rfl) rfl), (box_cell (hS801.res (i := 0) rfl) rfl), trivial⟩
                refine ⟨hSw802, ?_⟩
                refine d_one (i := 2) (by kernel_rfl) ?_
                refine m_appendF (f := encI) (i := 1) ([]) ([0, 0, 0]) (st_opV rfl (want_n rfl)) hR800 hS801 rfl rfl rfl rfl rfl encI_len (encI_one _) Tryd.underlying66 zi3 rfl rfl (own_lnews (f := encI) (hS801.res (i := 2) rfl)) rfl (by first | omega | (simp only [List.length_cons, List.length_nil]; omega)) (by decide) (fun a803 w804 A805 c806 hc807 hR808 hS809 => ?_)
                have hl811 : (([]) ++ ([0, 0, 0]) : List Int).length = 3 := by first | (simp only [List.length_append, List.length_take, List.length_cons, List.length_nil]; done) | (simp only [List.length_append, List.length_take, List.length_cons, List.length_nil]; omega)
                have hS812 := hS809.erase 2
                have hSw813 : agr w776 J784 w804 ∧ cel g8 0 (.int .i64 (n.K)) w804 ∧ cel g8 1 (.int .i64 (n.N)) w804 ∧ cel g8 2 (.int .i64 (n.M)) w804 ∧ cel g8 3 (.string n.S) w804 ∧ True := ⟨⟨(hS812.get (i := 0) rfl).1, fun k hk => ((hS812.get (i := 0) rfl).2 k hk).2⟩, (box_cell (hS812.res (i := 0) rfl) rfl), (box_cell (hS812.res (i := 0) rfl) rfl), (box_cell (hS812.res (i := 0) rfl) rfl), (box_cell (hS812.res (i := 0) rfl) rfl), trivial⟩
                refine ⟨hSw813, ?_⟩
                refine d_one (i := 4) (by kernel_rfl) ?_
                have hS814 : St w0 Z none_ w804 [.box g8 32 [.int .i64 (n.K), .int .i64 (n.N), .int .i64 (n.M), .string n.S], .row A805 ((([]) ++ ([0, 0, 0]) : List Int).length) c806 3 1 (encIs (([]) ++ ([0, 0, 0])))] [dAg w776 J784] := hS812
                refine k_call (xs := [.tmp 110]) (st_op rfl (want_n rfl)) hR808 rfl rfl rfl (by decide) ok79 (rplain_calls _ (imm Z w0 [.box g8 32 [.int .i64 (n.K), .int .i64 (n.N), .int .i64 (n.M), .string n.S], .row A805 ((([]) ++ ([0, 0, 0]) : List Int).length) c806 3 1 (encIs (([]) ++ ([0, 0, 0])))] _) (fun _ h => h.1) n) ?_
                rintro e821 w816 ⟨rfl, hf819⟩
                have hS822 := hS814.below hf819.below
                refine ⟨_, rfl, fun a815 hR817 => ?_⟩
                have hSw823 : agr w776 J784 w816 ∧ cel g8 0 (.int .i64 (n.K)) w816 ∧ cel g8 1 (.int .i64 (n.N)) w816 ∧ cel g8 2 (.int .i64 (n.M)) w816 ∧ cel g8 3 (.string n.S) w816 ∧ True := ⟨⟨(hS822.get (i := 0) rfl).1, fun k hk => ((hS822.get (i := 0) rfl).2 k hk).2⟩, (box_cell (hS822.res (i := 0) rfl) rfl), (box_cell (hS822.res (i := 0) rfl) rfl), (box_cell (hS822.res (i := 0) rfl) rfl), (box_cell (hS822.res (i := 0) rfl) rfl), trivial⟩
                refine ⟨hSw823, ?_⟩
                refine dt 5 rfl hP790 hR817 (want_n rfl) (fun x hx => r_assign (sy hR817) hR817 rfl rfl rfl (by decide) gt) hSw823 (fun a824 hR825 => ?_)
                refine dt 6 rfl hP790 hR825 (want_n rfl) (fun x hx => r_assign (sy hR825) hR825 rfl rfl rfl (by decide) gt) hSw823 (fun a826 hR827 => ?_)
                refine wpAnyH_done (by kernel_rfl) (hN791 _ _ ?_) _
                refine x_then_n (hK783 _ _ ?_)
                refine wp_ret ?_
                refine x_block_r ?_
                refine x_then_r ?_
                refine e_ret2 hR827 rfl rfl rfl rfl ?_
                have he828 : bindL n = ([]) ++ ([0, 0, 0]) := by rcases (show n.K = 7 ∨ n.K = 18 by omega) with h | h <;> simp [bindL, h, shp]
                rw [he828]
                have hc832 := own_cap (hS822.res (i := 1) rfl)
                obtain ⟨hS829, hrow830⟩ := hS822.row_data (i := 1) rfl (fun _ h => h)
                have hS831 := hS829.data (dRow 1 A805 ((([]) ++ ([0, 0, 0]) : List Int).length) c806 (encIs (([]) ++ ([0, 0, 0])))) ⟨hc832, hrow830⟩
                refine ⟨A805, c806, ?_, hS831.fr, ⟨by have := (hS831.row (i := 1) rfl).1; exact this, ((hS831.row (i := 1) rfl).2.mono (fun _ hk => ⟨imm_nxt hk, rfl⟩))⟩⟩
                exact ret_t2 rfl (ret_b (by first | (rw [(right_plain (by omega) (by omega) (by omega))]; done) | (rw [(right_plain (by omega) (by omega) (by omega)), Bool.eq_iff_iff]; simp [and_assoc]; done) | (rw [(right_plain (by omega) (by omega) (by omega))]; simp []; done) | (rw [(right_plain (by omega) (by omega) (by omega))]; simp [] <;> omega) | (symm; rw [(right_plain (by omega) (by omega) (by omega))];  simp; first | omega | (simp_all; done) | (simp_all; omega)) ))
              · skip
                have h833 := or_fl h779
                have h834 := of_decide_eq_false h833
                have h835 := or_fr h779
                have h836 := of_decide_eq_false h835
                have hR837 := hR777.setb (d := 104) (b := false) rfl h779
                refine wp_cond_false (hR837.ev rfl) ?_
                refine c_join (fun ga gw => Reg ga 228 [(1, .pointer (some ⟨g8, 0, none⟩)), (2, .slice none 0 0), (3, .bool false), (4, .slice (some ⟨g19, 0, none⟩) 0 0), (7, .int .i64 (n.K)), (112, .bool ((decide ((n.K) = 8)) || ((decide ((n.K) = 9)) || ((decide ((n.K) = 12)) || (decide ((n.K) = 28)))))), (1000000, .bool false)] ∧ St w0 Z none_ gw [.box g8 32 [.int .i64 (n.K), .int .i64 (n.N), .int .i64 (n.M), .string n.S], .row (some ⟨g19, 0, none⟩) 0 0 3 1 (encIs ([]))] []) ?_ ?_
                · skip
                  refine wp_seq_k (fun K838 hK839 => ?_)
                  refine c_region ?_
                  refine r_eql sv hR837 rfl rfl rfl rfl (by decide) (fun a840 hR841 => ?_)
                  refine asg hR841 (fun a842 hR843 => ?_)
                  refine wpList_nil (x_then_n (hK839 _ _ ?_))
                  rcases Decidable.em ((n.K) = 8) with h844 | h844
                  · skip
                    have hR845 := hR843.setb (d := 112) (b := true) rfl (decide_eq_true h844)
                    refine wp_cond_true (hR845.ev rfl) ?_
                    refine wp_skip ?_
                    exact x_then_n ⟨(hR845.sub (rc rfl (rc rfl (rc rfl (rc rfl (rc rfl (rc (rb rfl (by first | rfl | (simp only [decide_eq_true h844, if_pos h844, bl]; done) | (simp [h844]; done) | (simp [h844]; omega))) (rc rfl rnl)))))))), hS778⟩
                  · skip
                    have hR846 := hR843.setb (d := 112) (b := false) rfl (decide_eq_false h844)
                    refine wp_cond_false (hR846.ev rfl) ?_
                    refine wp_seq_k (fun K847 hK848 => ?_)
                    refine c_region ?_
                    refine r_eql sv hR846 rfl rfl rfl rfl (by decide) (fun a849 hR850 => ?_)
                    refine asg hR850 (fun a851 hR852 => ?_)
                    refine wpList_nil (x_then_n (hK848 _ _ ?_))
                    rcases Decidable.em ((n.K) = 9) with h853 | h853
                    · skip
                      have hR854 := hR852.setb (d := 112) (b := true) rfl (decide_eq_true h853)
                      refine wp_cond_true (hR854.ev rfl) ?_
                      refine wp_skip ?_
                      exact x_then_n ⟨(hR854.sub (rc rfl (rc rfl (rc rfl (rc rfl (rc rfl (rc (rb rfl (by first | rfl | (simp only [decide_eq_false h844, if_neg h844, decide_eq_true h853, if_pos h853, bl]; done) | (simp [h844, h853]; done) | (simp [h844, h853]; omega))) (rc rfl rnl)))))))), hS778⟩
                    · skip
                      have hR855 := hR852.setb (d := 112) (b := false) rfl (decide_eq_false h853)
                      refine wp_cond_false (hR855.ev rfl) ?_
                      refine wp_seq_k (fun K856 hK857 => ?_)
                      refine c_region ?_
                      refine r_eql sv hR855 rfl rfl rfl rfl (by decide) (fun a858 hR859 => ?_)
                      refine asg hR859 (fun a860 hR861 => ?_)
                      refine wpList_nil (x_then_n (hK857 _ _ ?_))
                      rcases Decidable.em ((n.K) = 12) with h862 | h862
                      · skip
                        have hR863 := hR861.setb (d := 112) (b := true) rfl (decide_eq_true h862)
                        refine wp_cond_true (hR863.ev rfl) ?_
                        refine wp_skip ?_
                        exact x_then_n ⟨(hR863.sub (rc rfl (rc rfl (rc rfl (rc rfl (rc rfl (rc (rb rfl (by first | rfl | (simp only [decide_eq_false h844, if_neg h844, decide_eq_false h853, if_neg h853, decide_eq_true h862, if_pos h862, bl]; done) | (simp [h844, h853, h862]; done) | (simp [h844, h853, h862]; omega))) (rc rfl rnl)))))))), hS778⟩
                      · skip
                        have hR864 := hR861.setb (d := 112) (b := false) rfl (decide_eq_false h862)
                        refine wp_cond_false (hR864.ev rfl) ?_
                        refine c_region ?_
                        refine r_eql sv hR864 rfl rfl rfl rfl (by decide) (fun a865 hR866 => ?_)
                        refine asg hR866 (fun a867 hR868 => ?_)
                        refine wpList_nil ?_
                        exact x_then_n ⟨(hR868.sub (rc rfl (rc rfl (rc rfl (rc rfl (rc rfl (rc (rb rfl (by first | rfl | (simp only [decide_eq_false h844, if_neg h844, decide_eq_false h853, if_neg h853, decide_eq_false h862, if_neg h862, bl]; done) | (simp [h844, h853, h862]; done) | (simp [h844, h853, h862]; omega))) (rc rfl rnl)))))))), hS778⟩
                rintro a869 w870 ⟨hR871, hS872⟩
                rcases Bool.eq_false_or_eq_true (((decide ((n.K) = 8)) || ((decide ((n.K) = 9)) || ((decide ((n.K) = 12)) || (decide ((n.K) = 28)))))) with h873 | h873
                · skip
                  have hq874 := h873
                  try simp only [Bool.or_eq_true, Bool.and_eq_true, Bool.not_eq_true', Bool.not_eq_false', decide_eq_true_eq, decide_eq_false_iff_not, Bool.or_eq_false_iff, Bool.and_eq_false_iff] at hq874
                  have hR875 := hR871.setb (d := 112) (b := true) rfl h873
                  refine wp_cond_true (hR875.ev rfl) ?_
                  refine wp_seq_k (fun K876 hK877 => ?_)
                  obtain ⟨J878, hJ879, hS880⟩ := hS872.agree
                  refine d_region2 (S := (fun x => agr w870 J878 x ∧ cel g8 0 (.int .i64 (n.K)) x ∧ cel g8 1 (.int .i64 (n.N)) x ∧ cel g8 2 (.int .i64 (n.M)) x ∧ cel g8 3 (.string n.S) x ∧ True)) (n := 7) mixed rfl hS880 (pan_then (pan_block (pan_then pan_body))) (fun Q883 hP884 hN885 w881 hS882 => ?_)
                  have hSw886 : agr w870 J878 w881 ∧ cel g8 0 (.int .i64 (n.K)) w881 ∧ cel g8 1 (.int .i64 (n.N)) w881 ∧ cel g8 2 (.int .i64 (n.M)) w881 ∧ cel g8 3 (.string n.S) w881 ∧ True := ⟨⟨(hS882.get (i := 0) rfl).1, fun k hk => ((hS882.get (i := 0) rfl).2 k hk).2⟩, (box_cell (hS882.res (i := 0) rfl) rfl), (box_cell (hS882.res (i := 0) rfl) rfl), (box_cell (hS882.res (i := 0) rfl) rfl), (box_cell (hS882.res (i := 0) rfl) rfl), trivial⟩
                  refine dt 0 rfl hP884 hR875 (want_n rfl) (fun x hx => r_move (sy hR875) hR875 rfl rfl rfl (by decide) gt) hSw886 (fun a887 hR888 => ?_)
                  refine dt 3 rfl hP884 hR888 (want_n rfl) (fun x hx => m_loadCN (sy hR888) hR888 rfl rfl rfl (CellsAt.cons_ hx.2.1 (CellsAt.cons_ hx.2.2.1 (CellsAt.cons_ hx.2.2.2.1 (CellsAt.cons_ hx.2.2.2.2.1 (CellsAt.nil _ _))))) Tryd.underlying32 rfl sz32 (by decide) gt) hSw886 (fun a889 hR890 => ?_)
                  refine d_one (i := 1) (by kernel_rfl) ?_
                  refine m_buildSlice (ps := [(0, .const (.int .i64 0))]) (cs := [.int .i64 0]) (st_opV rfl (want_n rfl)) hR890 hS882 rfl rfl rfl Tryd.underlying66 zi3 rfl rfl (by kernel_rfl) rfl (by decide) (fun a891 w892 g893 hR894 hS895 => ?_)
                  have hSw896 : agr w870 J878 w892 ∧ cel g8 0 (.int .i64 (n.K)) w892 ∧ cel g8 1 (.int .i64 (n.N)) w892 ∧ cel g8 2 (.int .i64 (n.M)) w892 ∧ cel g8 3 (.string n.S) w892 ∧ True := ⟨⟨(hS895.get (i := 0) rfl).1, fun k hk => ((hS895.get (i := 0) rfl).2 k hk).2⟩, (box_cell (hS895.res (i := 0) rfl) rfl), (box_cell (hS895.res (i := 0) rfl) rfl), (box_cell (hS895.res (i := 0) rfl) rfl), (box_cell (hS895.res (i := 0) rfl) rfl), trivial⟩
                  refine ⟨hSw896, ?_⟩
                  refine d_one (i := 2) (by kernel_rfl) ?_
                  refine m_appendF (f := encI) (i := 1) ([]) ([0]) (st_opV rfl (want_n rfl)) hR894 hS895 rfl rfl rfl rfl rfl encI_len (encI_one _) Tryd.underlying66 zi3 rfl rfl (own_lnews (f := encI) (hS895.res (i := 2) rfl)) rfl (by first | omega | (simp only [List.length_cons, List.length_nil]; omega)) (by decide) (fun a897 w898 A899 c900 hc901 hR902 hS903 => ?_)
                  have hl905 : (([]) ++ ([0]) : List Int).length = 1 := by first | (simp only [List.length_append, List.length_take, List.length_cons, List.length_nil]; done) | (simp only [List.length_append, List.length_take, List.length_cons, List.length_nil]; omega)
                  have hS906 := hS903.erase 2
                  have hSw907 : agr w870 J878 w898 ∧ cel g8 0 (.int .i64 (n.K)) w898 ∧ cel g8 1 (.int .i64 (n.N)) w898 ∧ cel g8 2 (.int .i64 (n.M)) w898 ∧ cel g8 3 (.string n.S) w898 ∧ True := ⟨⟨(hS906.get (i := 0) rfl).1, fun k hk => ((hS906.get (i := 0) rfl).2 k hk).2⟩, (box_cell (hS906.res (i := 0) rfl) rfl), (box_cell (hS906.res (i := 0) rfl) rfl), (box_cell (hS906.res (i := 0) rfl) rfl), (box_cell (hS906.res (i := 0) rfl) rfl), trivial⟩
                  refine ⟨hSw907, ?_⟩
                  refine d_one (i := 4) (by kernel_rfl) ?_
                  have hS908 : St w0 Z none_ w898 [.box g8 32 [.int .i64 (n.K), .int .i64 (n.N), .int .i64 (n.M), .string n.S], .row A899 ((([]) ++ ([0]) : List Int).length) c900 3 1 (encIs (([]) ++ ([0])))] [dAg w870 J878] := hS906
                  refine k_call (xs := [.tmp 120]) (st_op rfl (want_n rfl)) hR902 rfl rfl rfl (by decide) ok79 (rplain_calls _ (imm Z w0 [.box g8 32 [.int .i64 (n.K), .int .i64 (n.N), .int .i64 (n.M), .string n.S], .row A899 ((([]) ++ ([0]) : List Int).length) c900 3 1 (encIs (([]) ++ ([0])))] _) (fun _ h => h.1) n) ?_
                  rintro e915 w910 ⟨rfl, hf913⟩
                  have hS916 := hS908.below hf913.below
                  refine ⟨_, rfl, fun a909 hR911 => ?_⟩
                  have hSw917 : agr w870 J878 w910 ∧ cel g8 0 (.int .i64 (n.K)) w910 ∧ cel g8 1 (.int .i64 (n.N)) w910 ∧ cel g8 2 (.int .i64 (n.M)) w910 ∧ cel g8 3 (.string n.S) w910 ∧ True := ⟨⟨(hS916.get (i := 0) rfl).1, fun k hk => ((hS916.get (i := 0) rfl).2 k hk).2⟩, (box_cell (hS916.res (i := 0) rfl) rfl), (box_cell (hS916.res (i := 0) rfl) rfl), (box_cell (hS916.res (i := 0) rfl) rfl), (box_cell (hS916.res (i := 0) rfl) rfl), trivial⟩
                  refine ⟨hSw917, ?_⟩
                  refine dt 5 rfl hP884 hR911 (want_n rfl) (fun x hx => r_assign (sy hR911) hR911 rfl rfl rfl (by decide) gt) hSw917 (fun a918 hR919 => ?_)
                  refine dt 6 rfl hP884 hR919 (want_n rfl) (fun x hx => r_assign (sy hR919) hR919 rfl rfl rfl (by decide) gt) hSw917 (fun a920 hR921 => ?_)
                  refine wpAnyH_done (by kernel_rfl) (hN885 _ _ ?_) _
                  refine x_then_n (hK877 _ _ ?_)
                  refine wp_ret ?_
                  refine x_block_r ?_
                  refine x_then_r ?_
                  refine e_ret2 hR921 rfl rfl rfl rfl ?_
                  have he922 : bindL n = ([]) ++ ([0]) := by rcases (show n.K = 8 ∨ n.K = 9 ∨ n.K = 12 ∨ n.K = 28 by omega) with h | h | h | h <;> simp [bindL, h, shp]
                  rw [he922]
                  have hc926 := own_cap (hS916.res (i := 1) rfl)
                  obtain ⟨hS923, hrow924⟩ := hS916.row_data (i := 1) rfl (fun _ h => h)
                  have hS925 := hS923.data (dRow 1 A899 ((([]) ++ ([0]) : List Int).length) c900 (encIs (([]) ++ ([0])))) ⟨hc926, hrow924⟩
                  refine ⟨A899, c900, ?_, hS925.fr, ⟨by have := (hS925.row (i := 1) rfl).1; exact this, ((hS925.row (i := 1) rfl).2.mono (fun _ hk => ⟨imm_nxt hk, rfl⟩))⟩⟩
                  exact ret_t2 rfl (ret_b (by first | (rw [(right_plain (by omega) (by omega) (by omega))]; done) | (rw [(right_plain (by omega) (by omega) (by omega)), Bool.eq_iff_iff]; simp [and_assoc]; done) | (rw [(right_plain (by omega) (by omega) (by omega))]; simp []; done) | (rw [(right_plain (by omega) (by omega) (by omega))]; simp [] <;> omega) | (symm; rw [(right_plain (by omega) (by omega) (by omega))];  simp; first | omega | (simp_all; done) | (simp_all; omega)) ))
                · skip
                  have h927 := or_fl h873
                  have h928 := of_decide_eq_false h927
                  have h929 := or_fr h873
                  have h930 := or_fl h929
                  have h931 := of_decide_eq_false h930
                  have h932 := or_fr h929
                  have h933 := or_fl h932
                  have h934 := of_decide_eq_false h933
                  have h935 := or_fr h932
                  have h936 := of_decide_eq_false h935
                  have hR937 := hR871.setb (d := 112) (b := false) rfl h873
                  refine wp_cond_false (hR937.ev rfl) ?_
                  refine c_join (fun ga gw => Reg ga 228 [(1, .pointer (some ⟨g8, 0, none⟩)), (2, .slice none 0 0), (3, .bool false), (4, .slice (some ⟨g19, 0, none⟩) 0 0), (7, .int .i64 (n.K)), (122, .bool ((decide ((n.K) = 10)) || ((decide ((n.K) = 11)) || ((decide ((n.K) = 14)) || ((decide ((n.K) = 16)) || ((decide ((n.K) = 17)) || (decide ((n.K) = 29)))))))), (1000000, .bool false)] ∧ St w0 Z none_ gw [.box g8 32 [.int .i64 (n.K), .int .i64 (n.N), .int .i64 (n.M), .string n.S], .row (some ⟨g19, 0, none⟩) 0 0 3 1 (encIs ([]))] []) ?_ ?_
                  · skip
                    refine wp_seq_k (fun K938 hK939 => ?_)
                    refine c_region ?_
                    refine r_eql sv hR937 rfl rfl rfl rfl (by decide) (fun a940 hR941 => ?_)
                    refine asg hR941 (fun a942 hR943 => ?_)
                    refine wpList_nil (x_then_n (hK939 _ _ ?_))
                    rcases Decidable.em ((n.K) = 10) with h944 | h944
                    · skip
                      have hR945 := hR943.setb (d := 122) (b := true) rfl (decide_eq_true h944)
                      refine wp_cond_true (hR945.ev rfl) ?_
                      refine wp_skip ?_
                      exact x_then_n ⟨(hR945.sub (rc rfl (rc rfl (rc rfl (rc rfl (rc rfl (rc (rb rfl (by first | rfl | (simp only [decide_eq_true h944, if_pos h944, bl]; done) | (simp [h944]; done) | (simp [h944]; omega))) (rc rfl rnl)))))))), hS872⟩
                    · skip
                      have hR946 := hR943.setb (d := 122) (b := false) rfl (decide_eq_false h944)
                      refine wp_cond_false (hR946.ev rfl) ?_
                      refine wp_seq_k (fun K947 hK948 => ?_)
                      refine c_region ?_
                      refine r_eql sv hR946 rfl rfl rfl rfl (by decide) (fun a949 hR950 => ?_)
                      refine asg hR950 (fun a951 hR952 => ?_)
                      refine wpList_nil (x_then_n (hK948 _ _ ?_))
                      rcases Decidable.em ((n.K) = 11) with h953 | h953
                      · skip
                        have hR954 := hR952.setb (d := 122) (b := true) rfl (decide_eq_true h953)
                        refine wp_cond_true (hR954.ev rfl) ?_
                        refine wp_skip ?_
                        exact x_then_n ⟨(hR954.sub (rc rfl (rc rfl (rc rfl (rc rfl (rc rfl (rc (rb rfl (by first | rfl | (simp only [decide_eq_false h944, if_neg h944, decide_eq_true h953, if_pos h953, bl]; done) | (simp [h944, h953]; done) | (simp [h944, h953]; omega))) (rc rfl rnl)))))))), hS872⟩
                      · skip
                        have hR955 := hR952.setb (d := 122) (b := false) rfl (decide_eq_false h953)
                        refine wp_cond_false (hR955.ev rfl) ?_
                        refine wp_seq_k (fun K956 hK957 => ?_)
                        refine c_region ?_
                        refine r_eql sv hR955 rfl rfl rfl rfl (by decide) (fun a958 hR959 => ?_)
                        refine asg hR959 (fun a960 hR961 => ?_)
                        refine wpList_nil (x_then_n (hK957 _ _ ?_))
                        rcases Decidable.em ((n.K) = 14) with h962 | h962
                        · skip
                          have hR963 := hR961.setb (d := 122) (b := true) rfl (decide_eq_true h962)
                          refine wp_cond_true (hR963.ev rfl) ?_
                          refine wp_skip ?_
                          exact x_then_n ⟨(hR963.sub (rc rfl (rc rfl (rc rfl (rc rfl (rc rfl (rc (rb rfl (by first | rfl | (simp only [decide_eq_false h944, if_neg h944, decide_eq_false h953, if_neg h953, decide_eq_true h962, if_pos h962, bl]; done) | (simp [h944, h953, h962]; done) | (simp [h944, h953, h962]; omega))) (rc rfl rnl)))))))), hS872⟩
                        · skip
                          have hR964 := hR961.setb (d := 122) (b := false) rfl (decide_eq_false h962)
                          refine wp_cond_false (hR964.ev rfl) ?_
                          refine wp_seq_k (fun K965 hK966 => ?_)
                          refine c_region ?_
                          refine r_eql sv hR964 rfl rfl rfl rfl (by decide) (fun a967 hR968 => ?_)
                          refine asg hR968 (fun a969 hR970 => ?_)
                          refine wpList_nil (x_then_n (hK966 _ _ ?_))
                          rcases Decidable.em ((n.K) = 16) with h971 | h971
                          · skip
                            have hR972 := hR970.setb (d := 122) (b := true) rfl (decide_eq_true h971)
                            refine wp_cond_true (hR972.ev rfl) ?_
                            refine wp_skip ?_
                            exact x_then_n ⟨(hR972.sub (rc rfl (rc rfl (rc rfl (rc rfl (rc rfl (rc (rb rfl (by first | rfl | (simp only [decide_eq_false h944, if_neg h944, decide_eq_false h953, if_neg h953, decide_eq_false h962, if_neg h962, decide_eq_true h971, if_pos h971, bl]; done) | (simp [h944, h953, h962, h971]; done) | (simp [h944, h953, h962, h971]; omega))) (rc rfl rnl)))))))), hS872⟩
                          · skip
                            have hR973 := hR970.setb (d := 122) (b := false) rfl (decide_eq_false h971)
                            refine wp_cond_false (hR973.ev rfl) ?_
                            refine wp_seq_k (fun K974 hK975 => ?_)
                            refine c_region ?_
                            refine r_eql sv hR973 rfl rfl rfl rfl (by decide) (fun a976 hR977 => ?_)
                            refine asg hR977 (fun a978 hR979 => ?_)
                            refine wpList_nil (x_then_n (hK975 _ _ ?_))
                            rcases Decidable.em ((n.K) = 17) with h980 | h980
                            · skip
                              have hR981 := hR979.setb (d := 122) (b := true) rfl (decide_eq_true h980)
                              refine wp_cond_true (hR981.ev rfl) ?_
                              refine wp_skip ?_
                              exact x_then_n ⟨(hR981.sub (rc rfl (rc rfl (rc rfl (rc rfl (rc rfl (rc (rb rfl (by first | rfl | (simp only [decide_eq_false h944, if_neg h944, decide_eq_false h953, if_neg h953, decide_eq_false h962, if_neg h962, decide_eq_false h971, if_neg h971, decide_eq_true h980, if_pos h980, bl]; done) | (simp [h944, h953, h962, h971, h980]; done) | (simp [h944, h953, h962, h971, h980]; omega))) (rc rfl rnl)))))))), hS872⟩
                            · skip
                              have hR982 := hR979.setb (d := 122) (b := false) rfl (decide_eq_false h980)
                              refine wp_cond_false (hR982.ev rfl) ?_
                              refine c_region ?_
                              refine r_eql sv hR982 rfl rfl rfl rfl (by decide) (fun a983 hR984 => ?_)
                              refine asg hR984 (fun a985 hR986 => ?_)
                              refine wpList_nil ?_
                              exact x_then_n ⟨(hR986.sub (rc rfl (rc rfl (rc rfl (rc rfl (rc rfl (rc (rb rfl (by first | rfl | (simp only [decide_eq_false h944, if_neg h944, decide_eq_false h953, if_neg h953, decide_eq_false h962, if_neg h962, decide_eq_false h971, if_neg h971, decide_eq_false h980, if_neg h980, bl]; done) | (simp [h944, h953, h962, h971, h980]; done) | (simp [h944, h953, h962, h971, h980]; omega))) (rc rfl rnl)))))))), hS872⟩
                  rintro a987 w988 ⟨hR989, hS990⟩
                  rcases Bool.eq_false_or_eq_true (((decide ((n.K) = 10)) || ((decide ((n.K) = 11)) || ((decide ((n.K) = 14)) || ((decide ((n.K) = 16)) || ((decide ((n.K) = 17)) || (decide ((n.K) = 29)))))))) with h991 | h991
                  · skip
                    have hq992 := h991
                    try simp only [Bool.or_eq_true, Bool.and_eq_true, Bool.not_eq_true', Bool.not_eq_false', decide_eq_true_eq, decide_eq_false_iff_not, Bool.or_eq_false_iff, Bool.and_eq_false_iff] at hq992
                    have hR993 := hR989.setb (d := 122) (b := true) rfl h991
                    refine wp_cond_true (hR993.ev rfl) ?_
                    refine wp_seq_k (fun K994 hK995 => ?_)
                    refine c_region ?_
                    refine mv hR993 (fun a996 hR997 => ?_)
                    refine m_loadN (i := 0) (vs := [.int .i64 (n.K), .int .i64 (n.N), .int .i64 (n.M), .string n.S]) sv hR997 hS990 rfl rfl rfl rfl rfl Tryd.underlying32 rfl sz32 (by decide) (fun a998 hR999 => ?_)
                    have hS1000 : St w0 Z none_ w988 [.box g8 32 [.int .i64 (n.K), .int .i64 (n.N), .int .i64 (n.M), .string n.S], .row (some ⟨g19, 0, none⟩) 0 0 3 1 (encIs ([]))] [] := hS990
                    refine k_call (xs := [.tmp 130]) se hR999 rfl rfl rfl (by decide) ok79 (rplain_calls _ (imm Z w0 [.box g8 32 [.int .i64 (n.K), .int .i64 (n.N), .int .i64 (n.M), .string n.S], .row (some ⟨g19, 0, none⟩) 0 0 3 1 (encIs ([]))] _) (fun _ h => h.1) n) ?_
                    rintro e1007 w1002 ⟨rfl, hf1005⟩
                    have hS1008 := hS1000.below hf1005.below
                    refine ⟨_, rfl, fun a1001 hR1003 => ?_⟩
                    refine asg hR1003 (fun a1009 hR1010 => ?_)
                    refine asg hR1010 (fun a1011 hR1012 => ?_)
                    refine wpList_nil (x_then_n (hK995 _ _ ?_))
                    refine wp_ret ?_
                    refine x_block_r ?_
                    refine x_then_r ?_
                    refine e_ret2 hR1012 rfl rfl rfl rfl ?_
                    have he1013 : bindL n = [] := by rcases (show n.K = 10 ∨ n.K = 11 ∨ n.K = 14 ∨ n.K = 16 ∨ n.K = 17 ∨ n.K = 29 by omega) with h | h | h | h | h | h <;> simp [bindL, h, shp]
                    rw [he1013]
                    have hc1017 := own_cap (hS1008.res (i := 1) rfl)
                    obtain ⟨hS1014, hrow1015⟩ := hS1008.row_data (i := 1) rfl (fun _ h => h)
                    have hS1016 := hS1014.data (dRow 1 (some ⟨g19, 0, none⟩) 0 0 (encIs ([]))) ⟨hc1017, hrow1015⟩
                    refine ⟨(some ⟨g19, 0, none⟩), 0, ?_, hS1016.fr, ⟨by have := (hS1016.row (i := 0) rfl).1; exact this, ((hS1016.row (i := 0) rfl).2.mono (fun _ hk => ⟨imm_nxt hk, rfl⟩))⟩⟩
                    exact ret_t2 rfl (ret_b (by first | (rw [(right_plain (by omega) (by omega) (by omega))]; done) | (rw [(right_plain (by omega) (by omega) (by omega)), Bool.eq_iff_iff]; simp [and_assoc]; done) | (rw [(right_plain (by omega) (by omega) (by omega))]; simp []; done) | (rw [(right_plain (by omega) (by omega) (by omega))]; simp [] <;> omega) | (symm; rw [(right_plain (by omega) (by omega) (by omega))];  simp; first | omega | (simp_all; done) | (simp_all; omega)) ))
                  · skip
                    have h1018 := or_fl h991
                    have h1019 := of_decide_eq_false h1018
                    have h1020 := or_fr h991
                    have h1021 := or_fl h1020
                    have h1022 := of_decide_eq_false h1021
                    have h1023 := or_fr h1020
                    have h1024 := or_fl h1023
                    have h1025 := of_decide_eq_false h1024
                    have h1026 := or_fr h1023
                    have h1027 := or_fl h1026
                    have h1028 := of_decide_eq_false h1027
                    have h1029 := or_fr h1026
                    have h1030 := or_fl h1029
                    have h1031 := of_decide_eq_false h1030
                    have h1032 := or_fr h1029
                    have h1033 := of_decide_eq_false h1032
                    have hR1034 := hR989.setb (d := 122) (b := false) rfl h991
                    refine wp_cond_false (hR1034.ev rfl) ?_
                    refine wp_seq_k (fun K1035 hK1036 => ?_)
                    refine c_region ?_
                    refine r_eql sv hR1034 rfl rfl rfl rfl (by decide) (fun a1037 hR1038 => ?_)
                    refine asg hR1038 (fun a1039 hR1040 => ?_)
                    refine wpList_nil (x_then_n (hK1036 _ _ ?_))
                    rcases Decidable.em ((n.K) = 13) with h1041 | h1041
                    · skip
                      have hR1042 := hR1040.setb (d := 132) (b := true) rfl (decide_eq_true h1041)
                      refine wp_cond_true (hR1042.ev rfl) ?_
                      refine wp_seq_k (fun K1043 hK1044 => ?_)
                      obtain ⟨J1045, hJ1046, hS1047⟩ := hS990.agree
                      refine d_region2 (S := (fun x => agr w988 J1045 x ∧ cel g8 0 (.int .i64 (n.K)) x ∧ cel g8 1 (.int .i64 (n.N)) x ∧ cel g8 2 (.int .i64 (n.M)) x ∧ cel g8 3 (.string n.S) x ∧ True)) (n := 7) mixed rfl hS1047 (pan_then (pan_block (pan_then pan_body))) (fun Q1050 hP1051 hN1052 w1048 hS1049 => ?_)
                      have hSw1053 : agr w988 J1045 w1048 ∧ cel g8 0 (.int .i64 (n.K)) w1048 ∧ cel g8 1 (.int .i64 (n.N)) w1048 ∧ cel g8 2 (.int .i64 (n.M)) w1048 ∧ cel g8 3 (.string n.S) w1048 ∧ True := ⟨⟨(hS1049.get (i := 0) rfl).1, fun k hk => ((hS1049.get (i := 0) rfl).2 k hk).2⟩, (box_cell (hS1049.res (i := 0) rfl) rfl), (box_cell (hS1049.res (i := 0) rfl) rfl), (box_cell (hS1049.res (i := 0) rfl) rfl), (box_cell (hS1049.res (i := 0) rfl) rfl), trivial⟩
                      refine dt 0 rfl hP1051 hR1042 (want_n rfl) (fun x hx => r_move (sy hR1042) hR1042 rfl rfl rfl (by decide) gt) hSw1053 (fun a1054 hR1055 => ?_)
                      refine dt 3 rfl hP1051 hR1055 (want_n rfl) (fun x hx => m_loadCN (sy hR1055) hR1055 rfl rfl rfl (CellsAt.cons_ hx.2.1 (CellsAt.cons_ hx.2.2.1 (CellsAt.cons_ hx.2.2.2.1 (CellsAt.cons_ hx.2.2.2.2.1 (CellsAt.nil _ _))))) Tryd.underlying32 rfl sz32 (by decide) gt) hSw1053 (fun a1056 hR1057 => ?_)
                      refine d_one (i := 1) (by kernel_rfl) ?_
                      refine m_buildSlice (ps := [(0, .const (.int .i64 1)), (1, .const (.int .i64 0)), (2, .const (.int .i64 2)), (3, .const (.int .i64 0))]) (cs := [.int .i64 1, .int .i64 0, .int .i64 2, .int .i64 0]) (st_opV rfl (want_n rfl)) hR1057 hS1049 rfl rfl rfl Tryd.underlying66 zi3 rfl rfl (by kernel_rfl) rfl (by decide) (fun a1058 w1059 g1060 hR1061 hS1062 => ?_)
                      have hSw1063 : agr w988 J1045 w1059 ∧ cel g8 0 (.int .i64 (n.K)) w1059 ∧ cel g8 1 (.int .i64 (n.N)) w1059 ∧ cel g8 2 (.int .i64 (n.M)) w1059 ∧ cel g8 3 (.string n.S) w1059 ∧ True := ⟨⟨(hS1062.get (i := 0) rfl).1, fun k hk => ((hS1062.get (i := 0) rfl).2 k hk).2⟩, (box_cell (hS1062.res (i := 0) rfl) rfl), (box_cell (hS1062.res (i := 0) rfl) rfl), (box_cell (hS1062.res (i := 0) rfl) rfl), (box_cell (hS1062.res (i := 0) rfl) rfl), trivial⟩
                      refine ⟨hSw1063, ?_⟩
                      refine d_one (i := 2) (by kernel_rfl) ?_
                      refine m_appendF (f := encI) (i := 1) ([]) ([1, 0, 2, 0]) (st_opV rfl (want_n rfl)) hR1061 hS1062 rfl rfl rfl rfl rfl encI_len (encI_one _) Tryd.underlying66 zi3 rfl rfl (own_lnews (f := encI) (hS1062.res (i := 2) rfl)) rfl (by first | omega | (simp only [List.length_cons, List.length_nil]; omega)) (by decide) (fun a1064 w1065 A1066 c1067 hc1068 hR1069 hS1070 => ?_)
                      have hl1072 : (([]) ++ ([1, 0, 2, 0]) : List Int).length = 4 := by first | (simp only [List.length_append, List.length_take, List.length_cons, List.length_nil]; done) | (simp only [List.length_append, List.length_take, List.length_cons, List.length_nil]; omega)
                      have hS1073 := hS1070.erase 2
                      have hSw1074 : agr w988 J1045 w1065 ∧ cel g8 0 (.int .i64 (n.K)) w1065 ∧ cel g8 1 (.int .i64 (n.N)) w1065 ∧ cel g8 2 (.int .i64 (n.M)) w1065 ∧ cel g8 3 (.string n.S) w1065 ∧ True := ⟨⟨(hS1073.get (i := 0) rfl).1, fun k hk => ((hS1073.get (i := 0) rfl).2 k hk).2⟩, (box_cell (hS1073.res (i := 0) rfl) rfl), (box_cell (hS1073.res (i := 0) rfl) rfl), (box_cell (hS1073.res (i := 0) rfl) rfl), (box_cell (hS1073.res (i := 0) rfl) rfl), trivial⟩
                      refine ⟨hSw1074, ?_⟩
                      refine d_one (i := 4) (by kernel_rfl) ?_
                      have hS1075 : St w0 Z none_ w1065 [.box g8 32 [.int .i64 (n.K), .int .i64 (n.N), .int .i64 (n.M), .string n.S], .row A1066 ((([]) ++ ([1, 0, 2, 0]) : List Int).length) c1067 3 1 (encIs (([]) ++ ([1, 0, 2, 0])))] [dAg w988 J1045] := hS1073
                      refine k_call (xs := [.tmp 137]) (st_op rfl (want_n rfl)) hR1069 rfl rfl rfl (by decide) ok79 (rplain_calls _ (imm Z w0 [.box g8 32 [.int .i64 (n.K), .int .i64 (n.N), .int .i64 (n.M), .string n.S], .row A1066 ((([]) ++ ([1, 0, 2, 0]) : List Int).length) c1067 3 1 (encIs (([]) ++ ([1, 0, 2, 0])))] _) (fun _ h => h.1) n) ?_
                      rintro e1082 w1077 ⟨rfl, hf1080⟩
                      have hS1083 := hS1075.below hf1080.below
                      refine ⟨_, rfl, fun a1076 hR1078 => ?_⟩
                      have hSw1084 : agr w988 J1045 w1077 ∧ cel g8 0 (.int .i64 (n.K)) w1077 ∧ cel g8 1 (.int .i64 (n.N)) w1077 ∧ cel g8 2 (.int .i64 (n.M)) w1077 ∧ cel g8 3 (.string n.S) w1077 ∧ True := ⟨⟨(hS1083.get (i := 0) rfl).1, fun k hk => ((hS1083.get (i := 0) rfl).2 k hk).2⟩, (box_cell (hS1083.res (i := 0) rfl) rfl), (box_cell (hS1083.res (i := 0) rfl) rfl), (box_cell (hS1083.res (i := 0) rfl) rfl), (box_cell (hS1083.res (i := 0) rfl) rfl), trivial⟩
                      refine ⟨hSw1084, ?_⟩
                      refine dt 5 rfl hP1051 hR1078 (want_n rfl) (fun x hx => r_assign (sy hR1078) hR1078 rfl rfl rfl (by decide) gt) hSw1084 (fun a1085 hR1086 => ?_)
                      refine dt 6 rfl hP1051 hR1086 (want_n rfl) (fun x hx => r_assign (sy hR1086) hR1086 rfl rfl rfl (by decide) gt) hSw1084 (fun a1087 hR1088 => ?_)
                      refine wpAnyH_done (by kernel_rfl) (hN1052 _ _ ?_) _
                      refine x_then_n (hK1044 _ _ ?_)
                      refine wp_ret ?_
                      refine x_block_r ?_
                      refine x_then_r ?_
                      refine e_ret2 hR1088 rfl rfl rfl rfl ?_
                      have he1089 : bindL n = ([]) ++ ([1, 0, 2, 0]) := by rcases (show n.K = 13 by omega) with h <;> simp [bindL, h, shp]
                      rw [he1089]
                      have hc1093 := own_cap (hS1083.res (i := 1) rfl)
                      obtain ⟨hS1090, hrow1091⟩ := hS1083.row_data (i := 1) rfl (fun _ h => h)
                      have hS1092 := hS1090.data (dRow 1 A1066 ((([]) ++ ([1, 0, 2, 0]) : List Int).length) c1067 (encIs (([]) ++ ([1, 0, 2, 0])))) ⟨hc1093, hrow1091⟩
                      refine ⟨A1066, c1067, ?_, hS1092.fr, ⟨by have := (hS1092.row (i := 1) rfl).1; exact this, ((hS1092.row (i := 1) rfl).2.mono (fun _ hk => ⟨imm_nxt hk, rfl⟩))⟩⟩
                      exact ret_t2 rfl (ret_b (by first | (rw [(right_plain (by omega) (by omega) (by omega))]; done) | (rw [(right_plain (by omega) (by omega) (by omega)), Bool.eq_iff_iff]; simp [and_assoc]; done) | (rw [(right_plain (by omega) (by omega) (by omega))]; simp []; done) | (rw [(right_plain (by omega) (by omega) (by omega))]; simp [] <;> omega) | (symm; rw [(right_plain (by omega) (by omega) (by omega))];  simp; first | omega | (simp_all; done) | (simp_all; omega)) ))
                    · skip
                      have hR1094 := hR1040.setb (d := 132) (b := false) rfl (decide_eq_false h1041)
                      refine wp_cond_false (hR1094.ev rfl) ?_
                      refine wp_seq_k (fun K1095 hK1096 => ?_)
                      refine c_region ?_
                      refine r_eql sv hR1094 rfl rfl rfl rfl (by decide) (fun a1097 hR1098 => ?_)
                      refine asg hR1098 (fun a1099 hR1100 => ?_)
                      refine wpList_nil (x_then_n (hK1096 _ _ ?_))
                      rcases Decidable.em ((n.K) = 20) with h1101 | h1101
                      · skip
                        have hR1102 := hR1100.setb (d := 139) (b := true) rfl (decide_eq_true h1101)
                        refine wp_cond_true (hR1102.ev rfl) ?_
                        refine wp_seq_k (fun K1103 hK1104 => ?_)
                        obtain ⟨J1105, hJ1106, hS1107⟩ := hS990.agree
                        refine d_region2 (S := (fun x => agr w988 J1105 x ∧ cel g8 0 (.int .i64 (n.K)) x ∧ cel g8 1 (.int .i64 (n.N)) x ∧ cel g8 2 (.int .i64 (n.M)) x ∧ cel g8 3 (.string n.S) x ∧ True)) (n := 7) mixed rfl hS1107 (pan_then (pan_block (pan_then pan_body))) (fun Q1110 hP1111 hN1112 w1108 hS1109 => ?_)
                        have hSw1113 : agr w988 J1105 w1108 ∧ cel g8 0 (.int .i64 (n.K)) w1108 ∧ cel g8 1 (.int .i64 (n.N)) w1108 ∧ cel g8 2 (.int .i64 (n.M)) w1108 ∧ cel g8 3 (.string n.S) w1108 ∧ True := ⟨⟨(hS1109.get (i := 0) rfl).1, fun k hk => ((hS1109.get (i := 0) rfl).2 k hk).2⟩, (box_cell (hS1109.res (i := 0) rfl) rfl), (box_cell (hS1109.res (i := 0) rfl) rfl), (box_cell (hS1109.res (i := 0) rfl) rfl), (box_cell (hS1109.res (i := 0) rfl) rfl), trivial⟩
                        refine dt 0 rfl hP1111 hR1102 (want_n rfl) (fun x hx => r_move (sy hR1102) hR1102 rfl rfl rfl (by decide) gt) hSw1113 (fun a1114 hR1115 => ?_)
                        refine dt 3 rfl hP1111 hR1115 (want_n rfl) (fun x hx => m_loadCN (sy hR1115) hR1115 rfl rfl rfl (CellsAt.cons_ hx.2.1 (CellsAt.cons_ hx.2.2.1 (CellsAt.cons_ hx.2.2.2.1 (CellsAt.cons_ hx.2.2.2.2.1 (CellsAt.nil _ _))))) Tryd.underlying32 rfl sz32 (by decide) gt) hSw1113 (fun a1116 hR1117 => ?_)
                        refine d_one (i := 1) (by kernel_rfl) ?_
                        refine m_buildSlice (ps := [(0, .const (.int .i64 0)), (1, .const (.int .i64 0)), (2, .const (.int .i64 0)), (3, .const (.int .i64 0))]) (cs := [.int .i64 0, .int .i64 0, .int .i64 0, .int .i64 0]) (st_opV rfl (want_n rfl)) hR1117 hS1109 rfl rfl rfl Tryd.underlying66 zi3 rfl rfl (by kernel_rfl) rfl (by decide) (fun a1118 w1119 g1120 hR1121 hS1122 => ?_)
                        have hSw1123 : agr w988 J1105 w1119 ∧ cel g8 0 (.int .i64 (n.K)) w1119 ∧ cel g8 1 (.int .i64 (n.N)) w1119 ∧ cel g8 2 (.int .i64 (n.M)) w1119 ∧ cel g8 3 (.string n.S) w1119 ∧ True := ⟨⟨(hS1122.get (i := 0) rfl).1, fun k hk => ((hS1122.get (i := 0) rfl).2 k hk).2⟩, (box_cell (hS1122.res (i := 0) rfl) rfl), (box_cell (hS1122.res (i := 0) rfl) rfl), (box_cell (hS1122.res (i := 0) rfl) rfl), (box_cell (hS1122.res (i := 0) rfl) rfl), trivial⟩
                        refine ⟨hSw1123, ?_⟩
                        refine d_one (i := 2) (by kernel_rfl) ?_
                        refine m_appendF (f := encI) (i := 1) ([]) ([0, 0, 0, 0]) (st_opV rfl (want_n rfl)) hR1121 hS1122 rfl rfl rfl rfl rfl encI_len (encI_one _) Tryd.underlying66 zi3 rfl rfl (own_lnews (f := encI) (hS1122.res (i := 2) rfl)) rfl (by first | omega | (simp only [List.length_cons, List.length_nil]; omega)) (by decide) (fun a1124 w1125 A1126 c1127 hc1128 hR1129 hS1130 => ?_)
                        have hl1132 : (([]) ++ ([0, 0, 0, 0]) : List Int).length = 4 := by first | (simp only [List.length_append, List.length_take, List.length_cons, List.length_nil]; done) | (simp only [List.length_append, List.length_take, List.length_cons, List.length_nil]; omega)
                        have hS1133 := hS1130.erase 2
                        have hSw1134 : agr w988 J1105 w1125 ∧ cel g8 0 (.int .i64 (n.K)) w1125 ∧ cel g8 1 (.int .i64 (n.N)) w1125 ∧ cel g8 2 (.int .i64 (n.M)) w1125 ∧ cel g8 3 (.string n.S) w1125 ∧ True := ⟨⟨(hS1133.get (i := 0) rfl).1, fun k hk => ((hS1133.get (i := 0) rfl).2 k hk).2⟩, (box_cell (hS1133.res (i := 0) rfl) rfl), (box_cell (hS1133.res (i := 0) rfl) rfl), (box_cell (hS1133.res (i := 0) rfl) rfl), (box_cell (hS1133.res (i := 0) rfl) rfl), trivial⟩
                        refine ⟨hSw1134, ?_⟩
                        refine d_one (i := 4) (by kernel_rfl) ?_
                        have hS1135 : St w0 Z none_ w1125 [.box g8 32 [.int .i64 (n.K), .int .i64 (n.N), .int .i64 (n.M), .string n.S], .row A1126 ((([]) ++ ([0, 0, 0, 0]) : List Int).length) c1127 3 1 (encIs (([]) ++ ([0, 0, 0, 0])))] [dAg w988 J1105] := hS1133
                        refine k_call (xs := [.tmp 144]) (st_op rfl (want_n rfl)) hR1129 rfl rfl rfl (by decide) ok79 (rplain_calls _ (imm Z w0 [.box g8 32 [.int .i64 (n.K), .int .i64 (n.N), .int .i64 (n.M), .string n.S], .row A1126 ((([]) ++ ([0, 0, 0, 0]) : List Int).length) c1127 3 1 (encIs (([]) ++ ([0, 0, 0, 0])))] _) (fun _ h => h.1) n) ?_
                        rintro e1142 w1137 ⟨rfl, hf1140⟩
                        have hS1143 := hS1135.below hf1140.below
                        refine ⟨_, rfl, fun a1136 hR1138 => ?_⟩
                        have hSw1144 : agr w988 J1105 w1137 ∧ cel g8 0 (.int .i64 (n.K)) w1137 ∧ cel g8 1 (.int .i64 (n.N)) w1137 ∧ cel g8 2 (.int .i64 (n.M)) w1137 ∧ cel g8 3 (.string n.S) w1137 ∧ True := ⟨⟨(hS1143.get (i := 0) rfl).1, fun k hk => ((hS1143.get (i := 0) rfl).2 k hk).2⟩, (box_cell (hS1143.res (i := 0) rfl) rfl), (box_cell (hS1143.res (i := 0) rfl) rfl), (box_cell (hS1143.res (i := 0) rfl) rfl), (box_cell (hS1143.res (i := 0) rfl) rfl), trivial⟩
                        refine ⟨hSw1144, ?_⟩
                        refine dt 5 rfl hP1111 hR1138 (want_n rfl) (fun x hx => r_assign (sy hR1138) hR1138 rfl rfl rfl (by decide) gt) hSw1144 (fun a1145 hR1146 => ?_)
                        refine dt 6 rfl hP1111 hR1146 (want_n rfl) (fun x hx => r_assign (sy hR1146) hR1146 rfl rfl rfl (by decide) gt) hSw1144 (fun a1147 hR1148 => ?_)
                        refine wpAnyH_done (by kernel_rfl) (hN1112 _ _ ?_) _
                        refine x_then_n (hK1104 _ _ ?_)
                        refine wp_ret ?_
                        refine x_block_r ?_
                        refine x_then_r ?_
                        refine e_ret2 hR1148 rfl rfl rfl rfl ?_
                        have he1149 : bindL n = ([]) ++ ([0, 0, 0, 0]) := by rcases (show n.K = 20 by omega) with h <;> simp [bindL, h, shp]
                        rw [he1149]
                        have hc1153 := own_cap (hS1143.res (i := 1) rfl)
                        obtain ⟨hS1150, hrow1151⟩ := hS1143.row_data (i := 1) rfl (fun _ h => h)
                        have hS1152 := hS1150.data (dRow 1 A1126 ((([]) ++ ([0, 0, 0, 0]) : List Int).length) c1127 (encIs (([]) ++ ([0, 0, 0, 0])))) ⟨hc1153, hrow1151⟩
                        refine ⟨A1126, c1127, ?_, hS1152.fr, ⟨by have := (hS1152.row (i := 1) rfl).1; exact this, ((hS1152.row (i := 1) rfl).2.mono (fun _ hk => ⟨imm_nxt hk, rfl⟩))⟩⟩
                        exact ret_t2 rfl (ret_b (by first | (rw [(right_plain (by omega) (by omega) (by omega))]; done) | (rw [(right_plain (by omega) (by omega) (by omega)), Bool.eq_iff_iff]; simp [and_assoc]; done) | (rw [(right_plain (by omega) (by omega) (by omega))]; simp []; done) | (rw [(right_plain (by omega) (by omega) (by omega))]; simp [] <;> omega) | (symm; rw [(right_plain (by omega) (by omega) (by omega))];  simp; first | omega | (simp_all; done) | (simp_all; omega)) ))
                      · skip
                        have hR1154 := hR1100.setb (d := 139) (b := false) rfl (decide_eq_false h1101)
                        refine wp_cond_false (hR1154.ev rfl) ?_
                        refine wp_seq_k (fun K1155 hK1156 => ?_)
                        refine c_region ?_
                        refine r_eql sv hR1154 rfl rfl rfl rfl (by decide) (fun a1157 hR1158 => ?_)
                        refine asg hR1158 (fun a1159 hR1160 => ?_)
                        refine wpList_nil (x_then_n (hK1156 _ _ ?_))
                        rcases Decidable.em ((n.K) = 21) with h1161 | h1161
                        · skip
                          have hR1162 := hR1160.setb (d := 146) (b := true) rfl (decide_eq_true h1161)
                          refine wp_cond_true (hR1162.ev rfl) ?_
                          refine wp_seq_k (fun K1163 hK1164 => ?_)
                          obtain ⟨J1165, hJ1166, hS1167⟩ := hS990.agree
                          refine d_region2 (S := (fun x => agr w988 J1165 x ∧ cel g8 0 (.int .i64 (n.K)) x ∧ cel g8 1 (.int .i64 (n.N)) x ∧ cel g8 2 (.int .i64 (n.M)) x ∧ cel g8 3 (.string n.S) x ∧ True)) (n := 7) mixed rfl hS1167 (pan_then (pan_block (pan_then pan_body))) (fun Q1170 hP1171 hN1172 w1168 hS1169 => ?_)
                          have hSw1173 : agr w988 J1165 w1168 ∧ cel g8 0 (.int .i64 (n.K)) w1168 ∧ cel g8 1 (.int .i64 (n.N)) w1168 ∧ cel g8 2 (.int .i64 (n.M)) w1168 ∧ cel g8 3 (.string n.S) w1168 ∧ True := ⟨⟨(hS1169.get (i := 0) rfl).1, fun k hk => ((hS1169.get (i := 0) rfl).2 k hk).2⟩, (box_cell (hS1169.res (i := 0) rfl) rfl), (box_cell (hS1169.res (i := 0) rfl) rfl), (box_cell (hS1169.res (i := 0) rfl) rfl), (box_cell (hS1169.res (i := 0) rfl) rfl), trivial⟩
                          refine dt 0 rfl hP1171 hR1162 (want_n rfl) (fun x hx => r_move (sy hR1162) hR1162 rfl rfl rfl (by decide) gt) hSw1173 (fun a1174 hR1175 => ?_)
                          refine dt 3 rfl hP1171 hR1175 (want_n rfl) (fun x hx => m_loadCN (sy hR1175) hR1175 rfl rfl rfl (CellsAt.cons_ hx.2.1 (CellsAt.cons_ hx.2.2.1 (CellsAt.cons_ hx.2.2.2.1 (CellsAt.cons_ hx.2.2.2.2.1 (CellsAt.nil _ _))))) Tryd.underlying32 rfl sz32 (by decide) gt) hSw1173 (fun a1176 hR1177 => ?_)
                          refine d_one (i := 1) (by kernel_rfl) ?_
                          refine m_buildSlice (ps := [(0, .const (.int .i64 0)), (1, .const (.int .i64 0)), (2, .const (.int .i64 1)), (3, .const (.int .i64 0)), (4, .const (.int .i64 0)), (5, .const (.int .i64 0))]) (cs := [.int .i64 0, .int .i64 0, .int .i64 1, .int .i64 0, .int .i64 0, .int .i64 0]) (st_opV rfl (want_n rfl)) hR1177 hS1169 rfl rfl rfl Tryd.underlying66 zi3 rfl rfl (by kernel_rfl) rfl (by decide) (fun a1178 w1179 g1180 hR1181 hS1182 => ?_)
                          have hSw1183 : agr w988 J1165 w1179 ∧ cel g8 0 (.int .i64 (n.K)) w1179 ∧ cel g8 1 (.int .i64 (n.N)) w1179 ∧ cel g8 2 (.int .i64 (n.M)) w1179 ∧ cel g8 3 (.string n.S) w1179 ∧ True := ⟨⟨(hS1182.get (i := 0) rfl).1, fun k hk => ((hS1182.get (i := 0) rfl).2 k hk).2⟩, (box_cell (hS1182.res (i := 0) rfl) rfl), (box_cell (hS1182.res (i := 0) rfl) rfl), (box_cell (hS1182.res (i := 0) rfl) rfl), (box_cell (hS1182.res (i := 0) rfl) rfl), trivial⟩
                          refine ⟨hSw1183, ?_⟩
                          refine d_one (i := 2) (by kernel_rfl) ?_
                          refine m_appendF (f := encI) (i := 1) ([]) ([0, 0, 1, 0, 0, 0]) (st_opV rfl (want_n rfl)) hR1181 hS1182 rfl rfl rfl rfl rfl encI_len (encI_one _) Tryd.underlying66 zi3 rfl rfl (own_lnews (f := encI) (hS1182.res (i := 2) rfl)) rfl (by first | omega | (simp only [List.length_cons, List.length_nil]; omega)) (by decide) (fun a1184 w1185 A1186 c1187 hc1188 hR1189 hS1190 => ?_)
                          have hl1192 : (([]) ++ ([0, 0, 1, 0, 0, 0]) : List Int).length = 6 := by first | (simp only [List.length_append, List.length_take, List.length_cons, List.length_nil]; done) | (simp only [List.length_append, List.length_take, List.length_cons, List.length_nil]; omega)
                          have hS1193 := hS1190.erase 2
                          have hSw1194 : agr w988 J1165 w1185 ∧ cel g8 0 (.int .i64 (n.K)) w1185 ∧ cel g8 1 (.int .i64 (n.N)) w1185 ∧ cel g8 2 (.int .i64 (n.M)) w1185 ∧ cel g8 3 (.string n.S) w1185 ∧ True := ⟨⟨(hS1193.get (i := 0) rfl).1, fun k hk => ((hS1193.get (i := 0) rfl).2 k hk).2⟩, (box_cell (hS1193.res (i := 0) rfl) rfl), (box_cell (hS1193.res (i := 0) rfl) rfl), (box_cell (hS1193.res (i := 0) rfl) rfl), (box_cell (hS1193.res (i := 0) rfl) rfl), trivial⟩
                          refine ⟨hSw1194, ?_⟩
                          refine d_one (i := 4) (by kernel_rfl) ?_
                          have hS1195 : St w0 Z none_ w1185 [.box g8 32 [.int .i64 (n.K), .int .i64 (n.N), .int .i64 (n.M), .string n.S], .row A1186 ((([]) ++ ([0, 0, 1, 0, 0, 0]) : List Int).length) c1187 3 1 (encIs (([]) ++ ([0, 0, 1, 0, 0, 0])))] [dAg w988 J1165] := hS1193
                          refine k_call (xs := [.tmp 151]) (st_op rfl (want_n rfl)) hR1189 rfl rfl rfl (by decide) ok79 (rplain_calls _ (imm Z w0 [.box g8 32 [.int .i64 (n.K), .int .i64 (n.N), .int .i64 (n.M), .string n.S], .row A1186 ((([]) ++ ([0, 0, 1, 0, 0, 0]) : List Int).length) c1187 3 1 (encIs (([]) ++ ([0, 0, 1, 0, 0, 0])))] _) (fun _ h => h.1) n) ?_
                          rintro e1202 w1197 ⟨rfl, hf1200⟩
                          have hS1203 := hS1195.below hf1200.below
                          refine ⟨_, rfl, fun a1196 hR1198 => ?_⟩
                          have hSw1204 : agr w988 J1165 w1197 ∧ cel g8 0 (.int .i64 (n.K)) w1197 ∧ cel g8 1 (.int .i64 (n.N)) w1197 ∧ cel g8 2 (.int .i64 (n.M)) w1197 ∧ cel g8 3 (.string n.S) w1197 ∧ True := ⟨⟨(hS1203.get (i := 0) rfl).1, fun k hk => ((hS1203.get (i := 0) rfl).2 k hk).2⟩, (box_cell (hS1203.res (i := 0) rfl) rfl), (box_cell (hS1203.res (i := 0) rfl) rfl), (box_cell (hS1203.res (i := 0) rfl) rfl), (box_cell (hS1203.res (i := 0) rfl) rfl), trivial⟩
                          refine ⟨hSw1204, ?_⟩
                          refine dt 5 rfl hP1171 hR1198 (want_n rfl) (fun x hx => r_assign (sy hR1198) hR1198 rfl rfl rfl (by decide) gt) hSw1204 (fun a1205 hR1206 => ?_)
                          refine dt 6 rfl hP1171 hR1206 (want_n rfl) (fun x hx => r_assign (sy hR1206) hR1206 rfl rfl rfl (by decide) gt) hSw1204 (fun a1207 hR1208 => ?_)
                          refine wpAnyH_done (by kernel_rfl) (hN1172 _ _ ?_) _
                          refine x_then_n (hK1164 _ _ ?_)
                          refine wp_ret ?_
                          refine x_block_r ?_
                          refine x_then_r ?_
                          refine e_ret2 hR1208 rfl rfl rfl rfl ?_
                          have he1209 : bindL n = ([]) ++ ([0, 0, 1, 0, 0, 0]) := by rcases (show n.K = 21 by omega) with h <;> simp [bindL, h, shp]
                          rw [he1209]
                          have hc1213 := own_cap (hS1203.res (i := 1) rfl)
                          obtain ⟨hS1210, hrow1211⟩ := hS1203.row_data (i := 1) rfl (fun _ h => h)
                          have hS1212 := hS1210.data (dRow 1 A1186 ((([]) ++ ([0, 0, 1, 0, 0, 0]) : List Int).length) c1187 (encIs (([]) ++ ([0, 0, 1, 0, 0, 0])))) ⟨hc1213, hrow1211⟩
                          refine ⟨A1186, c1187, ?_, hS1212.fr, ⟨by have := (hS1212.row (i := 1) rfl).1; exact this, ((hS1212.row (i := 1) rfl).2.mono (fun _ hk => ⟨imm_nxt hk, rfl⟩))⟩⟩
                          exact ret_t2 rfl (ret_b (by first | (rw [(right_plain (by omega) (by omega) (by omega))]; done) | (rw [(right_plain (by omega) (by omega) (by omega)), Bool.eq_iff_iff]; simp [and_assoc]; done) | (rw [(right_plain (by omega) (by omega) (by omega))]; simp []; done) | (rw [(right_plain (by omega) (by omega) (by omega))]; simp [] <;> omega) | (symm; rw [(right_plain (by omega) (by omega) (by omega))];  simp; first | omega | (simp_all; done) | (simp_all; omega)) ))
                        · skip
                          have hR1214 := hR1160.setb (d := 146) (b := false) rfl (decide_eq_false h1161)
                          refine wp_cond_false (hR1214.ev rfl) ?_
                          refine wp_seq_k (fun K1215 hK1216 => ?_)
                          refine c_region ?_
                          refine r_eql sv hR1214 rfl rfl rfl rfl (by decide) (fun a1217 hR1218 => ?_)
                          refine asg hR1218 (fun a1219 hR1220 => ?_)
                          refine wpList_nil (x_then_n (hK1216 _ _ ?_))
                          rcases Decidable.em ((n.K) = 22) with h1221 | h1221
                          · skip
                            have hR1222 := hR1220.setb (d := 153) (b := true) rfl (decide_eq_true h1221)
                            refine wp_cond_true (hR1222.ev rfl) ?_
                            refine wp_seq_k (fun K1223 hK1224 => ?_)
                            obtain ⟨J1225, hJ1226, hS1227⟩ := hS990.agree
                            refine d_region2 (S := (fun x => agr w988 J1225 x ∧ cel g8 0 (.int .i64 (n.K)) x ∧ cel g8 1 (.int .i64 (n.N)) x ∧ cel g8 2 (.int .i64 (n.M)) x ∧ cel g8 3 (.string n.S) x ∧ True)) (n := 7) mixed rfl hS1227 (pan_then (pan_block (pan_then pan_body))) (fun Q1230 hP1231 hN1232 w1228 hS1229 => ?_)
                            have hSw1233 : agr w988 J1225 w1228 ∧ cel g8 0 (.int .i64 (n.K)) w1228 ∧ cel g8 1 (.int .i64 (n.N)) w1228 ∧ cel g8 2 (.int .i64 (n.M)) w1228 ∧ cel g8 3 (.string n.S) w1228 ∧ True := ⟨⟨(hS1229.get (i := 0) rfl).1, fun k hk => ((hS1229.get (i := 0) rfl).2 k hk).2⟩, (box_cell (hS1229.res (i := 0) rfl) rfl), (box_cell (hS1229.res (i := 0) rfl) rfl), (box_cell (hS1229.res (i := 0) rfl) rfl), (box_cell (hS1229.res (i := 0) rfl) rfl), trivial⟩
                            refine dt 0 rfl hP1231 hR1222 (want_n rfl) (fun x hx => r_move (sy hR1222) hR1222 rfl rfl rfl (by decide) gt) hSw1233 (fun a1234 hR1235 => ?_)
                            refine dt 3 rfl hP1231 hR1235 (want_n rfl) (fun x hx => m_loadCN (sy hR1235) hR1235 rfl rfl rfl (CellsAt.cons_ hx.2.1 (CellsAt.cons_ hx.2.2.1 (CellsAt.cons_ hx.2.2.2.1 (CellsAt.cons_ hx.2.2.2.2.1 (CellsAt.nil _ _))))) Tryd.underlying32 rfl sz32 (by decide) gt) hSw1233 (fun a1236 hR1237 => ?_)
                            refine d_one (i := 1) (by kernel_rfl) ?_
                            refine m_buildSlice (ps := [(0, .const (.int .i64 0)), (1, .const (.int .i64 2)), (2, .const (.int .i64 0)), (3, .const (.int .i64 0)), (4, .const (.int .i64 0))]) (cs := [.int .i64 0, .int .i64 2, .int .i64 0, .int .i64 0, .int .i64 0]) (st_opV rfl (want_n rfl)) hR1237 hS1229 rfl rfl rfl Tryd.underlying66 zi3 rfl rfl (by kernel_rfl) rfl (by decide) (fun a1238 w1239 g1240 hR1241 hS1242 => ?_)
                            have hSw1243 : agr w988 J1225 w1239 ∧ cel g8 0 (.int .i64 (n.K)) w1239 ∧ cel g8 1 (.int .i64 (n.N)) w1239 ∧ cel g8 2 (.int .i64 (n.M)) w1239 ∧ cel g8 3 (.string n.S) w1239 ∧ True := ⟨⟨(hS1242.get (i := 0) rfl).1, fun k hk => ((hS1242.get (i := 0) rfl).2 k hk).2⟩, (box_cell (hS1242.res (i := 0) rfl) rfl), (box_cell (hS1242.res (i := 0) rfl) rfl), (box_cell (hS1242.res (i := 0) rfl) rfl), (box_cell (hS1242.res (i := 0) rfl) rfl), trivial⟩
                            refine ⟨hSw1243, ?_⟩
                            refine d_one (i := 2) (by kernel_rfl) ?_
                            refine m_appendF (f := encI) (i := 1) ([]) ([0, 2, 0, 0, 0]) (st_opV rfl (want_n rfl)) hR1241 hS1242 rfl rfl rfl rfl rfl encI_len (encI_one _) Tryd.underlying66 zi3 rfl rfl (own_lnews (f := encI) (hS1242.res (i := 2) rfl)) rfl (by first | omega | (simp only [List.length_cons, List.length_nil]; omega)) (by decide) (fun a1244 w1245 A1246 c1247 hc1248 hR1249 hS1250 => ?_)
                            have hl1252 : (([]) ++ ([0, 2, 0, 0, 0]) : List Int).length = 5 := by first | (simp only [List.length_append, List.length_take, List.length_cons, List.length_nil]; done) | (simp only [List.length_append, List.length_take, List.length_cons, List.length_nil]; omega)
                            have hS1253 := hS1250.erase 2
                            have hSw1254 : agr w988 J1225 w1245 ∧ cel g8 0 (.int .i64 (n.K)) w1245 ∧ cel g8 1 (.int .i64 (n.N)) w1245 ∧ cel g8 2 (.int .i64 (n.M)) w1245 ∧ cel g8 3 (.string n.S) w1245 ∧ True := ⟨⟨(hS1253.get (i := 0) rfl).1, fun k hk => ((hS1253.get (i := 0) rfl).2 k hk).2⟩, (box_cell (hS1253.res (i := 0) rfl) rfl), (box_cell (hS1253.res (i := 0) rfl) rfl), (box_cell (hS1253.res (i := 0) rfl) rfl), (box_cell (hS1253.res (i := 0) rfl) rfl), trivial⟩
                            refine ⟨hSw1254, ?_⟩
                            refine d_one (i := 4) (by kernel_rfl) ?_
                            have hS1255 : St w0 Z none_ w1245 [.box g8 32 [.int .i64 (n.K), .int .i64 (n.N), .int .i64 (n.M), .string n.S], .row A1246 ((([]) ++ ([0, 2, 0, 0, 0]) : List Int).length) c1247 3 1 (encIs (([]) ++ ([0, 2, 0, 0, 0])))] [dAg w988 J1225] := hS1253
                            refine k_call (xs := [.tmp 158]) (st_op rfl (want_n rfl)) hR1249 rfl rfl rfl (by decide) ok79 (rplain_calls _ (imm Z w0 [.box g8 32 [.int .i64 (n.K), .int .i64 (n.N), .int .i64 (n.M), .string n.S], .row A1246 ((([]) ++ ([0, 2, 0, 0, 0]) : List Int).length) c1247 3 1 (encIs (([]) ++ ([0, 2, 0, 0, 0])))] _) (fun _ h => h.1) n) ?_
                            rintro e1262 w1257 ⟨rfl, hf1260⟩
                            have hS1263 := hS1255.below hf1260.below
                            refine ⟨_, rfl, fun a1256 hR1258 => ?_⟩
                            have hSw1264 : agr w988 J1225 w1257 ∧ cel g8 0 (.int .i64 (n.K)) w1257 ∧ cel g8 1 (.int .i64 (n.N)) w1257 ∧ cel g8 2 (.int .i64 (n.M)) w1257 ∧ cel g8 3 (.string n.S) w1257 ∧ True := ⟨⟨(hS1263.get (i := 0) rfl).1, fun k hk => ((hS1263.get (i := 0) rfl).2 k hk).2⟩, (box_cell (hS1263.res (i := 0) rfl) rfl), (box_cell (hS1263.res (i := 0) rfl) rfl), (box_cell (hS1263.res (i := 0) rfl) rfl), (box_cell (hS1263.res (i := 0) rfl) rfl), trivial⟩
                            refine ⟨hSw1264, ?_⟩
                            refine dt 5 rfl hP1231 hR1258 (want_n rfl) (fun x hx => r_assign (sy hR1258) hR1258 rfl rfl rfl (by decide) gt) hSw1264 (fun a1265 hR1266 => ?_)
                            refine dt 6 rfl hP1231 hR1266 (want_n rfl) (fun x hx => r_assign (sy hR1266) hR1266 rfl rfl rfl (by decide) gt) hSw1264 (fun a1267 hR1268 => ?_)
                            refine wpAnyH_done (by kernel_rfl) (hN1232 _ _ ?_) _
                            refine x_then_n (hK1224 _ _ ?_)
                            refine wp_ret ?_
                            refine x_block_r ?_
                            refine x_then_r ?_
                            refine e_ret2 hR1268 rfl rfl rfl rfl ?_
                            have he1269 : bindL n = ([]) ++ ([0, 2, 0, 0, 0]) := by rcases (show n.K = 22 by omega) with h <;> simp [bindL, h, shp]
                            rw [he1269]
                            have hc1273 := own_cap (hS1263.res (i := 1) rfl)
                            obtain ⟨hS1270, hrow1271⟩ := hS1263.row_data (i := 1) rfl (fun _ h => h)
                            have hS1272 := hS1270.data (dRow 1 A1246 ((([]) ++ ([0, 2, 0, 0, 0]) : List Int).length) c1247 (encIs (([]) ++ ([0, 2, 0, 0, 0])))) ⟨hc1273, hrow1271⟩
                            refine ⟨A1246, c1247, ?_, hS1272.fr, ⟨by have := (hS1272.row (i := 1) rfl).1; exact this, ((hS1272.row (i := 1) rfl).2.mono (fun _ hk => ⟨imm_nxt hk, rfl⟩))⟩⟩
                            exact ret_t2 rfl (ret_b (by first | (rw [(right_plain (by omega) (by omega) (by omega))]; done) | (rw [(right_plain (by omega) (by omega) (by omega)), Bool.eq_iff_iff]; simp [and_assoc]; done) | (rw [(right_plain (by omega) (by omega) (by omega))]; simp []; done) | (rw [(right_plain (by omega) (by omega) (by omega))]; simp [] <;> omega) | (symm; rw [(right_plain (by omega) (by omega) (by omega))];  simp; first | omega | (simp_all; done) | (simp_all; omega)) ))
                          · skip
                            have hR1274 := hR1220.setb (d := 153) (b := false) rfl (decide_eq_false h1221)
                            refine wp_cond_false (hR1274.ev rfl) ?_
                            refine wp_seq_k (fun K1275 hK1276 => ?_)
                            refine c_region ?_
                            refine r_eql sv hR1274 rfl rfl rfl rfl (by decide) (fun a1277 hR1278 => ?_)
                            refine asg hR1278 (fun a1279 hR1280 => ?_)
                            refine wpList_nil (x_then_n (hK1276 _ _ ?_))
                            rcases Decidable.em ((n.K) = 24) with h1281 | h1281
                            · skip
                              have hR1282 := hR1280.setb (d := 160) (b := true) rfl (decide_eq_true h1281)
                              refine wp_cond_true (hR1282.ev rfl) ?_
                              refine wp_seq_k (fun K1283 hK1284 => ?_)
                              obtain ⟨J1285, hJ1286, hS1287⟩ := hS990.agree
                              refine d_region2 (S := (fun x => agr w988 J1285 x ∧ cel g8 0 (.int .i64 (n.K)) x ∧ cel g8 1 (.int .i64 (n.N)) x ∧ cel g8 2 (.int .i64 (n.M)) x ∧ cel g8 3 (.string n.S) x ∧ True)) (n := 7) mixed rfl hS1287 (pan_then (pan_block (pan_then pan_body))) (fun Q1290 hP1291 hN1292 w1288 hS1289 => ?_)
                              have hSw1293 : agr w988 J1285 w1288 ∧ cel g8 0 (.int .i64 (n.K)) w1288 ∧ cel g8 1 (.int .i64 (n.N)) w1288 ∧ cel g8 2 (.int .i64 (n.M)) w1288 ∧ cel g8 3 (.string n.S) w1288 ∧ True := ⟨⟨(hS1289.get (i := 0) rfl).1, fun k hk => ((hS1289.get (i := 0) rfl).2 k hk).2⟩, (box_cell (hS1289.res (i := 0) rfl) rfl), (box_cell (hS1289.res (i := 0) rfl) rfl), (box_cell (hS1289.res (i := 0) rfl) rfl), (box_cell (hS1289.res (i := 0) rfl) rfl), trivial⟩
                              refine dt 0 rfl hP1291 hR1282 (want_n rfl) (fun x hx => r_move (sy hR1282) hR1282 rfl rfl rfl (by decide) gt) hSw1293 (fun a1294 hR1295 => ?_)
                              refine dt 3 rfl hP1291 hR1295 (want_n rfl) (fun x hx => m_loadCN (sy hR1295) hR1295 rfl rfl rfl (CellsAt.cons_ hx.2.1 (CellsAt.cons_ hx.2.2.1 (CellsAt.cons_ hx.2.2.2.1 (CellsAt.cons_ hx.2.2.2.2.1 (CellsAt.nil _ _))))) Tryd.underlying32 rfl sz32 (by decide) gt) hSw1293 (fun a1296 hR1297 => ?_)
                              refine d_one (i := 1) (by kernel_rfl) ?_
                              refine m_buildSlice (ps := [(0, .const (.int .i64 0)), (1, .const (.int .i64 1)), (2, .const (.int .i64 0)), (3, .const (.int .i64 0))]) (cs := [.int .i64 0, .int .i64 1, .int .i64 0, .int .i64 0]) (st_opV rfl (want_n rfl)) hR1297 hS1289 rfl rfl rfl Tryd.underlying66 zi3 rfl rfl (by kernel_rfl) rfl (by decide) (fun a1298 w1299 g1300 hR1301 hS1302 => ?_)
                              have hSw1303 : agr w988 J1285 w1299 ∧ cel g8 0 (.int .i64 (n.K)) w1299 ∧ cel g8 1 (.int .i64 (n.N)) w1299 ∧ cel g8 2 (.int .i64 (n.M)) w1299 ∧ cel g8 3 (.string n.S) w1299 ∧ True := ⟨⟨(hS1302.get (i := 0) rfl).1, fun k hk => ((hS1302.get (i := 0) rfl).2 k hk).2⟩, (box_cell (hS1302.res (i := 0) rfl) rfl), (box_cell (hS1302.res (i := 0) rfl) rfl), (box_cell (hS1302.res (i := 0) rfl) rfl), (box_cell (hS1302.res (i := 0) rfl) rfl), trivial⟩
                              refine ⟨hSw1303, ?_⟩
                              refine d_one (i := 2) (by kernel_rfl) ?_
                              refine m_appendF (f := encI) (i := 1) ([]) ([0, 1, 0, 0]) (st_opV rfl (want_n rfl)) hR1301 hS1302 rfl rfl rfl rfl rfl encI_len (encI_one _) Tryd.underlying66 zi3 rfl rfl (own_lnews (f := encI) (hS1302.res (i := 2) rfl)) rfl (by first | omega | (simp only [List.length_cons, List.length_nil]; omega)) (by decide) (fun a1304 w1305 A1306 c1307 hc1308 hR1309 hS1310 => ?_)
                              have hl1312 : (([]) ++ ([0, 1, 0, 0]) : List Int).length = 4 := by first | (simp only [List.length_append, List.length_take, List.length_cons, List.length_nil]; done) | (simp only [List.length_append, List.length_take, List.length_cons, List.length_nil]; omega)
                              have hS1313 := hS1310.erase 2
                              have hSw1314 : agr w988 J1285 w1305 ∧ cel g8 0 (.int .i64 (n.K)) w1305 ∧ cel g8 1 (.int .i64 (n.N)) w1305 ∧ cel g8 2 (.int .i64 (n.M)) w1305 ∧ cel g8 3 (.string n.S) w1305 ∧ True := ⟨⟨(hS1313.get (i := 0) rfl).1, fun k hk => ((hS1313.get (i := 0) rfl).2 k hk).2⟩, (box_cell (hS1313.res (i := 0) rfl) rfl), (box_cell (hS1313.res (i := 0) rfl) rfl), (box_cell (hS1313.res (i := 0) rfl) rfl), (box_cell (hS1313.res (i := 0) rfl) rfl), trivial⟩
                              refine ⟨hSw1314, ?_⟩
                              refine d_one (i := 4) (by kernel_rfl) ?_
                              have hS1315 : St w0 Z none_ w1305 [.box g8 32 [.int .i64 (n.K), .int .i64 (n.N), .int .i64 (n.M), .string n.S], .row A1306 ((([]) ++ ([0, 1, 0, 0]) : List Int).length) c1307 3 1 (encIs (([]) ++ ([0, 1, 0, 0])))] [dAg w988 J1285] := hS1313
                              refine k_call (xs := [.tmp 165]) (st_op rfl (want_n rfl)) hR1309 rfl rfl rfl (by decide) ok79 (rplain_calls _ (imm Z w0 [.box g8 32 [.int .i64 (n.K), .int .i64 (n.N), .int .i64 (n.M), .string n.S], .row A1306 ((([]) ++ ([0, 1, 0, 0]) : List Int).length) c1307 3 1 (encIs (([]) ++ ([0, 1, 0, 0])))] _) (fun _ h => h.1) n) ?_
                              rintro e1322 w1317 ⟨rfl, hf1320⟩
                              have hS1323 := hS1315.below hf1320.below
                              refine ⟨_, rfl, fun a1316 hR1318 => ?_⟩
                              have hSw1324 : agr w988 J1285 w1317 ∧ cel g8 0 (.int .i64 (n.K)) w1317 ∧ cel g8 1 (.int .i64 (n.N)) w1317 ∧ cel g8 2 (.int .i64 (n.M)) w1317 ∧ cel g8 3 (.string n.S) w1317 ∧ True := ⟨⟨(hS1323.get (i := 0) rfl).1, fun k hk => ((hS1323.get (i := 0) rfl).2 k hk).2⟩, (box_cell (hS1323.res (i := 0) rfl) rfl), (box_cell (hS1323.res (i := 0) rfl) rfl), (box_cell (hS1323.res (i := 0) rfl) rfl), (box_cell (hS1323.res (i := 0) rfl) rfl), trivial⟩
                              refine ⟨hSw1324, ?_⟩
                              refine dt 5 rfl hP1291 hR1318 (want_n rfl) (fun x hx => r_assign (sy hR1318) hR1318 rfl rfl rfl (by decide) gt) hSw1324 (fun a1325 hR1326 => ?_)
                              refine dt 6 rfl hP1291 hR1326 (want_n rfl) (fun x hx => r_assign (sy hR1326) hR1326 rfl rfl rfl (by decide) gt) hSw1324 (fun a1327 hR1328 => ?_)
                              refine wpAnyH_done (by kernel_rfl) (hN1292 _ _ ?_) _
                              refine x_then_n (hK1284 _ _ ?_)
                              refine wp_ret ?_
                              refine x_block_r ?_
                              refine x_then_r ?_
                              refine e_ret2 hR1328 rfl rfl rfl rfl ?_
                              have he1329 : bindL n = ([]) ++ ([0, 1, 0, 0]) := by rcases (show n.K = 24 by omega) with h <;> simp [bindL, h, shp]
                              rw [he1329]
                              have hc1333 := own_cap (hS1323.res (i := 1) rfl)
                              obtain ⟨hS1330, hrow1331⟩ := hS1323.row_data (i := 1) rfl (fun _ h => h)
                              have hS1332 := hS1330.data (dRow 1 A1306 ((([]) ++ ([0, 1, 0, 0]) : List Int).length) c1307 (encIs (([]) ++ ([0, 1, 0, 0])))) ⟨hc1333, hrow1331⟩
                              refine ⟨A1306, c1307, ?_, hS1332.fr, ⟨by have := (hS1332.row (i := 1) rfl).1; exact this, ((hS1332.row (i := 1) rfl).2.mono (fun _ hk => ⟨imm_nxt hk, rfl⟩))⟩⟩
                              exact ret_t2 rfl (ret_b (by first | (rw [(right_plain (by omega) (by omega) (by omega))]; done) | (rw [(right_plain (by omega) (by omega) (by omega)), Bool.eq_iff_iff]; simp [and_assoc]; done) | (rw [(right_plain (by omega) (by omega) (by omega))]; simp []; done) | (rw [(right_plain (by omega) (by omega) (by omega))]; simp [] <;> omega) | (symm; rw [(right_plain (by omega) (by omega) (by omega))];  simp; first | omega | (simp_all; done) | (simp_all; omega)) ))
                            · skip
                              have hR1334 := hR1280.setb (d := 160) (b := false) rfl (decide_eq_false h1281)
                              refine wp_cond_false (hR1334.ev rfl) ?_
                              refine wp_seq_k (fun K1335 hK1336 => ?_)
                              refine c_region ?_
                              refine r_eql sv hR1334 rfl rfl rfl rfl (by decide) (fun a1337 hR1338 => ?_)
                              refine asg hR1338 (fun a1339 hR1340 => ?_)
                              refine wpList_nil (x_then_n (hK1336 _ _ ?_))
                              rcases Decidable.em ((n.K) = 26) with h1341 | h1341
                              · skip
                                have hR1342 := hR1340.setb (d := 167) (b := true) rfl (decide_eq_true h1341)
                                refine wp_cond_true (hR1342.ev rfl) ?_
                                refine wp_seq_k (fun K1343 hK1344 => ?_)
                                refine wp_seq_k (fun K1345 hK1346 => ?_)
                                refine c_region ?_
                                refine m_field (j' := 3) sv hR1342 rfl rfl rfl Tryd.underlying32 rfl sz9 rfl rfl (by decide) (fun a1347 hR1348 => ?_)
                                refine m_load (i := 0) sv hR1348 hS990 rfl rfl rfl rfl rfl Tryd.underlying9 rfl (by decide) (fun a1349 hR1350 => ?_)
                                have hS1351 : St w0 Z none_ w988 [.box g8 32 [.int .i64 (n.K), .int .i64 (n.N), .int .i64 (n.M), .string n.S], .row (some ⟨g19, 0, none⟩) 0 0 3 1 (encIs ([]))] [] := hS990
                                refine k_call (xs := [.tmp 170]) se hR1350 rfl rfl rfl (by decide) ok77 (rname_calls _ (imm Z w0 [.box g8 32 [.int .i64 (n.K), .int .i64 (n.N), .int .i64 (n.M), .string n.S], .row (some ⟨g19, 0, none⟩) 0 0 3 1 (encIs ([]))] _) (fun _ h => h.1) n.S (by first | assumption | omega | (simp; done) | (simp; omega))) ?_
                                rintro e1358 w1353 ⟨rfl, hf1356⟩
                                have hS1359 := hS1351.below hf1356.below
                                refine ⟨_, rfl, fun a1352 hR1354 => ?_⟩
                                refine r_not sv hR1354 rfl rfl rfl (by decide) (fun a1360 hR1361 => ?_)
                                refine mv hR1361 (fun a1362 hR1363 => ?_)
                                refine l_join (fun ga gw => Reg ga 228 [(1, .pointer (some ⟨g8, 0, none⟩)), (2, .slice none 0 0), (3, .bool false), (4, .slice (some ⟨g19, 0, none⟩) 0 0), (177, .bool ((!(nameOk n.S)) || (decide ((n.N) < 0)))), (1000000, .bool false)] ∧ St w0 Z none_ gw [.box g8 32 [.int .i64 (n.K), .int .i64 (n.N), .int .i64 (n.M), .string n.S], .row (some ⟨g19, 0, none⟩) 0 0 3 1 (encIs ([]))] []) 4 ?_ ?_
                                · skip
                                  rcases Bool.eq_false_or_eq_true (nameOk n.S) with h1364 | h1364
                                  · skip
                                    have hR1365 := hR1363.setb (d := 173) (b := false) rfl (by rw [h1364]; rfl)
                                    refine m_field (j' := 1) (st_listV_w (wt hR1365)) hR1365 rfl rfl rfl Tryd.underlying32 rfl sz3 rfl rfl (by decide) (fun a1366 hR1367 => ?_)
                                    refine m_load (i := 0) (st_listV_w (wt hR1367)) hR1367 hS1359 rfl rfl rfl rfl rfl Tryd.underlying3 rfl (by decide) (fun a1368 hR1369 => ?_)
                                    refine r_lss (st_listV_w (wt hR1369)) hR1369 rfl rfl rfl rfl (by decide) (fun a1370 hR1371 => ?_)
                                    refine r_pick_f sv hR1371 rfl rfl rfl rfl (by decide) (fun a1372 hR1373 => ?_)
                                    refine wpList_nil ?_
                                    exact x_then_n ⟨(hR1373.sub (rc rfl (rc rfl (rc rfl (rc rfl (rc (rb rfl (by first | rfl | (simp only [h1364, bl]; done) | (simp [h1364]; done) | (simp [h1364]; omega))) (rc rfl rnl))))))), hS1359⟩
                                  · skip
                                    have hR1374 := hR1363.setb (d := 173) (b := true) rfl (by rw [h1364]; rfl)
                                    refine sps hR1374 (wff hR1374) (fun a1375 hR1376 => ?_)
                                    refine sps hR1376 (wff hR1376) (fun a1377 hR1378 => ?_)
                                    refine sps hR1378 (wff hR1378) (fun a1379 hR1380 => ?_)
                                    refine r_pick_t sv hR1380 rfl rfl rfl rfl (by decide) (fun a1381 hR1382 => ?_)
                                    refine wpList_nil ?_
                                    exact x_then_n ⟨(hR1382.sub (rc rfl (rc rfl (rc rfl (rc rfl (rc (rb rfl (by first | rfl | (simp only [h1364, bl]; done) | (simp [h1364]; done) | (simp [h1364]; omega))) (rc rfl rnl))))))), hS1359⟩
                                rintro a1383 w1384 ⟨hR1385, hS1386⟩
                                refine mv hR1385 (fun a1387 hR1388 => ?_)
                                refine l_join (fun ga gw => Reg ga 228 [(1, .pointer (some ⟨g8, 0, none⟩)), (2, .slice none 0 0), (3, .bool false), (4, .slice (some ⟨g19, 0, none⟩) 0 0), (182, .bool (((!(nameOk n.S)) || (decide ((n.N) < 0))) || (decide (6 ≤ (n.N))))), (1000000, .bool false)] ∧ St w0 Z none_ gw [.box g8 32 [.int .i64 (n.K), .int .i64 (n.N), .int .i64 (n.M), .string n.S], .row (some ⟨g19, 0, none⟩) 0 0 3 1 (encIs ([]))] []) 4 ?_ ?_
                                · skip
                                  rcases Bool.eq_false_or_eq_true (((!(nameOk n.S)) || (decide ((n.N) < 0)))) with h1389 | h1389
                                  · skip
                                    have hq1390 := h1389
                                    try simp only [Bool.or_eq_true, Bool.and_eq_true, Bool.not_eq_true', Bool.not_eq_false', decide_eq_true_eq, decide_eq_false_iff_not, Bool.or_eq_false_iff, Bool.and_eq_false_iff] at hq1390
                                    have hR1391 := hR1388.setb (d := 178) (b := true) rfl h1389
                                    refine sps hR1391 (wff hR1391) (fun a1392 hR1393 => ?_)
                                    refine sps hR1393 (wff hR1393) (fun a1394 hR1395 => ?_)
                                    refine sps hR1395 (wff hR1395) (fun a1396 hR1397 => ?_)
                                    refine r_pick_t sv hR1397 rfl rfl rfl rfl (by decide) (fun a1398 hR1399 => ?_)
                                    refine wpList_nil ?_
                                    exact x_then_n ⟨(hR1399.sub (rc rfl (rc rfl (rc rfl (rc rfl (rc (rb rfl (by first | rfl | (simp only [h1389, bl]; done) | (simp [h1389]; done) | (simp [h1389]; omega))) (rc rfl rnl))))))), hS1386⟩
                                  · skip
                                    have h1400 := or_fl h1389
                                    have h1401 := not_f h1400
                                    have h1402 := or_fr h1389
                                    have h1403 := of_decide_eq_false h1402
                                    have hR1404 := hR1388.setb (d := 178) (b := false) rfl h1389
                                    refine m_field (j' := 1) (st_listV_w (wt hR1404)) hR1404 rfl rfl rfl Tryd.underlying32 rfl sz3 rfl rfl (by decide) (fun a1405 hR1406 => ?_)
                                    refine m_load (i := 0) (st_listV_w (wt hR1406)) hR1406 hS1386 rfl rfl rfl rfl rfl Tryd.underlying3 rfl (by decide) (fun a1407 hR1408 => ?_)
                                    refine r_geq (st_listV_w (wt hR1408)) hR1408 rfl rfl rfl rfl (by decide) (fun a1409 hR1410 => ?_)
                                    refine r_pick_f sv hR1410 rfl rfl rfl rfl (by decide) (fun a1411 hR1412 => ?_)
                                    refine wpList_nil ?_
                                    exact x_then_n ⟨(hR1412.sub (rc rfl (rc rfl (rc rfl (rc rfl (rc (rb rfl (by first | rfl | (simp only [h1389, bl]; done) | (simp [h1389]; done) | (simp [h1389]; omega))) (rc rfl rnl))))))), hS1386⟩
                                rintro a1413 w1414 ⟨hR1415, hS1416⟩
                                refine mv hR1415 (fun a1417 hR1418 => ?_)
                                refine l_join (fun ga gw => Reg ga 228 [(1, .pointer (some ⟨g8, 0, none⟩)), (2, .slice none 0 0), (3, .bool false), (4, .slice (some ⟨g19, 0, none⟩) 0 0), (187, .bool ((((!(nameOk n.S)) || (decide ((n.N) < 0))) || (decide (6 ≤ (n.N)))) || (decide ((n.M) < 0)))), (1000000, .bool false)] ∧ St w0 Z none_ gw [.box g8 32 [.int .i64 (n.K), .int .i64 (n.N), .int .i64 (n.M), .string n.S], .row (some ⟨g19, 0, none⟩) 0 0 3 1 (encIs ([]))] []) 4 ?_ ?_
                                · skip
                                  rcases Bool.eq_false_or_eq_true ((((!(nameOk n.S)) || (decide ((n.N) < 0))) || (decide (6 ≤ (n.N))))) with h1419 | h1419
                                  · skip
                                    have hq1420 := h1419
                                    try simp only [Bool.or_eq_true, Bool.and_eq_true, Bool.not_eq_true', Bool.not_eq_false', decide_eq_true_eq, decide_eq_false_iff_not, Bool.or_eq_false_iff, Bool.and_eq_false_iff] at hq1420
                                    have hR1421 := hR1418.setb (d := 183) (b := true) rfl h1419
                                    refine sps hR1421 (wff hR1421) (fun a1422 hR1423 => ?_)
                                    refine sps hR1423 (wff hR1423) (fun a1424 hR1425 => ?_)
                                    refine sps hR1425 (wff hR1425) (fun a1426 hR1427 => ?_)
                                    refine r_pick_t sv hR1427 rfl rfl rfl rfl (by decide) (fun a1428 hR1429 => ?_)
                                    refine wpList_nil ?_
                                    exact x_then_n ⟨(hR1429.sub (rc rfl (rc rfl (rc rfl (rc rfl (rc (rb rfl (by first | rfl | (simp only [h1419, bl]; done) | (simp [h1419]; done) | (simp [h1419]; omega))) (rc rfl rnl))))))), hS1416⟩
                                  · skip
                                    have h1430 := or_fl h1419
                                    have h1431 := or_fl h1430
                                    have h1432 := not_f h1431
                                    have h1433 := or_fr h1430
                                    have h1434 := of_decide_eq_false h1433
                                    have h1435 := or_fr h1419
                                    have h1436 := of_decide_eq_false h1435
                                    have hR1437 := hR1418.setb (d := 183) (b := false) rfl h1419
                                    refine m_field (j' := 2) (st_listV_w (wt hR1437)) hR1437 rfl rfl rfl Tryd.underlying32 rfl sz3 rfl rfl (by decide) (fun a1438 hR1439 => ?_)
                                    refine m_load (i := 0) (st_listV_w (wt hR1439)) hR1439 hS1416 rfl rfl rfl rfl rfl Tryd.underlying3 rfl (by decide) (fun a1440 hR1441 => ?_)
                                    refine r_lss (st_listV_w (wt hR1441)) hR1441 rfl rfl rfl rfl (by decide) (fun a1442 hR1443 => ?_)
                                    refine r_pick_f sv hR1443 rfl rfl rfl rfl (by decide) (fun a1444 hR1445 => ?_)
                                    refine wpList_nil ?_
                                    exact x_then_n ⟨(hR1445.sub (rc rfl (rc rfl (rc rfl (rc rfl (rc (rb rfl (by first | rfl | (simp only [h1419, bl]; done) | (simp [h1419]; done) | (simp [h1419]; omega))) (rc rfl rnl))))))), hS1416⟩
                                rintro a1446 w1447 ⟨hR1448, hS1449⟩
                                refine mv hR1448 (fun a1450 hR1451 => ?_)
                                refine l_join (fun ga gw => Reg ga 228 [(1, .pointer (some ⟨g8, 0, none⟩)), (2, .slice none 0 0), (3, .bool false), (4, .slice (some ⟨g19, 0, none⟩) 0 0), (192, .bool (((((!(nameOk n.S)) || (decide ((n.N) < 0))) || (decide (6 ≤ (n.N)))) || (decide ((n.M) < 0))) || (decide (6 < (n.M))))), (1000000, .bool false)] ∧ St w0 Z none_ gw [.box g8 32 [.int .i64 (n.K), .int .i64 (n.N), .int .i64 (n.M), .string n.S], .row (some ⟨g19, 0, none⟩) 0 0 3 1 (encIs ([]))] []) 4 ?_ ?_
                                · skip
                                  rcases Bool.eq_false_or_eq_true (((((!(nameOk n.S)) || (decide ((n.N) < 0))) || (decide (6 ≤ (n.N)))) || (decide ((n.M) < 0)))) with h1452 | h1452
                                  · skip
                                    have hq1453 := h1452
                                    try simp only [Bool.or_eq_true, Bool.and_eq_true, Bool.not_eq_true', Bool.not_eq_false', decide_eq_true_eq, decide_eq_false_iff_not, Bool.or_eq_false_iff, Bool.and_eq_false_iff] at hq1453
                                    have hR1454 := hR1451.setb (d := 188) (b := true) rfl h1452
                                    refine sps hR1454 (wff hR1454) (fun a1455 hR1456 => ?_)
                                    refine sps hR1456 (wff hR1456) (fun a1457 hR1458 => ?_)
                                    refine sps hR1458 (wff hR1458) (fun a1459 hR1460 => ?_)
                                    refine r_pick_t sv hR1460 rfl rfl rfl rfl (by decide) (fun a1461 hR1462 => ?_)
                                    refine wpList_nil ?_
                                    exact x_then_n ⟨(hR1462.sub (rc rfl (rc rfl (rc rfl (rc rfl (rc (rb rfl (by first | rfl | (simp only [h1452, bl]; done) | (simp [h1452]; done) | (simp [h1452]; omega))) (rc rfl rnl))))))), hS1449⟩
                                  · skip
                                    have h1463 := or_fl h1452
                                    have h1464 := or_fl h1463
                                    have h1465 := or_fl h1464
                                    have h1466 := not_f h1465
                                    have h1467 := or_fr h1464
                                    have h1468 := of_decide_eq_false h1467
                                    have h1469 := or_fr h1463
                                    have h1470 := of_decide_eq_false h1469
                                    have h1471 := or_fr h1452
                                    have h1472 := of_decide_eq_false h1471
                                    have hR1473 := hR1451.setb (d := 188) (b := false) rfl h1452
                                    refine m_field (j' := 2) (st_listV_w (wt hR1473)) hR1473 rfl rfl rfl Tryd.underlying32 rfl sz3 rfl rfl (by decide) (fun a1474 hR1475 => ?_)
                                    refine m_load (i := 0) (st_listV_w (wt hR1475)) hR1475 hS1449 rfl rfl rfl rfl rfl Tryd.underlying3 rfl (by decide) (fun a1476 hR1477 => ?_)
                                    refine r_gtr (st_listV_w (wt hR1477)) hR1477 rfl rfl rfl rfl (by decide) (fun a1478 hR1479 => ?_)
                                    refine r_pick_f sv hR1479 rfl rfl rfl rfl (by decide) (fun a1480 hR1481 => ?_)
                                    refine wpList_nil ?_
                                    exact x_then_n ⟨(hR1481.sub (rc rfl (rc rfl (rc rfl (rc rfl (rc (rb rfl (by first | rfl | (simp only [h1452, bl]; done) | (simp [h1452]; done) | (simp [h1452]; omega))) (rc rfl rnl))))))), hS1449⟩
                                rintro a1482 w1483 ⟨hR1484, hS1485⟩
                                refine wpList_nil (x_then_n (hK1346 _ _ ?_))
                                rcases Bool.eq_false_or_eq_true ((((((!(nameOk n.S)) || (decide ((n.N) < 0))) || (decide (6 ≤ (n.N)))) || (decide ((n.M) < 0))) || (decide (6 < (n.M))))) with h1486 | h1486
                                · skip
                                  have hq1487 := h1486
                                  try simp only [Bool.or_eq_true, Bool.and_eq_true, Bool.not_eq_true', Bool.not_eq_false', decide_eq_true_eq, decide_eq_false_iff_not, Bool.or_eq_false_iff, Bool.and_eq_false_iff] at hq1487
                                  have hR1488 := hR1484.setb (d := 192) (b := true) rfl h1486
                                  refine wp_cond_true (hR1488.ev rfl) ?_
                                  refine wp_seq_k (fun K1489 hK1490 => ?_)
                                  refine c_region ?_
                                  refine mv hR1488 (fun a1491 hR1492 => ?_)
                                  refine asg hR1492 (fun a1493 hR1494 => ?_)
                                  refine asg hR1494 (fun a1495 hR1496 => ?_)
                                  refine wpList_nil (x_then_n (hK1490 _ _ ?_))
                                  refine wp_ret ?_
                                  refine x_then_r ?_
                                  refine x_block_r ?_
                                  refine x_then_r ?_
                                  refine e_ret2 hR1496 rfl rfl rfl rfl ?_
                                  have he1497 : bindL n = [] := bindL_bad (by omega) (show right n = false by rw [(right_con2 (by omega))]; exact decide_eq_false (by rintro ⟨z1, z2⟩; have hq' := hq1487; rw [z1] at hq'; simp only [Bool.true_eq_false, false_or] at hq'; omega))
                                  rw [he1497]
                                  have hc1501 := own_cap (hS1485.res (i := 1) rfl)
                                  obtain ⟨hS1498, hrow1499⟩ := hS1485.row_data (i := 1) rfl (fun _ h => h)
                                  have hS1500 := hS1498.data (dRow 1 (some ⟨g19, 0, none⟩) 0 0 (encIs ([]))) ⟨hc1501, hrow1499⟩
                                  refine ⟨(some ⟨g19, 0, none⟩), 0, ?_, hS1500.fr, ⟨by have := (hS1500.row (i := 0) rfl).1; exact this, ((hS1500.row (i := 0) rfl).2.mono (fun _ hk => ⟨imm_nxt hk, rfl⟩))⟩⟩
                                  exact ret_t2 rfl (ret_b (by exact (show right n = false by rw [(right_con2 (by omega))]; exact decide_eq_false (by rintro ⟨z1, z2⟩; have hq' := hq1487; rw [z1] at hq'; simp only [Bool.true_eq_false, false_or] at hq'; omega)).symm))
                                · skip
                                  have h1502 := or_fl h1486
                                  have h1503 := or_fl h1502
                                  have h1504 := or_fl h1503
                                  have h1505 := or_fl h1504
                                  have h1506 := not_f h1505
                                  have h1507 := or_fr h1504
                                  have h1508 := of_decide_eq_false h1507
                                  have h1509 := or_fr h1503
                                  have h1510 := of_decide_eq_false h1509
                                  have h1511 := or_fr h1502
                                  have h1512 := of_decide_eq_false h1511
                                  have h1513 := or_fr h1486
                                  have h1514 := of_decide_eq_false h1513
                                  have hR1515 := hR1484.setb (d := 192) (b := false) rfl h1486
                                  refine wp_cond_false (hR1515.ev rfl) ?_
                                  refine wp_skip ?_
                                  refine x_then_n (hK1344 _ _ ?_)
                                  refine wp_seq_k (fun K1516 hK1517 => ?_)
                                  refine c_region ?_
                                  refine m_field (j' := 2) sv hR1515 rfl rfl rfl Tryd.underlying32 rfl sz3 rfl rfl (by decide) (fun a1518 hR1519 => ?_)
                                  refine m_load (i := 0) sv hR1519 hS1485 rfl rfl rfl rfl rfl Tryd.underlying3 rfl (by decide) (fun a1520 hR1521 => ?_)
                                  have hn1522 : (n.M) = ((n.M.toNat : Nat) : Int) := by omega
                                  refine m_makeInts (n := n.M.toNat) sv hR1521 hS1485 rfl rfl rfl rfl hn1522 hn1522 Tryd.underlying66 zi3 (by omega) (by decide) (fun a1523 w1524 g1525 hR1526 hS1527 => ?_)
                                  have hl1528 : (List.replicate (n.M.toNat) (0 : Int)).length = n.M.toNat := by simp
                                  refine asg hR1526 (fun a1529 hR1530 => ?_)
                                  refine asg hR1530 (fun a1531 hR1532 => ?_)
                                  refine wpList_nil (x_then_n (hK1517 _ _ ?_))
                                  refine wp_ret ?_
                                  refine x_block_r ?_
                                  refine x_then_r ?_
                                  refine e_ret2 hR1532 rfl rfl rfl rfl ?_
                                  have he1533 : bindL n = List.replicate (n.M.toNat) (0 : Int) := bindL_con (by omega) (by rw [(right_con2 (by omega))]; first | (simp [h1486, h1506, h1508, h1510, h1512, h1514]; done) | (simp [h1486, h1506, h1508, h1510, h1512, h1514]; omega))
                                  rw [he1533]
                                  have hc1537 := own_cap (hS1527.res (i := 2) rfl)
                                  obtain ⟨hS1534, hrow1535⟩ := hS1527.row_data (i := 2) rfl (fun _ h => h)
                                  have hS1536 := hS1534.data (dRow 1 (some ⟨g1525, 0, none⟩) ((List.replicate (n.M.toNat) (0 : Int) : List Int).length) ((List.replicate (n.M.toNat) (0 : Int) : List Int).length) (encIs (List.replicate (n.M.toNat) (0 : Int)))) ⟨hc1537, hrow1535⟩
                                  refine ⟨(some ⟨g1525, 0, none⟩), ((List.replicate (n.M.toNat) (0 : Int) : List Int).length), ?_, hS1536.fr, ⟨by have := (hS1536.row (i := 0) rfl).1; exact this, ((hS1536.row (i := 0) rfl).2.mono (fun _ hk => ⟨imm_nxt hk, rfl⟩))⟩⟩
                                  exact ret_t2 rfl (ret_b (by first | (rw [(right_con2 (by omega))]; done) | (rw [(right_con2 (by omega)), Bool.eq_iff_iff]; simp [and_assoc]; done) | (rw [(right_con2 (by omega))]; simp [h1486, h1506, h1508, h1510, h1512, h1514]; done) | (rw [(right_con2 (by omega))]; simp [h1486, h1506, h1508, h1510, h1512, h1514] <;> omega) | (symm; rw [(right_con2 (by omega))]; have z0 := h1486; have z1 := h1506; have z2 := h1508; have z3 := h1510; have z4 := h1512; have z5 := h1514;  simp; first | omega | (simp_all; done) | (simp_all; omega)) ))
                              · skip
                                have hR1538 := hR1340.setb (d := 167) (b := false) rfl (decide_eq_false h1341)
                                refine wp_cond_false (hR1538.ev rfl) ?_
                                refine wp_seq_k (fun K1539 hK1540 => ?_)
                                refine c_region ?_
                                refine r_eql sv hR1538 rfl rfl rfl rfl (by decide) (fun a1541 hR1542 => ?_)
                                refine asg hR1542 (fun a1543 hR1544 => ?_)
                                refine wpList_nil (x_then_n (hK1540 _ _ ?_))
                                rcases Decidable.em ((n.K) = 27) with h1545 | h1545
                                · skip
                                  have hR1546 := hR1544.setb (d := 197) (b := true) rfl (decide_eq_true h1545)
                                  refine wp_cond_true (hR1546.ev rfl) ?_
                                  refine wp_seq_k (fun K1547 hK1548 => ?_)
                                  refine wp_seq_k (fun K1549 hK1550 => ?_)
                                  refine c_region ?_
                                  refine m_field (j' := 3) sv hR1546 rfl rfl rfl Tryd.underlying32 rfl sz9 rfl rfl (by decide) (fun a1551 hR1552 => ?_)
                                  refine m_load (i := 0) sv hR1552 hS990 rfl rfl rfl rfl rfl Tryd.underlying9 rfl (by decide) (fun a1553 hR1554 => ?_)
                                  have hS1555 : St w0 Z none_ w988 [.box g8 32 [.int .i64 (n.K), .int .i64 (n.N), .int .i64 (n.M), .string n.S], .row (some ⟨g19, 0, none⟩) 0 0 3 1 (encIs ([]))] [] := hS990
                                  refine k_call (xs := [.tmp 200]) se hR1554 rfl rfl rfl (by decide) ok77 (rname_calls _ (imm Z w0 [.box g8 32 [.int .i64 (n.K), .int .i64 (n.N), .int .i64 (n.M), .string n.S], .row (some ⟨g19, 0, none⟩) 0 0 3 1 (encIs ([]))] _) (fun _ h => h.1) n.S (by first | assumption | omega | (simp; done) | (simp; omega))) ?_
                                  rintro e1562 w1557 ⟨rfl, hf1560⟩
                                  have hS1563 := hS1555.below hf1560.below
                                  refine ⟨_, rfl, fun a1556 hR1558 => ?_⟩
                                  refine r_not sv hR1558 rfl rfl rfl (by decide) (fun a1564 hR1565 => ?_)
                                  refine mv hR1565 (fun a1566 hR1567 => ?_)
                                  refine l_join (fun ga gw => Reg ga 228 [(1, .pointer (some ⟨g8, 0, none⟩)), (2, .slice none 0 0), (3, .bool false), (4, .slice (some ⟨g19, 0, none⟩) 0 0), (207, .bool ((!(nameOk n.S)) || (!(decide ((n.N) = 0))))), (1000000, .bool false)] ∧ St w0 Z none_ gw [.box g8 32 [.int .i64 (n.K), .int .i64 (n.N), .int .i64 (n.M), .string n.S], .row (some ⟨g19, 0, none⟩) 0 0 3 1 (encIs ([]))] []) 4 ?_ ?_
                                  · skip
                                    rcases Bool.eq_false_or_eq_true (nameOk n.S) with h1568 | h1568
                                    · skip
                                      have hR1569 := hR1567.setb (d := 203) (b := false) rfl (by rw [h1568]; rfl)
                                      refine m_field (j' := 1) (st_listV_w (wt hR1569)) hR1569 rfl rfl rfl Tryd.underlying32 rfl sz3 rfl rfl (by decide) (fun a1570 hR1571 => ?_)
                                      refine m_load (i := 0) (st_listV_w (wt hR1571)) hR1571 hS1563 rfl rfl rfl rfl rfl Tryd.underlying3 rfl (by decide) (fun a1572 hR1573 => ?_)
                                      refine r_neq (st_listV_w (wt hR1573)) hR1573 rfl rfl rfl rfl (by decide) (fun a1574 hR1575 => ?_)
                                      refine r_pick_f sv hR1575 rfl rfl rfl rfl (by decide) (fun a1576 hR1577 => ?_)
                                      refine wpList_nil ?_
                                      exact x_then_n ⟨(hR1577.sub (rc rfl (rc rfl (rc rfl (rc rfl (rc (rb rfl (by first | rfl | (simp only [h1568, bl]; done) | (simp [h1568]; done) | (simp [h1568]; omega))) (rc rfl rnl))))))), hS1563⟩
                                    · skip
                                      have hR1578 := hR1567.setb (d := 203) (b := true) rfl (by rw [h1568]; rfl)
                                      refine sps hR1578 (wff hR1578) (fun a1579 hR1580 => ?_)
                                      refine sps hR1580 (wff hR1580) (fun a1581 hR1582 => ?_)
                                      refine sps hR1582 (wff hR1582) (fun a1583 hR1584 => ?_)
                                      refine r_pick_t sv hR1584 rfl rfl rfl rfl (by decide) (fun a1585 hR1586 => ?_)
                                      refine wpList_nil ?_
                                      exact x_then_n ⟨(hR1586.sub (rc rfl (rc rfl (rc rfl (rc rfl (rc (rb rfl (by first | rfl | (simp only [h1568, bl]; done) | (simp [h1568]; done) | (simp [h1568]; omega))) (rc rfl rnl))))))), hS1563⟩
                                  rintro a1587 w1588 ⟨hR1589, hS1590⟩
                                  refine mv hR1589 (fun a1591 hR1592 => ?_)
                                  refine l_join (fun ga gw => Reg ga 228 [(1, .pointer (some ⟨g8, 0, none⟩)), (2, .slice none 0 0), (3, .bool false), (4, .slice (some ⟨g19, 0, none⟩) 0 0), (212, .bool (((!(nameOk n.S)) || (!(decide ((n.N) = 0)))) || (decide ((n.M) < 0)))), (1000000, .bool false)] ∧ St w0 Z none_ gw [.box g8 32 [.int .i64 (n.K), .int .i64 (n.N), .int .i64 (n.M), .string n.S], .row (some ⟨g19, 0, none⟩) 0 0 3 1 (encIs ([]))] []) 4 ?_ ?_
                                  · skip
                                    rcases Bool.eq_false_or_eq_true (((!(nameOk n.S)) || (!(decide ((n.N) = 0))))) with h1593 | h1593
                                    · skip
                                      have hq1594 := h1593
                                      try simp only [Bool.or_eq_true, Bool.and_eq_true, Bool.not_eq_true', Bool.not_eq_false', decide_eq_true_eq, decide_eq_false_iff_not, Bool.or_eq_false_iff, Bool.and_eq_false_iff] at hq1594
                                      have hR1595 := hR1592.setb (d := 208) (b := true) rfl h1593
                                      refine sps hR1595 (wff hR1595) (fun a1596 hR1597 => ?_)
                                      refine sps hR1597 (wff hR1597) (fun a1598 hR1599 => ?_)
                                      refine sps hR1599 (wff hR1599) (fun a1600 hR1601 => ?_)
                                      refine r_pick_t sv hR1601 rfl rfl rfl rfl (by decide) (fun a1602 hR1603 => ?_)
                                      refine wpList_nil ?_
                                      exact x_then_n ⟨(hR1603.sub (rc rfl (rc rfl (rc rfl (rc rfl (rc (rb rfl (by first | rfl | (simp only [h1593, bl]; done) | (simp [h1593]; done) | (simp [h1593]; omega))) (rc rfl rnl))))))), hS1590⟩
                                    · skip
                                      have h1604 := or_fl h1593
                                      have h1605 := not_f h1604
                                      have h1606 := or_fr h1593
                                      have h1607 := not_f h1606
                                      have h1608 := of_decide_eq_true h1607
                                      have hR1609 := hR1592.setb (d := 208) (b := false) rfl h1593
                                      refine m_field (j' := 2) (st_listV_w (wt hR1609)) hR1609 rfl rfl rfl Tryd.underlying32 rfl sz3 rfl rfl (by decide) (fun a1610 hR1611 => ?_)
                                      refine m_load (i := 0) (st_listV_w (wt hR1611)) hR1611 hS1590 rfl rfl rfl rfl rfl Tryd.underlying3 rfl (by decide) (fun a1612 hR1613 => ?_)
                                      refine r_lss (st_listV_w (wt hR1613)) hR1613 rfl rfl rfl rfl (by decide) (fun a1614 hR1615 => ?_)
                                      refine r_pick_f sv hR1615 rfl rfl rfl rfl (by decide) (fun a1616 hR1617 => ?_)
                                      refine wpList_nil ?_
                                      exact x_then_n ⟨(hR1617.sub (rc rfl (rc rfl (rc rfl (rc rfl (rc (rb rfl (by first | rfl | (simp only [h1593, bl]; done) | (simp [h1593]; done) | (simp [h1593]; omega))) (rc rfl rnl))))))), hS1590⟩
                                  rintro a1618 w1619 ⟨hR1620, hS1621⟩
                                  refine mv hR1620 (fun a1622 hR1623 => ?_)
                                  refine l_join (fun ga gw => Reg ga 228 [(1, .pointer (some ⟨g8, 0, none⟩)), (2, .slice none 0 0), (3, .bool false), (4, .slice (some ⟨g19, 0, none⟩) 0 0), (217, .bool ((((!(nameOk n.S)) || (!(decide ((n.N) = 0)))) || (decide ((n.M) < 0))) || (decide (6 < (n.M))))), (1000000, .bool false)] ∧ St w0 Z none_ gw [.box g8 32 [.int .i64 (n.K), .int .i64 (n.N), .int .i64 (n.M), .string n.S], .row (some ⟨g19, 0, none⟩) 0 0 3 1 (encIs ([]))] []) 4 ?_ ?_
                                  · skip
                                    rcases Bool.eq_false_or_eq_true ((((!(nameOk n.S)) || (!(decide ((n.N) = 0)))) || (decide ((n.M) < 0)))) with h1624 | h1624
                                    · skip
                                      have hq1625 := h1624
                                      try simp only [Bool.or_eq_true, Bool.and_eq_true, Bool.not_eq_true', Bool.not_eq_false', decide_eq_true_eq, decide_eq_false_iff_not, Bool.or_eq_false_iff, Bool.and_eq_false_iff] at hq1625
                                      have hR1626 := hR1623.setb (d := 213) (b := true) rfl h1624
                                      refine sps hR1626 (wff hR1626) (fun a1627 hR1628 => ?_)
                                      refine sps hR1628 (wff hR1628) (fun a1629 hR1630 => ?_)
                                      refine sps hR1630 (wff hR1630) (fun a1631 hR1632 => ?_)
                                      refine r_pick_t sv hR1632 rfl rfl rfl rfl (by decide) (fun a1633 hR1634 => ?_)
                                      refine wpList_nil ?_
                                      exact x_then_n ⟨(hR1634.sub (rc rfl (rc rfl (rc rfl (rc rfl (rc (rb rfl (by first | rfl | (simp only [h1624, bl]; done) | (simp [h1624]; done) | (simp [h1624]; omega))) (rc rfl rnl))))))), hS1621⟩
                                    · skip
                                      have h1635 := or_fl h1624
                                      have h1636 := or_fl h1635
                                      have h1637 := not_f h1636
                                      have h1638 := or_fr h1635
                                      have h1639 := not_f h1638
                                      have h1640 := of_decide_eq_true h1639
                                      have h1641 := or_fr h1624
                                      have h1642 := of_decide_eq_false h1641
                                      have hR1643 := hR1623.setb (d := 213) (b := false) rfl h1624
                                      refine m_field (j' := 2) (st_listV_w (wt hR1643)) hR1643 rfl rfl rfl Tryd.underlying32 rfl sz3 rfl rfl (by decide) (fun a1644 hR1645 => ?_)
                                      refine m_load (i := 0) (st_listV_w (wt hR1645)) hR1645 hS1621 rfl rfl rfl rfl rfl Tryd.underlying3 rfl (by decide) (fun a1646 hR1647 => ?_)
                                      refine r_gtr (st_listV_w (wt hR1647)) hR1647 rfl rfl rfl rfl (by decide) (fun a1648 hR1649 => ?_)
                                      refine r_pick_f sv hR1649 rfl rfl rfl rfl (by decide) (fun a1650 hR1651 => ?_)
                                      refine wpList_nil ?_
                                      exact x_then_n ⟨(hR1651.sub (rc rfl (rc rfl (rc rfl (rc rfl (rc (rb rfl (by first | rfl | (simp only [h1624, bl]; done) | (simp [h1624]; done) | (simp [h1624]; omega))) (rc rfl rnl))))))), hS1621⟩
                                  rintro a1652 w1653 ⟨hR1654, hS1655⟩
                                  refine wpList_nil (x_then_n (hK1550 _ _ ?_))
                                  rcases Bool.eq_false_or_eq_true (((((!(nameOk n.S)) || (!(decide ((n.N) = 0)))) || (decide ((n.M) < 0))) || (decide (6 < (n.M))))) with h1656 | h1656
                                  · skip
                                    have hq1657 := h1656
                                    try simp only [Bool.or_eq_true, Bool.and_eq_true, Bool.not_eq_true', Bool.not_eq_false', decide_eq_true_eq, decide_eq_false_iff_not, Bool.or_eq_false_iff, Bool.and_eq_false_iff] at hq1657
                                    have hR1658 := hR1654.setb (d := 217) (b := true) rfl h1656
                                    refine wp_cond_true (hR1658.ev rfl) ?_
                                    refine wp_seq_k (fun K1659 hK1660 => ?_)
                                    refine c_region ?_
                                    refine mv hR1658 (fun a1661 hR1662 => ?_)
                                    refine asg hR1662 (fun a1663 hR1664 => ?_)
                                    refine asg hR1664 (fun a1665 hR1666 => ?_)
                                    refine wpList_nil (x_then_n (hK1660 _ _ ?_))
                                    refine wp_ret ?_
                                    refine x_then_r ?_
                                    refine x_block_r ?_
                                    refine x_then_r ?_
                                    refine e_ret2 hR1666 rfl rfl rfl rfl ?_
                                    have he1667 : bindL n = [] := bindL_bad (by omega) (show right n = false by rw [(right_elim2 (by omega))]; exact decide_eq_false (by rintro ⟨z1, z2⟩; have hq' := hq1657; rw [z1] at hq'; simp only [Bool.true_eq_false, false_or] at hq'; omega))
                                    rw [he1667]
                                    have hc1671 := own_cap (hS1655.res (i := 1) rfl)
                                    obtain ⟨hS1668, hrow1669⟩ := hS1655.row_data (i := 1) rfl (fun _ h => h)
                                    have hS1670 := hS1668.data (dRow 1 (some ⟨g19, 0, none⟩) 0 0 (encIs ([]))) ⟨hc1671, hrow1669⟩
                                    refine ⟨(some ⟨g19, 0, none⟩), 0, ?_, hS1670.fr, ⟨by have := (hS1670.row (i := 0) rfl).1; exact this, ((hS1670.row (i := 0) rfl).2.mono (fun _ hk => ⟨imm_nxt hk, rfl⟩))⟩⟩
                                    exact ret_t2 rfl (ret_b (by exact (show right n = false by rw [(right_elim2 (by omega))]; exact decide_eq_false (by rintro ⟨z1, z2⟩; have hq' := hq1657; rw [z1] at hq'; simp only [Bool.true_eq_false, false_or] at hq'; omega)).symm))
                                  · skip
                                    have h1672 := or_fl h1656
                                    have h1673 := or_fl h1672
                                    have h1674 := or_fl h1673
                                    have h1675 := not_f h1674
                                    have h1676 := or_fr h1673
                                    have h1677 := not_f h1676
                                    have h1678 := of_decide_eq_true h1677
                                    have h1679 := or_fr h1672
                                    have h1680 := of_decide_eq_false h1679
                                    have h1681 := or_fr h1656
                                    have h1682 := of_decide_eq_false h1681
                                    have hR1683 := hR1654.setb (d := 217) (b := false) rfl h1656
                                    refine wp_cond_false (hR1683.ev rfl) ?_
                                    refine wp_skip ?_
                                    refine x_then_n (hK1548 _ _ ?_)
                                    refine wp_seq_k (fun K1684 hK1685 => ?_)
                                    refine c_region ?_
                                    refine mv hR1683 (fun a1686 hR1687 => ?_)
                                    refine m_buildSlice (ps := [(0, .const (.int .i64 1))]) (cs := [.int .i64 1]) sv hR1687 hS1655 rfl rfl rfl Tryd.underlying66 zi3 rfl rfl (by kernel_rfl) rfl (by decide) (fun a1688 w1689 g1690 hR1691 hS1692 => ?_)
                                    refine m_appendF (f := encI) (i := 1) ([]) ([1]) sv hR1691 hS1692 rfl rfl rfl rfl rfl encI_len (encI_one _) Tryd.underlying66 zi3 rfl rfl (own_lnews (f := encI) (hS1692.res (i := 2) rfl)) rfl (by first | omega | (simp only [List.length_cons, List.length_nil]; omega)) (by decide) (fun a1693 w1694 A1695 c1696 hc1697 hR1698 hS1699 => ?_)
                                    have hl1701 : (([]) ++ ([1]) : List Int).length = 1 := by first | (simp only [List.length_append, List.length_take, List.length_cons, List.length_nil]; done) | (simp only [List.length_append, List.length_take, List.length_cons, List.length_nil]; omega)
                                    have hS1702 := hS1699.erase 2
                                    refine asg hR1698 (fun a1703 hR1704 => ?_)
                                    refine wpList_nil (x_then_n (hK1685 _ _ ?_))
                                    refine wp_seq_k (fun K1705 hK1706 => ?_)
                                    refine c_region ?_
                                    refine mv hR1704 (fun a1707 hR1708 => ?_)
                                    refine m_field (j' := 2) sv hR1708 rfl rfl rfl Tryd.underlying32 rfl sz3 rfl rfl (by decide) (fun a1709 hR1710 => ?_)
                                    refine m_load (i := 0) sv hR1710 hS1702 rfl rfl rfl rfl rfl Tryd.underlying3 rfl (by decide) (fun a1711 hR1712 => ?_)
                                    refine r_add (z := (n.M + 1)) sv hR1712 rfl rfl rfl rfl (by decide) (by omega) (by omega) (by omega) (fun a1713 hR1714 => ?_)
                                    have hn1715 : (n.M + 1) = ((n.M.toNat + 1 : Nat) : Int) := by omega
                                    refine m_appendZ (i := 1) (([]) ++ ([1])) (n.M.toNat + 1) sv hR1714 hS1702 rfl rfl rfl rfl rfl hn1715 (by omega) (by simp) (by simp; omega) Tryd.underlying66 Tryd.underlying3 zi3 (by decide) (fun a1716 w1717 A1718 c1719 hc1720 hR1721 hS1722 => ?_)
                                    refine asg hR1721 (fun a1723 hR1724 => ?_)
                                    refine asg hR1724 (fun a1725 hR1726 => ?_)
                                    refine wpList_nil (x_then_n (hK1706 _ _ ?_))
                                    refine wp_ret ?_
                                    refine x_block_r ?_
                                    refine x_then_r ?_
                                    refine e_ret2 hR1726 rfl rfl rfl rfl ?_
                                    have he1727 : bindL n = (([]) ++ ([1])) ++ List.replicate (n.M.toNat + 1) 0 := bindL_elim (by omega) (by rw [(right_elim2 (by omega))]; first | (simp [h1656, h1675, h1678, h1680, h1682]; done) | (simp [h1656, h1675, h1678, h1680, h1682]; omega))
                                    rw [he1727]
                                    have hc1731 := own_cap (hS1722.res (i := 1) rfl)
                                    obtain ⟨hS1728, hrow1729⟩ := hS1722.row_data (i := 1) rfl (fun _ h => h)
                                    have hS1730 := hS1728.data (dRow 1 A1718 (((([]) ++ ([1])) ++ List.replicate (n.M.toNat + 1) 0 : List Int).length) c1719 (encIs ((([]) ++ ([1])) ++ List.replicate (n.M.toNat + 1) 0))) ⟨hc1731, hrow1729⟩
                                    refine ⟨A1718, c1719, ?_, hS1730.fr, ⟨by have := (hS1730.row (i := 0) rfl).1; exact this, ((hS1730.row (i := 0) rfl).2.mono (fun _ hk => ⟨imm_nxt hk, rfl⟩))⟩⟩
                                    exact ret_t2 rfl (ret_b (by first | (rw [(right_elim2 (by omega))]; done) | (rw [(right_elim2 (by omega)), Bool.eq_iff_iff]; simp [and_assoc]; done) | (rw [(right_elim2 (by omega))]; simp [h1656, h1675, h1678, h1680, h1682]; done) | (rw [(right_elim2 (by omega))]; simp [h1656, h1675, h1678, h1680, h1682] <;> omega) | (symm; rw [(right_elim2 (by omega))]; have z0 := h1656; have z1 := h1675; have z2 := h1678; have z3 := h1680; have z4 := h1682;  simp; first | omega | (simp_all; done) | (simp_all; omega)) ))
                                · skip
                                  have hR1732 := hR1544.setb (d := 197) (b := false) rfl (decide_eq_false h1545)
                                  refine wp_cond_false (hR1732.ev rfl) ?_
                                  refine wp_skip ?_
                                  refine x_block_n ?_
                                  refine x_then_n (hK25 _ _ ?_)
                                  refine wp_seq_k (fun K1733 hK1734 => ?_)
                                  refine c_region ?_
                                  refine mv hR1732 (fun a1735 hR1736 => ?_)
                                  refine asg hR1736 (fun a1737 hR1738 => ?_)
                                  refine asg hR1738 (fun a1739 hR1740 => ?_)
                                  refine wpList_nil (x_then_n (hK1734 _ _ ?_))
                                  refine wp_ret ?_
                                  refine e_ret2 hR1740 rfl rfl rfl rfl ?_
                                  have he1741 : bindL n = [] := bindL_none (by omega)
                                  rw [he1741]
                                  have hc1745 := own_cap (hS990.res (i := 1) rfl)
                                  obtain ⟨hS1742, hrow1743⟩ := hS990.row_data (i := 1) rfl (fun _ h => h)
                                  have hS1744 := hS1742.data (dRow 1 (some ⟨g19, 0, none⟩) 0 0 (encIs ([]))) ⟨hc1745, hrow1743⟩
                                  refine ⟨(some ⟨g19, 0, none⟩), 0, ?_, hS1744.fr, ⟨by have := (hS1744.row (i := 0) rfl).1; exact this, ((hS1744.row (i := 0) rfl).2.mono (fun _ hk => ⟨imm_nxt hk, rfl⟩))⟩⟩
                                  exact ret_t2 rfl (ret_b (by first | (rw [(right_bad (by omega))]; done) | (rw [(right_bad (by omega)), Bool.eq_iff_iff]; simp [and_assoc]; done) | (rw [(right_bad (by omega))]; simp []; done) | (rw [(right_bad (by omega))]; simp [] <;> omega) | (symm; rw [(right_bad (by omega))];  simp; first | omega | (simp_all; done) | (simp_all; omega)) ))
end Go.Proofs.YtobgdeffhdefeaaDoor
