import Derived.Test.YtobgdeffhdefeaaDoorZxe
/- Contracts of functions, one theorem each: what the call returns, and that nothing old is changed. Printed by gen.py. -/
namespace Go.Proofs.YtobgdeffhdefeaaDoor
open Go Go.RowKit
set_option linter.unusedSimpArgs false
set_option linter.unusedVariables false

set_option maxRecDepth 100000 in
set_option maxHeartbeats 1000000 in
theorem rput_calls_rec (rn : Nat) : ∀ (w0 : World) (Z : Nat → Prop) (hZ : ∀ k, Z k → k < w0.heap.size) (tA : Option Addr) (tc : Nat) (t : List Nd) (k : Int) (u : Int) (pA : Option Addr) (pc : Nat) (p : List Sl) (ht : (dRow 4 tA t.length tc (encNs t)).φ w0 Z) (hp : (dRow 1 pA p.length pc (encSs p)).φ w0 Z) (hps : (dAll p).φ w0 Z) (hl : t.length ≤ 1000000) (hsm : sml t) (hb : measB t = true) (hu0 : 0 ≤ u) (hub : u + 2 * t.length ≤ 10000000) (hl4 : t.length ≤ 4000) (hp1 : p.length ≤ 1000) (hp2 : ∀ x ∈ lsts p, x.length ≤ 4000) (hp3 : ∀ x ∈ lsts p, sml x) (hk0 : 0 ≤ k) (hk1 : k ≤ 1000000) (hrn : t.length = rn),
    Calls Tryd.prog 76 [.slice tA t.length tc, .int .i64 k, .int .i64 u, .slice pA p.length pc].toArray w0 (fun e w' => ∃ (rA0 : Option Addr) (rc0 : Nat), e = .returned (.tuple #[.slice rA0 (trL (puV k (lsts p)) t u).length rc0, .int .i64 (trEL (puV k (lsts p)) t u)]) ∧ Fr none_ w0 w' ∧ (dRow 4 rA0 ((trL (puV k (lsts p)) t u).length) rc0 (encNs (trL (puV k (lsts p)) t u))).φ w' (nxt Z w0 w')) := by
  induction rn using Nat.strongRecOn
  rename_i rn ih
  intro w0 Z hZ tA tc t k u pA pc p ht hp hps hl hsm hb hu0 hub hl4 hp1 hp2 hp3 hk0 hk1 hrn
  have hstart : ∀ k, Z k → imm Z w0 [] w0 k ∧ w0.heap[k]? = w0.heap[k]? := fun k hk => ⟨⟨hZ k hk, fun _ => hk, fun _ h => by cases h⟩, rfl⟩
  have hS3 : St w0 Z none_ w0 [] [dRow 4 tA t.length tc (encNs t), dRow 1 pA p.length pc (encSs p), dAll p] := St.start w0 Z none_ _ (by
    intro d hd
    simp only [List.mem_cons, List.not_mem_nil, or_false] at hd
    rcases hd with rfl | rfl | rfl
    · exact Dat.mono _ _ _ _ _ (Nat.le_refl _) ht hstart
    · exact Dat.mono _ _ _ _ _ (Nat.le_refl _) hp hstart
    · exact Dat.mono _ _ _ _ _ (Nat.le_refl _) hps hstart
    )
  have hp0 := meas_pos hb
  have hrt := right_at hb (show t.length - 1 < t.length by omega)
  have hbl := bindL_right hrt
  have hbm := bindL_many hrt
  have hpm := ptL_length hb
  have hpl4 := hp2
  refine c_enter Tryd.func76 rfl Tryd.ntmps76 rfl (fun a1 hR2 => ?_)
  refine wp_seq_k (fun K4 hK5 => ?_)
  refine c_region ?_
  refine asg hR2 (fun a6 hR7 => ?_)
  refine asg hR7 (fun a8 hR9 => ?_)
  refine wpList_nil (x_then_n (hK5 _ _ ?_))
  refine wp_seq_k (fun K10 hK11 => ?_)
  refine c_region ?_
  refine mv hR9 (fun a12 hR13 => ?_)
  have hS14 : St w0 Z none_ w0 [] [dRow 4 tA t.length tc (encNs t), dRow 1 pA p.length pc (encSs p), dAll p] := hS3
  refine k_call (xs := [.tmp 19]) se hR13 rfl rfl rfl (by decide) ok23 (rroot_calls _ (imm Z w0 [] _) (fun _ h => h.1) tA tc t (hS14.get (i := 0) rfl) (by first | assumption | omega | (simp; done) | (simp; omega)) (by first | assumption | omega | (simp; done) | (simp; omega))) ?_
  rintro e21 w16 ⟨rfl, hf19⟩
  have hS22 := hS14.below hf19.below
  refine ⟨_, rfl, fun a15 hR17 => ?_⟩
  refine m_alloc (cs := [.int .i64 0, .int .i64 0, .int .i64 0, .string (⟨#[]⟩ : ByteArray)]) sv hR17 hS22 rfl rfl ze32 rfl (by decide) (fun a23 w24 g25 hR26 hS27 => ?_)
  refine m_store (i := 0) (cs' := [.int .i64 (((nth t (t.length - 1)).K)), .int .i64 (((nth t (t.length - 1)).N)), .int .i64 (((nth t (t.length - 1)).M)), .string ((nth t (t.length - 1)).S)]) se hR26 hS27 rfl rfl rfl rfl rfl sz32 rfl rfl rfl (fun a28 w29 hR30 hS31 => ?_)
  refine wpList_nil (x_then_n (hK11 _ _ ?_))
  refine wp_seq_k (fun K32 hK33 => ?_)
  refine wp_seq_k (fun K34 hK35 => ?_)
  refine c_region ?_
  refine m_field (j' := 0) sv hR30 rfl rfl rfl Tryd.underlying32 rfl sz3 rfl rfl (by decide) (fun a36 hR37 => ?_)
  refine m_load (i := 0) sv hR37 hS31 rfl rfl rfl rfl rfl Tryd.underlying3 rfl (by decide) (fun a38 hR39 => ?_)
  refine r_eql sv hR39 rfl rfl rfl rfl (by decide) (fun a40 hR41 => ?_)
  refine wpList_nil (x_then_n (hK35 _ _ ?_))
  rcases Decidable.em ((((nth t (t.length - 1)).K)) = 0) with h42 | h42
  · skip
    obtain ⟨hN0, hN1⟩ := var_at hb h42
    have hR43 := hR41.setb (d := 23) (b := true) rfl (decide_eq_true h42)
    refine wp_cond_true (hR43.ev rfl) ?_
    refine wp_seq_k (fun K44 hK45 => ?_)
    refine c_region ?_
    refine m_field (j' := 1) sv hR43 rfl rfl rfl Tryd.underlying32 rfl sz3 rfl rfl (by decide) (fun a46 hR47 => ?_)
    refine m_load (i := 0) sv hR47 hS31 rfl rfl rfl rfl rfl Tryd.underlying3 rfl (by decide) (fun a48 hR49 => ?_)
    refine mv hR49 (fun a50 hR51 => ?_)
    refine r_sub (z := (((nth t (t.length - 1)).N) - u)) sv hR51 rfl rfl rfl rfl (by decide) (by omega) (by omega) (by omega) (fun a52 hR53 => ?_)
    refine asg hR53 (fun a54 hR55 => ?_)
    refine wpList_nil (x_then_n (hK45 _ _ ?_))
    refine wp_seq_k (fun K56 hK57 => ?_)
    refine wp_seq_k (fun K58 hK59 => ?_)
    refine c_region ?_
    refine mv hR55 (fun a60 hR61 => ?_)
    refine mv hR61 (fun a62 hR63 => ?_)
    refine r_lss sv hR63 rfl rfl rfl rfl (by decide) (fun a64 hR65 => ?_)
    refine wpList_nil (x_then_n (hK59 _ _ ?_))
    rcases Decidable.em ((((nth t (t.length - 1)).N) - u) < (k)) with h66 | h66
    · skip
      have hR67 := hR65.setb (d := 30) (b := true) rfl (decide_eq_true h66)
      refine wp_cond_true (hR67.ev rfl) ?_
      refine wp_seq_k (fun K68 hK69 => ?_)
      refine c_region ?_
      refine mv hR67 (fun a70 hR71 => ?_)
      refine asg hR71 (fun a72 hR73 => ?_)
      refine asg hR73 (fun a74 hR75 => ?_)
      refine wpList_nil (x_then_n (hK69 _ _ ?_))
      refine wp_ret ?_
      refine x_then_r ?_
      refine x_then_r ?_
      refine e_ret2 hR75 rfl rfl rfl rfl ?_
      have he76 : trL (puV k (lsts p)) t u = t := (pu_lt hb (by omega) (by omega)).2
      rw [he76]
      refine ⟨tA, tc, ?_, hS31.fr, ⟨by have := (hS31.row (i := 0) rfl).1; exact this, ((hS31.row (i := 0) rfl).2.mono (fun _ hk => ⟨imm_nxt hk, rfl⟩))⟩⟩
      exact ret_t2 rfl (ret_i (by first | (rw [(pu_lt hb (by omega) (by omega)).1]; done) | (rw [(pu_in hb (by omega) (by omega) (by rw [lsts_len]; omega)).1, lsts_nth]; rfl) | (rw [(pu_ge hb (by omega) (by omega) (by rw [lsts_len]; omega)).1]; done) | (rw [hs1, hpe, hbl]; done) | (rw [hd1]; done)))
    · skip
      have hR77 := hR65.setb (d := 30) (b := false) rfl (decide_eq_false h66)
      refine wp_cond_false (hR77.ev rfl) ?_
      refine wp_skip ?_
      refine x_then_n (hK57 _ _ ?_)
      refine wp_seq_k (fun K78 hK79 => ?_)
      refine wp_seq_k (fun K80 hK81 => ?_)
      refine c_region ?_
      refine mv hR77 (fun a82 hR83 => ?_)
      refine mv hR83 (fun a84 hR85 => ?_)
      refine mv hR85 (fun a86 hR87 => ?_)
      refine r_len sv hR87 rfl rfl rfl rfl Tryd.underlying39 (by decide) (fun a88 hR89 => ?_)
      refine r_add (z := (k + ((p.length : Nat) : Int))) sv hR89 rfl rfl rfl rfl (by decide) (by omega) (by omega) (by omega) (fun a90 hR91 => ?_)
      refine r_lss sv hR91 rfl rfl rfl rfl (by decide) (fun a92 hR93 => ?_)
      refine wpList_nil (x_then_n (hK81 _ _ ?_))
      rcases Decidable.em ((((nth t (t.length - 1)).N) - u) < (k + ((p.length : Nat) : Int))) with h94 | h94
      · skip
        have hR95 := hR93.setb (d := 37) (b := true) rfl (decide_eq_true h94)
        refine wp_cond_true (hR95.ev rfl) ?_
        refine wp_seq_k (fun K96 hK97 => ?_)
        refine c_region ?_
        refine mv hR95 (fun a98 hR99 => ?_)
        refine mv hR99 (fun a100 hR101 => ?_)
        refine mv hR101 (fun a102 hR103 => ?_)
        refine r_sub (z := (((nth t (t.length - 1)).N) - u - k)) sv hR103 rfl rfl rfl rfl (by decide) (by omega) (by omega) (by omega) (fun a104 hR105 => ?_)
        refine m_index (i := ((((nth t (t.length - 1)).N) - u - k)).toNat) (j := (((((nth t (t.length - 1)).N) - u - k)).toNat) * 1) sv hR105 rfl rfl rfl rfl Tryd.underlying39 sz22 (by omega) (by omega) (ss_elem (t := p) (k := ((((nth t (t.length - 1)).N) - u - k)).toNat) (hS31.row (i := 1) rfl).2 (by omega)).some_ rfl (by decide) (fun a106 hR107 => ?_)
        refine m_loadE sv hR107 rfl rfl rfl 0 ((((((nth t (t.length - 1)).N) - u - k)).toNat) * 1) (ss_elem (t := p) (k := ((((nth t (t.length - 1)).N) - u - k)).toNat) (hS31.row (i := 1) rfl).2 (by omega)) rfl rfl Tryd.underlying22 rfl (by decide) (fun a108 hR109 => ?_)
        have hS110 := hS31.data (dRow 4 ((nthS p (((((nth t (t.length - 1)).N) - u - k)).toNat)).1) ((nthS p (((((nth t (t.length - 1)).N) - u - k)).toNat)).2.2.length) ((nthS p (((((nth t (t.length - 1)).N) - u - k)).toNat)).2.1) (encNs ((nthS p (((((nth t (t.length - 1)).N) - u - k)).toNat)).2.2))) (all_at (t := p) (k := ((((nth t (t.length - 1)).N) - u - k)).toNat) (hS31.get (i := 2) rfl) (by omega))
        refine mv hR109 (fun a111 hR112 => ?_)
        refine mv hR112 (fun a113 hR114 => ?_)
        refine r_add (z := (u + k)) sv hR114 rfl rfl rfl rfl (by decide) (by omega) (by omega) (by omega) (fun a115 hR116 => ?_)
        have hS117 : St w0 Z none_ w29 [.box g25 32 [.int .i64 (((nth t (t.length - 1)).K)), .int .i64 (((nth t (t.length - 1)).N)), .int .i64 (((nth t (t.length - 1)).M)), .string ((nth t (t.length - 1)).S)]] [dRow 4 tA t.length tc (encNs t), dRow 1 pA p.length pc (encSs p), dAll p, dRow 4 ((nthS p (((((nth t (t.length - 1)).N) - u - k)).toNat)).1) ((nthS p (((((nth t (t.length - 1)).N) - u - k)).toNat)).2.2.length) ((nthS p (((((nth t (t.length - 1)).N) - u - k)).toNat)).2.1) (encNs ((nthS p (((((nth t (t.length - 1)).N) - u - k)).toNat)).2.2))] := hS110
        refine k_call (xs := [.tmp 43, .tmp 46, .const (.int .i64 0)]) se hR116 rfl rfl rfl (by decide) ok24 (rShift_calls _ (imm Z w0 [.box g25 32 [.int .i64 (((nth t (t.length - 1)).K)), .int .i64 (((nth t (t.length - 1)).N)), .int .i64 (((nth t (t.length - 1)).M)), .string ((nth t (t.length - 1)).S)]] _) (fun _ h => h.1) ((nthS p (((((nth t (t.length - 1)).N) - u - k)).toNat)).1) ((nthS p (((((nth t (t.length - 1)).N) - u - k)).toNat)).2.1) ((nthS p (((((nth t (t.length - 1)).N) - u - k)).toNat)).2.2) (u + k) 0 (hS117.get (i := 3) rfl) (Nat.le_trans (hp2 _ (by rw [lsts_nth]; exact nthL_mem (by rw [lsts_len]; omega))) (by omega)) (hp3 _ (by rw [lsts_nth]; exact nthL_mem (by rw [lsts_len]; omega)))) ?_
        rintro e127 w119 ⟨A123, c124, rfl, hf122, hd125⟩
        have hS128 := hS117.below hf122.below
        have hS129 := hS128.data (dRow 4 A123 ((sfA ((nthS p (((((nth t (t.length - 1)).N) - u - k)).toNat)).2.2) (u + k) 0).length) c124 (encNs (sfA ((nthS p (((((nth t (t.length - 1)).N) - u - k)).toNat)).2.2) (u + k) 0))) ⟨hd125.1, hd125.2.mono (fun _ hk => ⟨nxt_imm hS117 hk, rfl⟩)⟩
        refine ⟨_, rfl, fun a118 hR120 => ?_⟩
        refine r_extract sv hR120 rfl rfl rfl rfl (by decide) (fun a130 hR131 => ?_)
        refine r_extract sv hR131 rfl rfl rfl rfl (by decide) (fun a132 hR133 => ?_)
        refine asg hR133 (fun a134 hR135 => ?_)
        refine asg hR135 (fun a136 hR137 => ?_)
        refine wpList_nil (x_then_n (hK97 _ _ ?_))
        refine wp_ret ?_
        refine x_then_r ?_
        refine x_then_r ?_
        refine e_ret2 hR137 rfl rfl rfl rfl ?_
        have he138 : trL (puV k (lsts p)) t u = sfA ((nthS p (((((nth t (t.length - 1)).N) - u - k)).toNat)).2.2) (u + k) 0 := by rw [(pu_in hb (by omega) (by omega) (by rw [lsts_len]; omega)).2, lsts_nth]; rfl
        rw [he138]
        refine ⟨A123, c124, ?_, hS129.fr, ⟨by have := (hS129.row (i := 4) rfl).1; exact this, ((hS129.row (i := 4) rfl).2.mono (fun _ hk => ⟨imm_nxt hk, rfl⟩))⟩⟩
        exact ret_t2 rfl (ret_i (by first | (rw [(pu_lt hb (by omega) (by omega)).1]; done) | (rw [(pu_in hb (by omega) (by omega) (by rw [lsts_len]; omega)).1, lsts_nth]; rfl) | (rw [(pu_ge hb (by omega) (by omega) (by rw [lsts_len]; omega)).1]; done) | (rw [hs1, hpe, hbl]; done) | (rw [hd1]; done)))
      · skip
        have hR139 := hR93.setb (d := 37) (b := false) rfl (decide_eq_false h94)
        refine wp_cond_false (hR139.ev rfl) ?_
        refine wp_skip ?_
        refine x_then_n (hK79 _ _ ?_)
        refine wp_seq_k (fun K140 hK141 => ?_)
        refine c_region ?_
        refine m_field (j' := 1) sv hR139 rfl rfl rfl Tryd.underlying32 rfl sz3 rfl rfl (by decide) (fun a142 hR143 => ?_)
        refine m_load (i := 0) sv hR143 hS31 rfl rfl rfl rfl rfl Tryd.underlying3 rfl (by decide) (fun a144 hR145 => ?_)
        refine mv hR145 (fun a146 hR147 => ?_)
        refine r_len sv hR147 rfl rfl rfl rfl Tryd.underlying39 (by decide) (fun a148 hR149 => ?_)
        refine r_sub (z := (((nth t (t.length - 1)).N) - ((p.length : Nat) : Int))) sv hR149 rfl rfl rfl rfl (by decide) (by omega) (by omega) (by omega) (fun a150 hR151 => ?_)
        refine m_build (ps := [(0, .const (.int .i64 0)), (1, .tmp 54)]) (v := .agg #[.int .i64 0, .int .i64 (((nth t (t.length - 1)).N) - ((p.length : Nat) : Int)), .int .i64 0, .string (⟨#[]⟩ : ByteArray)]) sv hR151 rfl rfl rfl (fun _ => by kernel_rfl) (by decide) (fun a152 hR153 => ?_)
        refine m_buildSlice (ps := [(0, .tmp 55)]) (cs := [.int .i64 0, .int .i64 (((nth t (t.length - 1)).N) - ((p.length : Nat) : Int)), .int .i64 0, .string (⟨#[]⟩ : ByteArray)]) sv hR153 hS31 rfl rfl rfl Tryd.underlying22 zi32 rfl rfl (by kernel_rfl) rfl (by decide) (fun a154 w155 g156 hR157 hS158 => ?_)
        refine asg hR157 (fun a159 hR160 => ?_)
        refine asg hR160 (fun a161 hR162 => ?_)
        refine wpList_nil (x_then_n (hK141 _ _ ?_))
        refine wp_ret ?_
        refine x_then_r ?_
        refine e_ret2 hR162 rfl rfl rfl rfl ?_
        have he163 : trL (puV k (lsts p)) t u = [(⟨0, (((nth t (t.length - 1)).N) - ((p.length : Nat) : Int)), 0, (⟨#[]⟩ : ByteArray)⟩ : Nd)] := by rw [(pu_ge hb (by omega) (by omega) (by rw [lsts_len]; omega)).2, lsts_len]
        rw [he163]
        have hc167 := own_cap (hS158.res (i := 1) rfl)
        obtain ⟨hS164, hrow165⟩ := hS158.row_data (i := 1) rfl (fun _ h => h)
        have hS166 := hS164.data (dRow 4 (some ⟨g156, 0, none⟩) 1 1 (encNs ([(⟨0, (((nth t (t.length - 1)).N) - ((p.length : Nat) : Int)), 0, (⟨#[]⟩ : ByteArray)⟩ : Nd)]))) ⟨hc167, hrow165⟩
        refine ⟨(some ⟨g156, 0, none⟩), 1, ?_, hS166.fr, ⟨by have := (hS166.row (i := 3) rfl).1; exact this, ((hS166.row (i := 3) rfl).2.mono (fun _ hk => ⟨imm_nxt hk, rfl⟩))⟩⟩
        exact ret_t2 rfl (ret_i (by first | (rw [(pu_lt hb (by omega) (by omega)).1]; done) | (rw [(pu_in hb (by omega) (by omega) (by rw [lsts_len]; omega)).1, lsts_nth]; rfl) | (rw [(pu_ge hb (by omega) (by omega) (by rw [lsts_len]; omega)).1]; done) | (rw [hs1, hpe, hbl]; done) | (rw [hd1]; done)))
  · skip
    have hR168 := hR41.setb (d := 23) (b := false) rfl (decide_eq_false h42)
    refine wp_cond_false (hR168.ev rfl) ?_
    refine wp_skip ?_
    refine x_then_n (hK33 _ _ ?_)
    refine wp_seq_k (fun K169 hK170 => ?_)
    refine c_region ?_
    refine m_loadN (i := 0) (vs := [.int .i64 (((nth t (t.length - 1)).K)), .int .i64 (((nth t (t.length - 1)).N)), .int .i64 (((nth t (t.length - 1)).M)), .string ((nth t (t.length - 1)).S)]) sv hR168 hS31 rfl rfl rfl rfl rfl Tryd.underlying32 rfl sz32 (by decide) (fun a171 hR172 => ?_)
    have hS173 : St w0 Z none_ w29 [.box g25 32 [.int .i64 (((nth t (t.length - 1)).K)), .int .i64 (((nth t (t.length - 1)).N)), .int .i64 (((nth t (t.length - 1)).M)), .string ((nth t (t.length - 1)).S)]] [dRow 4 tA t.length tc (encNs t), dRow 1 pA p.length pc (encSs p), dAll p] := hS31
    refine k_call (xs := [.tmp 58]) se hR172 rfl rfl rfl (by decide) ok56 (rbinds_calls _ (imm Z w0 [.box g25 32 [.int .i64 (((nth t (t.length - 1)).K)), .int .i64 (((nth t (t.length - 1)).N)), .int .i64 (((nth t (t.length - 1)).M)), .string ((nth t (t.length - 1)).S)]] _) (fun _ h => h.1) (nth t (t.length - 1)) (hsm _ (by omega))) ?_
    rintro e183 w175 ⟨A179, c180, rfl, hf178, hd181⟩
    have hS184 := hS173.below hf178.below
    have hS185 := hS184.data (dRow 1 A179 ((bindL (nth t (t.length - 1))).length) c180 (encIs (bindL (nth t (t.length - 1))))) ⟨hd181.1, hd181.2.mono (fun _ hk => ⟨nxt_imm hS173 hk, rfl⟩)⟩
    refine ⟨_, rfl, fun a174 hR176 => ?_⟩
    refine mv hR176 (fun a186 hR187 => ?_)
    refine r_extract sv hR187 rfl rfl rfl rfl (by decide) (fun a188 hR189 => ?_)
    refine r_extract sv hR189 rfl rfl rfl rfl (by decide) (fun a190 hR191 => ?_)
    refine asg hR191 (fun a192 hR193 => ?_)
    refine asg hR193 (fun a194 hR195 => ?_)
    refine wpList_nil (x_then_n (hK170 _ _ ?_))
    refine wp_seq_k (fun K196 hK197 => ?_)
    refine c_region ?_
    refine mv hR195 (fun a198 hR199 => ?_)
    have hS200 : St w0 Z none_ w175 [.box g25 32 [.int .i64 (((nth t (t.length - 1)).K)), .int .i64 (((nth t (t.length - 1)).N)), .int .i64 (((nth t (t.length - 1)).M)), .string ((nth t (t.length - 1)).S)]] [dRow 4 tA t.length tc (encNs t), dRow 1 pA p.length pc (encSs p), dAll p, dRow 1 A179 ((bindL (nth t (t.length - 1))).length) c180 (encIs (bindL (nth t (t.length - 1))))] := hS185
    refine k_call (xs := [.tmp 62]) se hR199 rfl rfl rfl (by decide) ok32 (rparts_calls _ (imm Z w0 [.box g25 32 [.int .i64 (((nth t (t.length - 1)).K)), .int .i64 (((nth t (t.length - 1)).N)), .int .i64 (((nth t (t.length - 1)).M)), .string ((nth t (t.length - 1)).S)]] _) (fun _ h => h.1) tA tc t (hS200.get (i := 0) rfl) (by first | assumption | omega | (simp; done) | (simp; omega)) (by first | assumption | omega | (simp; done) | (simp; omega)) (by first | assumption | omega | (simp; done) | (simp; omega))) ?_
    rintro e213 w202 ⟨A206, c207, rL208, rfl, hf205, hd209, hd210, hL211⟩
    have hS214 := hS200.below hf205.below
    have hS215 := hS214.data (dRow 1 A206 rL208.length c207 (encSs rL208)) ⟨hd209.1, hd209.2.mono (fun _ hk => ⟨nxt_imm hS200 hk, rfl⟩)⟩
    have hS216 := hS215.data (dAll rL208) ((dAll _).mono _ _ _ _ (Nat.le_refl _) hd210 (fun _ hk => ⟨nxt_imm hS200 hk, rfl⟩))
    refine ⟨_, rfl, fun a201 hR203 => ?_⟩
    refine asg hR203 (fun a217 hR218 => ?_)
    refine wpList_nil (x_then_n (hK197 _ _ ?_))
    refine wp_seq_k (fun K219 hK220 => ?_)
    refine c_region ?_
    have hS221 := hS216.data (dAll []) all_nil
    refine m_buildSlice (ps := []) (cs := []) sv hR218 hS221 rfl rfl rfl Tryd.underlying39 zi22 rfl rfl (by kernel_rfl) rfl (by decide) (fun a222 w223 g224 hR225 hS226 => ?_)
    refine asg hR225 (fun a227 hR228 => ?_)
    refine wpList_nil (x_then_n (hK220 _ _ ?_))
    refine wp_seq_k (fun K229 hK230 => ?_)
    refine wp_seq_k (fun K231 hK232 => ?_)
    refine c_region ?_
    refine asg hR228 (fun a233 hR234 => ?_)
    refine wpList_nil (x_then_n (hK232 _ _ ?_))
    refine wp_block ?_
    refine wp_loop_ghost (fun gn ga gw => ∃ j : Nat, ∃ Ls : List Sl, ∃ Ao : Option Addr, ∃ co : Nat, (Reg ga 97 [(1000000, .bool false), (1, .int .i64 (k)), (2, .int .i64 (u)), (3, .slice pA p.length pc), (10, .pointer (some ⟨g25, 0, none⟩)), (12, .slice A179 ((bindL (nth t (t.length - 1))).length) c180), (14, .slice A206 rL208.length c207), (16, .int .i64 ((j : Nat) : Int)), (15, .slice Ao ((Ls).length) co)]) ∧ (St w0 Z none_ gw [.box g25 32 [.int .i64 (((nth t (t.length - 1)).K)), .int .i64 (((nth t (t.length - 1)).N)), .int .i64 (((nth t (t.length - 1)).M)), .string ((nth t (t.length - 1)).S)], .row Ao ((Ls).length) co 22 1 (encSs Ls)] [dRow 4 tA t.length tc (encNs t), dRow 1 pA p.length pc (encSs p), dAll p, dRow 1 A179 ((bindL (nth t (t.length - 1))).length) c180 (encIs (bindL (nth t (t.length - 1)))), dRow 1 A206 rL208.length c207 (encSs rL208), dAll rL208, dAll Ls]) ∧ (j ≤ rL208.length) ∧ (lsts Ls = trTP (puV k (lsts p)) t u j) ∧ (trEP (puV k (lsts p)) t u j = 0) ∧ (rL208.length - j) = gn) _ ⟨0, [], (some ⟨g224, 0, none⟩), 0, (hR234.sub (rc rfl (rc rfl (rc rfl (rc rfl (rc rfl (rc rfl (rc rfl (rc rfl (rc rfl rnl)))))))))), hS226, by omega, by rw [(tr_zero _ _ _).2]; rfl, (tr_zero _ _ _).1, rfl⟩ ?_
    rintro r235 a236 w237 ⟨j, Ls, Ao, co, hR238, hS239, hj, hL, hE, hn240⟩
    have hrl : rL208.length = (ptL t).length := by rw [← lsts_len, hL211]
    have hp8 := ptL_le hb
    have hbj : 0 ≤ nthI (bindL (nth t (t.length - 1))) j ∧ nthI (bindL (nth t (t.length - 1))) j ≤ 2 := by rw [hbl]; exact binds_nth j
    have hLn : Ls.length = j := by rw [← lsts_len, hL]; exact trTP_len hb (by omega)
    refine wp_seq_k (fun K241 hK242 => ?_)
    refine wp_seq_k (fun K243 hK244 => ?_)
    refine c_region ?_
    refine mv hR238 (fun a245 hR246 => ?_)
    refine mv hR246 (fun a247 hR248 => ?_)
    refine r_len sv hR248 rfl rfl rfl rfl Tryd.underlying39 (by decide) (fun a249 hR250 => ?_)
    refine r_lss sv hR250 rfl rfl rfl rfl (by decide) (fun a251 hR252 => ?_)
    refine wpList_nil (x_then_n (hK244 _ _ ?_))
    rcases Decidable.em (((j : Nat) : Int) < ((rL208.length : Nat) : Int)) with h253 | h253
    · skip
      obtain ⟨hpe, hpk, hpb, hpl, hps, hp0'⟩ := part_at hb hsm hL211 (show j < rL208.length by omega)
      have hR254 := hR252.setb (d := 68) (b := true) rfl (decide_eq_true h253)
      refine wp_cond_true (hR254.ev rfl) ?_
      refine wp_skip ?_
      refine x_then_n (hK242 _ _ ?_)
      refine wp_seq_k (fun K255 hK256 => ?_)
      refine wp_block ?_
      refine wp_seq_k (fun K257 hK258 => ?_)
      obtain ⟨J259, hJ260, hS261⟩ := hS239.agree
      refine d_region2 (S := (fun x => agr w237 J259 x ∧ True)) (n := 18) mixed rfl hS261 (pan_then (pan_block (pan_then (pan_then (pan_block (pan_then pan_body)))))) (fun Q264 hP265 hN266 w262 hS263 => ?_)
      have hSw267 : agr w237 J259 w262 ∧ True := ⟨⟨(hS263.get (i := 7) rfl).1, fun k hk => ((hS263.get (i := 7) rfl).2 k hk).2⟩, trivial⟩
      refine dt 0 rfl hP265 hR254 (want_n rfl) (fun x hx => r_move (sy hR254) hR254 rfl rfl rfl (by decide) gt) hSw267 (fun a268 hR269 => ?_)
      refine dt 1 rfl hP265 hR269 (want_n rfl) (fun x hx => r_move (sy hR269) hR269 rfl rfl rfl (by decide) gt) hSw267 (fun a270 hR271 => ?_)
      refine dt 2 rfl hP265 hR271 (want_n rfl) (fun x hx => m_index (i := j) (j := j * 1) (sy hR271) hR271 rfl rfl rfl rfl Tryd.underlying39 sz22 (by omega) (by omega) (ss_elem (t := rL208) (k := j) (sdat (hJ260 4 _ rfl) hx.1).2 (by omega)).some_ rfl (by decide) gt) hSw267 (fun a272 hR273 => ?_)
      refine dt 3 rfl hP265 hR273 (want_n rfl) (fun x hx => m_loadE (sy hR273) hR273 rfl rfl rfl 0 (j * 1) (ss_elem (t := rL208) (k := j) (sdat (hJ260 4 _ rfl) hx.1).2 (by omega)) rfl rfl Tryd.underlying22 rfl (by decide) gt) hSw267 (fun a274 hR275 => ?_)
      have hS276 := hS263.data (dRow 4 ((nthS rL208 j).1) ((nthS rL208 j).2.2.length) ((nthS rL208 j).2.1) (encNs ((nthS rL208 j).2.2))) (all_at (t := rL208) (k := j) (hS263.get (i := 5) rfl) (by omega))
      refine dt 4 rfl hP265 hR275 (want_n rfl) (fun x hx => r_move (sy hR275) hR275 rfl rfl rfl (by decide) gt) hSw267 (fun a277 hR278 => ?_)
      refine dt 5 rfl hP265 hR278 (want_n rfl) (fun x hx => r_move (sy hR278) hR278 rfl rfl rfl (by decide) gt) hSw267 (fun a279 hR280 => ?_)
      refine dt 6 rfl hP265 hR280 (want_n rfl) (fun x hx => r_move (sy hR280) hR280 rfl rfl rfl (by decide) gt) hSw267 (fun a281 hR282 => ?_)
      refine dt 7 rfl hP265 hR282 (want_n rfl) (fun x hx => r_move (sy hR282) hR282 rfl rfl rfl (by decide) gt) hSw267 (fun a283 hR284 => ?_)
      refine dt 8 rfl hP265 hR284 (want_n rfl) (fun x hx => m_index (i := j) (j := j * 1) (sy hR284) hR284 rfl rfl rfl rfl Tryd.underlying66 sz3 (by omega) (by omega) (ints_elem (t := bindL (nth t (t.length - 1))) (k := j) (sdat (hJ260 3 _ rfl) hx.1).2 (by omega)).some_ rfl (by decide) gt) hSw267 (fun a285 hR286 => ?_)
      refine dt 9 rfl hP265 hR286 (want_n rfl) (fun x hx => m_loadE (sy hR286) hR286 rfl rfl rfl 0 (j * 1) (ints_elem (t := bindL (nth t (t.length - 1))) (k := j) (sdat (hJ260 3 _ rfl) hx.1).2 (by omega)) rfl rfl Tryd.underlying3 rfl (by decide) gt) hSw267 (fun a287 hR288 => ?_)
      refine dt 10 rfl hP265 hR288 (want_n rfl) (fun x hx => r_add (z := (u + (nthI (bindL (nth t (t.length - 1))) j))) (sy hR288) hR288 rfl rfl rfl rfl (by decide) (by omega) (by omega) (by omega) gt) hSw267 (fun a289 hR290 => ?_)
      refine dt 11 rfl hP265 hR290 (want_n rfl) (fun x hx => r_move (sy hR290) hR290 rfl rfl rfl (by decide) gt) hSw267 (fun a291 hR292 => ?_)
      refine d_one (i := 12) (by kernel_rfl) ?_
      have hS293 : St w0 Z none_ w262 [.box g25 32 [.int .i64 (((nth t (t.length - 1)).K)), .int .i64 (((nth t (t.length - 1)).N)), .int .i64 (((nth t (t.length - 1)).M)), .string ((nth t (t.length - 1)).S)], .row Ao ((Ls).length) co 22 1 (encSs Ls)] [dRow 4 tA t.length tc (encNs t), dRow 1 pA p.length pc (encSs p), dAll p, dRow 1 A179 ((bindL (nth t (t.length - 1))).length) c180 (encIs (bindL (nth t (t.length - 1)))), dRow 1 A206 rL208.length c207 (encSs rL208), dAll rL208, dAll Ls, dAg w237 J259, dRow 4 ((nthS rL208 j).1) ((nthS rL208 j).2.2.length) ((nthS rL208 j).2.1) (encNs ((nthS rL208 j).2.2))] := hS276
      refine k_call (xs := [.tmp 75, .tmp 76, .tmp 82, .tmp 83]) (st_op rfl (want_n rfl)) hR292 rfl rfl rfl (by decide) ok76 (ih (((nthS rL208 j).2.2).length) (by omega) _ (imm Z w0 [.box g25 32 [.int .i64 (((nth t (t.length - 1)).K)), .int .i64 (((nth t (t.length - 1)).N)), .int .i64 (((nth t (t.length - 1)).M)), .string ((nth t (t.length - 1)).S)], .row Ao ((Ls).length) co 22 1 (encSs Ls)] _) (fun _ h => h.1) ((nthS rL208 j).1) ((nthS rL208 j).2.1) ((nthS rL208 j).2.2) (k) (u + (nthI (bindL (nth t (t.length - 1))) j)) pA pc p (hS293.get (i := 8) rfl) (hS293.get (i := 1) rfl) (hS293.get (i := 2) rfl) (by first | assumption | omega | (simp; done) | (simp; omega)) (by first | assumption | omega | (simp; done) | (simp; omega)) (by first | assumption | omega | (simp; done) | (simp; omega)) (by first | assumption | omega | (simp; done) | (simp; omega)) (by first | assumption | omega | (simp; done) | (simp; omega)) (by first | assumption | omega | (simp; done) | (simp; omega)) (by first | assumption | omega | (simp; done) | (simp; omega)) (by first | assumption | omega | (simp; done) | (simp; omega)) (by first | assumption | omega | (simp; done) | (simp; omega)) (by first | assumption | omega | (simp; done) | (simp; omega)) (by first | assumption | omega | (simp; done) | (simp; omega)) rfl) ?_
      rintro e303 w295 ⟨A299, c300, rfl, hf298, hd301⟩
      have hS304 := hS293.below hf298.below
      have hS305 := hS304.data (dRow 4 A299 ((trL (puV (k) (lsts p)) ((nthS rL208 j).2.2) (u + (nthI (bindL (nth t (t.length - 1))) j))).length) c300 (encNs (trL (puV (k) (lsts p)) ((nthS rL208 j).2.2) (u + (nthI (bindL (nth t (t.length - 1))) j))))) ⟨hd301.1, hd301.2.mono (fun _ hk => ⟨nxt_imm hS293 hk, rfl⟩)⟩
      refine ⟨_, rfl, fun a294 hR296 => ?_⟩
      have hSw306 : agr w237 J259 w295 ∧ True := ⟨⟨(hS305.get (i := 7) rfl).1, fun k hk => ((hS305.get (i := 7) rfl).2 k hk).2⟩, trivial⟩
      refine ⟨hSw306, ?_⟩
      refine dt 13 rfl hP265 hR296 (want_n rfl) (fun x hx => r_move (sy hR296) hR296 rfl rfl rfl (by decide) gt) hSw306 (fun a307 hR308 => ?_)
      refine dt 14 rfl hP265 hR308 (want_n rfl) (fun x hx => r_extract (sy hR308) hR308 rfl rfl rfl rfl (by decide) gt) hSw306 (fun a309 hR310 => ?_)
      refine dt 15 rfl hP265 hR310 (want_n rfl) (fun x hx => r_extract (sy hR310) hR310 rfl rfl rfl rfl (by decide) gt) hSw306 (fun a311 hR312 => ?_)
      refine dt 16 rfl hP265 hR312 (want_n rfl) (fun x hx => r_assign (sy hR312) hR312 rfl rfl rfl (by decide) gt) hSw306 (fun a313 hR314 => ?_)
      refine dt 17 rfl hP265 hR314 (want_n rfl) (fun x hx => r_assign (sy hR314) hR314 rfl rfl rfl (by decide) gt) hSw306 (fun a315 hR316 => ?_)
      refine wpAnyH_done (by kernel_rfl) (hN266 _ _ ?_) _
      refine x_then_n (hK258 _ _ ?_)
      refine wp_seq_k (fun K317 hK318 => ?_)
      refine wp_seq_k (fun K319 hK320 => ?_)
      refine c_region ?_
      refine mv hR316 (fun a321 hR322 => ?_)
      refine r_neq sv hR322 rfl rfl rfl rfl (by decide) (fun a323 hR324 => ?_)
      refine wpList_nil (x_then_n (hK320 _ _ ?_))
      rcases Decidable.em (((trEL (puV (k) (lsts p)) ((nthS rL208 j).2.2) (u + (nthI (bindL (nth t (t.length - 1))) j)))) = 0) with h325 | h325
      · skip
        obtain ⟨hs1, hs2⟩ := tr_step (V := puV k (lsts p)) (u := u) hb hpk hE (by rw [← hpe, ← hbl]; exact h325)
        have hR326 := hR324.setb (d := 88) (b := false) rfl (by rw [(decide_eq_true h325)]; rfl)
        refine wp_cond_false (hR326.ev rfl) ?_
        refine wp_skip ?_
        refine x_then_n (hK318 _ _ ?_)
        refine c_region ?_
        refine mv hR326 (fun a327 hR328 => ?_)
        refine mv hR328 (fun a329 hR330 => ?_)
        have hS331 := hS305.data (dAll [((A299, c300, trL (puV (k) (lsts p)) ((nthS rL208 j).2.2) (u + (nthI (bindL (nth t (t.length - 1))) j))) : Sl)]) (all_cons (hS305.get (i := 9) rfl) all_nil)
        refine m_buildSlice (ps := [(0, .tmp 91)]) (cs := [.slice A299 ((trL (puV (k) (lsts p)) ((nthS rL208 j).2.2) (u + (nthI (bindL (nth t (t.length - 1))) j))).length) c300]) sv hR330 hS331 rfl rfl rfl Tryd.underlying39 zi22 rfl rfl (by kernel_rfl) rfl (by decide) (fun a332 w333 g334 hR335 hS336 => ?_)
        refine m_appendF (f := encS) (i := 1) (Ls) ([((A299, c300, trL (puV (k) (lsts p)) ((nthS rL208 j).2.2) (u + (nthI (bindL (nth t (t.length - 1))) j))) : Sl)]) sv hR335 hS336 rfl rfl rfl rfl rfl encS_len (encS_one _) Tryd.underlying39 zi22 rfl rfl (own_lnews (f := encS) (hS336.res (i := 2) rfl)) rfl (by first | omega | (simp only [List.length_cons, List.length_nil]; omega)) (by decide) (fun a337 w338 A339 c340 hc341 hR342 hS343 => ?_)
        have hl345 : (Ls ++ ([((A299, c300, trL (puV (k) (lsts p)) ((nthS rL208 j).2.2) (u + (nthI (bindL (nth t (t.length - 1))) j))) : Sl)]) : List Sl).length = (Ls).length + 1 := by first | (simp only [List.length_append, List.length_take, List.length_cons, List.length_nil]; done) | (simp only [List.length_append, List.length_take, List.length_cons, List.length_nil]; omega)
        have hS346 := hS343.erase 2
        have hS347 := hS346.data (dAll (Ls ++ ([((A299, c300, trL (puV (k) (lsts p)) ((nthS rL208 j).2.2) (u + (nthI (bindL (nth t (t.length - 1))) j))) : Sl)]))) (all_append (hS346.get (i := 6) rfl) (hS346.get (i := 10) rfl))
        refine asg hR342 (fun a348 hR349 => ?_)
        refine wpList_nil ?_
        refine x_block_n ?_
        refine x_then_n (hK256 _ _ ?_)
        refine c_region ?_
        refine mv hR349 (fun a350 hR351 => ?_)
        refine r_add (z := ((j + 1 : Nat) : Int)) sv hR351 rfl rfl rfl rfl (by decide) (by omega) (by omega) (by omega) (fun a352 hR353 => ?_)
        refine asg hR353 (fun a354 hR355 => ?_)
        refine wpList_nil ?_
        have hS356 := hS347.forget 10
        have hS357 := hS356.forget 9
        have hS358 := hS357.forget 8
        have hS359 := hS358.forget 7
        have hS360 := hS359.forget 6
        exact ⟨_, by omega, j + 1, Ls ++ ([((A299, c300, trL (puV (k) (lsts p)) ((nthS rL208 j).2.2) (u + (nthI (bindL (nth t (t.length - 1))) j))) : Sl)]), A339, c340, (hR355.sub (rc rfl (rc rfl (rc rfl (rc rfl (rc rfl (rc rfl (rc rfl (rc rfl (rc rfl rnl)))))))))), hS360, by omega, (by rw [lsts_app, lsts_one, hL, hs2, hpe, hbl]), hs1, rfl⟩
      · skip
        obtain ⟨hs1, hs2⟩ := tr_bad (V := puV k (lsts p)) (u := u) hb hpk hE (by rw [← hpe, ← hbl]; exact h325)
        have hR361 := hR324.setb (d := 88) (b := true) rfl (by rw [(decide_eq_false h325)]; rfl)
        refine wp_cond_true (hR361.ev rfl) ?_
        refine wp_seq_k (fun K362 hK363 => ?_)
        refine c_region ?_
        refine mv hR361 (fun a364 hR365 => ?_)
        refine asg hR365 (fun a366 hR367 => ?_)
        refine asg hR367 (fun a368 hR369 => ?_)
        refine wpList_nil (x_then_n (hK363 _ _ ?_))
        refine wp_ret ?_
        refine x_then_r ?_
        refine x_block_r ?_
        refine x_then_r ?_
        refine x_then_r ?_
        refine x_block_r ?_
        refine x_then_r ?_
        refine e_ret2 hR369 rfl rfl rfl rfl ?_
        have he370 : trL (puV k (lsts p)) t u = [] := hs2
        rw [he370]
        refine ⟨none, 0, ?_, hS305.fr, ⟨Nat.le_refl _, RowI.nil _ _ _ _⟩⟩
        exact ret_t2 rfl (ret_i (by first | (rw [(pu_lt hb (by omega) (by omega)).1]; done) | (rw [(pu_in hb (by omega) (by omega) (by rw [lsts_len]; omega)).1, lsts_nth]; rfl) | (rw [(pu_ge hb (by omega) (by omega) (by rw [lsts_len]; omega)).1]; done) | (rw [hs1, hpe, hbl]; done) | (rw [hd1]; done)))
    · skip
      have hj2 : j = (ptL t).length := by omega
      rw [hj2] at hE hL
      have hvv : (nth t (t.length - 1)).K = 0 → (puV k (lsts p)) (nth t (t.length - 1)) u = (0, .mk (nth t (t.length - 1)) []) := by intro hk; omega
      obtain ⟨hd1, hd2⟩ := tr_end hb hvv hE
      have hdn := tr_nm (V := puV k (lsts p)) (b := 4000) (by omega) (puV_len (by omega) hpl4) hb hvv hE
      have hR371 := hR252.setb (d := 68) (b := false) rfl (decide_eq_false h253)
      refine wp_cond_false (hR371.ev rfl) ?_
      refine wp_exit ?_
      refine x_then_e ?_
      refine x_then_e ?_
      refine x_block_eq ?_
      refine x_then_n (hK230 _ _ ?_)
      refine wp_seq_k (fun K372 hK373 => ?_)
      refine c_region ?_
      refine m_loadN (i := 0) (vs := [.int .i64 (((nth t (t.length - 1)).K)), .int .i64 (((nth t (t.length - 1)).N)), .int .i64 (((nth t (t.length - 1)).M)), .string ((nth t (t.length - 1)).S)]) sv hR371 hS239 rfl rfl rfl rfl rfl Tryd.underlying32 rfl sz32 (by decide) (fun a374 hR375 => ?_)
      refine mv hR375 (fun a376 hR377 => ?_)
      have hS378 : St w0 Z none_ w237 [.box g25 32 [.int .i64 (((nth t (t.length - 1)).K)), .int .i64 (((nth t (t.length - 1)).N)), .int .i64 (((nth t (t.length - 1)).M)), .string ((nth t (t.length - 1)).S)], .row Ao ((Ls).length) co 22 1 (encSs Ls)] [dRow 4 tA t.length tc (encNs t), dRow 1 pA p.length pc (encSs p), dAll p, dRow 1 A179 ((bindL (nth t (t.length - 1))).length) c180 (encIs (bindL (nth t (t.length - 1)))), dRow 1 A206 rL208.length c207 (encSs rL208), dAll rL208, dAll Ls] := hS239
      have hc382 := own_cap (hS378.res (i := 1) rfl)
      obtain ⟨hS379, hrow380⟩ := hS378.row_data (i := 1) rfl (fun _ h => h)
      have hS381 := hS379.data (dRow 1 Ao ((Ls).length) co (encSs Ls)) ⟨hc382, hrow380⟩
      refine k_call (xs := [.tmp 94, .tmp 95]) se hR377 rfl rfl rfl (by decide) ok25 (rof_calls _ (imm Z w0 [.box g25 32 [.int .i64 (((nth t (t.length - 1)).K)), .int .i64 (((nth t (t.length - 1)).N)), .int .i64 (((nth t (t.length - 1)).M)), .string ((nth t (t.length - 1)).S)]] _) (fun _ h => h.1) (nth t (t.length - 1)) Ao co Ls (hS381.get (i := 7) rfl) (hS381.get (i := 6) rfl) (by omega) (by rw [hL]; omega)) ?_
      rintro e392 w384 ⟨A388, c389, rfl, hf387, hd390⟩
      have hS393 := hS381.below hf387.below
      have hS394 := hS393.data (dRow 4 A388 (((lsts Ls).flatten ++ [(nth t (t.length - 1))]).length) c389 (encNs ((lsts Ls).flatten ++ [(nth t (t.length - 1))]))) ⟨hd390.1, hd390.2.mono (fun _ hk => ⟨nxt_imm hS381 hk, rfl⟩)⟩
      refine ⟨_, rfl, fun a383 hR385 => ?_⟩
      refine asg hR385 (fun a395 hR396 => ?_)
      refine asg hR396 (fun a397 hR398 => ?_)
      refine wpList_nil (x_then_n (hK373 _ _ ?_))
      refine wp_ret ?_
      refine e_ret2 hR398 rfl rfl rfl rfl ?_
      have he399 : trL (puV k (lsts p)) t u = (lsts Ls).flatten ++ [(nth t (t.length - 1))] := by rw [hd2, hL]
      rw [he399]
      refine ⟨A388, c389, ?_, hS394.fr, ⟨by have := (hS394.row (i := 8) rfl).1; exact this, ((hS394.row (i := 8) rfl).2.mono (fun _ hk => ⟨imm_nxt hk, rfl⟩))⟩⟩
      exact ret_t2 rfl (ret_i (by first | (rw [(pu_lt hb (by omega) (by omega)).1]; done) | (rw [(pu_in hb (by omega) (by omega) (by rw [lsts_len]; omega)).1, lsts_nth]; rfl) | (rw [(pu_ge hb (by omega) (by omega) (by rw [lsts_len]; omega)).1]; done) | (rw [hs1, hpe, hbl]; done) | (rw [hd1]; done)))
theorem rput_calls (w0 : World) (Z : Nat → Prop) (hZ : ∀ k, Z k → k < w0.heap.size) (tA : Option Addr) (tc : Nat) (t : List Nd) (k : Int) (u : Int) (pA : Option Addr) (pc : Nat) (p : List Sl) (ht : (dRow 4 tA t.length tc (encNs t)).φ w0 Z) (hp : (dRow 1 pA p.length pc (encSs p)).φ w0 Z) (hps : (dAll p).φ w0 Z) (hl : t.length ≤ 1000000) (hsm : sml t) (hb : measB t = true) (hu0 : 0 ≤ u) (hub : u + 2 * t.length ≤ 10000000) (hl4 : t.length ≤ 4000) (hp1 : p.length ≤ 1000) (hp2 : ∀ x ∈ lsts p, x.length ≤ 4000) (hp3 : ∀ x ∈ lsts p, sml x) (hk0 : 0 ≤ k) (hk1 : k ≤ 1000000) :
    Calls Tryd.prog 76 [.slice tA t.length tc, .int .i64 k, .int .i64 u, .slice pA p.length pc].toArray w0 (fun e w' => ∃ (rA0 : Option Addr) (rc0 : Nat), e = .returned (.tuple #[.slice rA0 (trL (puV k (lsts p)) t u).length rc0, .int .i64 (trEL (puV k (lsts p)) t u)]) ∧ Fr none_ w0 w' ∧ (dRow 4 rA0 ((trL (puV k (lsts p)) t u).length) rc0 (encNs (trL (puV k (lsts p)) t u))).φ w' (nxt Z w0 w')) := rput_calls_rec _ w0 Z hZ tA tc t k u pA pc p ht hp hps hl hsm hb hu0 hub hl4 hp1 hp2 hp3 hk0 hk1 rfl

set_option maxRecDepth 100000 in
set_option maxHeartbeats 1000000 in
theorem rPut_calls (w0 : World) (Z : Nat → Prop) (hZ : ∀ k, Z k → k < w0.heap.size) (tA : Option Addr) (tc : Nat) (t : List Nd) (k : Int) (pA : Option Addr) (pc : Nat) (p : List Sl) (ht : (dRow 4 tA t.length tc (encNs t)).φ w0 Z) (hp : (dRow 1 pA p.length pc (encSs p)).φ w0 Z) (hps : (dAll p).φ w0 Z) (hl : t.length ≤ 1000000) (hsm : sml t) (hb : measB t = true) (hl4 : t.length ≤ 4000) (hp1 : p.length ≤ 1000) (hp2 : ∀ x ∈ lsts p, x.length ≤ 4000) (hp3 : ∀ x ∈ lsts p, sml x) (hk0 : 0 ≤ k) (hk1 : k ≤ 1000000) :
    Calls Tryd.prog 54 [.slice tA t.length tc, .int .i64 k, .slice pA p.length pc].toArray w0 (fun e w' => ∃ (rA0 : Option Addr) (rc0 : Nat), e = .returned (.tuple #[.slice rA0 (poA t k (lsts p)).length rc0, .int .i64 (poE t k (lsts p))]) ∧ Fr none_ w0 w' ∧ (dRow 4 rA0 ((poA t k (lsts p)).length) rc0 (encNs (poA t k (lsts p)))).φ w' (nxt Z w0 w')) := by
  have hstart : ∀ k, Z k → imm Z w0 [] w0 k ∧ w0.heap[k]? = w0.heap[k]? := fun k hk => ⟨⟨hZ k hk, fun _ => hk, fun _ h => by cases h⟩, rfl⟩
  have hS3 : St w0 Z none_ w0 [] [dRow 4 tA t.length tc (encNs t), dRow 1 pA p.length pc (encSs p), dAll p] := St.start w0 Z none_ _ (by
    intro d hd
    simp only [List.mem_cons, List.not_mem_nil, or_false] at hd
    rcases hd with rfl | rfl | rfl
    · exact Dat.mono _ _ _ _ _ (Nat.le_refl _) ht hstart
    · exact Dat.mono _ _ _ _ _ (Nat.le_refl _) hp hstart
    · exact Dat.mono _ _ _ _ _ (Nat.le_refl _) hps hstart
    )
  have hxl := trL_len (b := 4000) (by omega) (puV_len (k := k) (by omega) hp2) hb 0
  have hxs := trL_sml (puV_sml (k := k) hp3) hb hsm 0
  refine c_enter Tryd.func54 rfl Tryd.ntmps54 rfl (fun a1 hR2 => ?_)
  refine wp_seq_k (fun K4 hK5 => ?_)
  refine c_region ?_
  refine asg hR2 (fun a6 hR7 => ?_)
  refine asg hR7 (fun a8 hR9 => ?_)
  refine wpList_nil (x_then_n (hK5 _ _ ?_))
  refine wp_seq_k (fun K10 hK11 => ?_)
  refine c_region ?_
  refine mv hR9 (fun a12 hR13 => ?_)
  refine mv hR13 (fun a14 hR15 => ?_)
  refine mv hR15 (fun a16 hR17 => ?_)
  have hS18 : St w0 Z none_ w0 [] [dRow 4 tA t.length tc (encNs t), dRow 1 pA p.length pc (encSs p), dAll p] := hS3
  refine k_call (xs := [.tmp 11, .tmp 12, .const (.int .i64 0), .tmp 13]) se hR17 rfl rfl rfl (by decide) ok76 (rput_calls _ (imm Z w0 [] _) (fun _ h => h.1) tA tc t (k) 0 pA pc p (hS18.get (i := 0) rfl) (hS18.get (i := 1) rfl) (hS18.get (i := 2) rfl) (by first | assumption | omega | (simp; done) | (simp; omega)) (by first | assumption | omega | (simp; done) | (simp; omega)) (by first | assumption | omega | (simp; done) | (simp; omega)) (by first | assumption | omega | (simp; done) | (simp; omega)) (by first | assumption | omega | (simp; done) | (simp; omega)) (by first | assumption | omega | (simp; done) | (simp; omega)) (by first | assumption | omega | (simp; done) | (simp; omega)) (by first | assumption | omega | (simp; done) | (simp; omega)) (by first | assumption | omega | (simp; done) | (simp; omega)) (by first | assumption | omega | (simp; done) | (simp; omega)) (by first | assumption | omega | (simp; done) | (simp; omega))) ?_
  rintro e28 w20 ⟨A24, c25, rfl, hf23, hd26⟩
  have hS29 := hS18.below hf23.below
  have hS30 := hS29.data (dRow 4 A24 ((trL (puV (k) (lsts p)) t 0).length) c25 (encNs (trL (puV (k) (lsts p)) t 0))) ⟨hd26.1, hd26.2.mono (fun _ hk => ⟨nxt_imm hS18 hk, rfl⟩)⟩
  refine ⟨_, rfl, fun a19 hR21 => ?_⟩
  refine mv hR21 (fun a31 hR32 => ?_)
  refine r_extract sv hR32 rfl rfl rfl rfl (by decide) (fun a33 hR34 => ?_)
  refine r_extract sv hR34 rfl rfl rfl rfl (by decide) (fun a35 hR36 => ?_)
  refine asg hR36 (fun a37 hR38 => ?_)
  refine asg hR38 (fun a39 hR40 => ?_)
  refine wpList_nil (x_then_n (hK11 _ _ ?_))
  refine wp_seq_k (fun K41 hK42 => ?_)
  refine wp_seq_k (fun K43 hK44 => ?_)
  refine c_region ?_
  refine mv hR40 (fun a45 hR46 => ?_)
  refine r_eql sv hR46 rfl rfl rfl rfl (by decide) (fun a47 hR48 => ?_)
  refine wpList_nil (x_then_n (hK44 _ _ ?_))
  rcases Decidable.em (((trEL (puV (k) (lsts p)) t 0)) = 0) with h49 | h49
  · skip
    have hR50 := hR48.setb (d := 18) (b := true) rfl (decide_eq_true h49)
    refine wp_cond_true (hR50.ev rfl) ?_
    refine c_region ?_
    refine mv hR50 (fun a51 hR52 => ?_)
    have hS53 : St w0 Z none_ w20 [] [dRow 4 tA t.length tc (encNs t), dRow 1 pA p.length pc (encSs p), dAll p, dRow 4 A24 ((trL (puV (k) (lsts p)) t 0).length) c25 (encNs (trL (puV (k) (lsts p)) t 0))] := hS30
    refine k_call (xs := [.tmp 19]) se hR52 rfl rfl rfl (by decide) ok19 (rcheck_calls _ (imm Z w0 [] _) (fun _ h => h.1) A24 c25 (trL (puV (k) (lsts p)) t 0) (hS53.get (i := 3) rfl) (by first | assumption | omega | (simp; done) | (simp; omega)) (by first | assumption | omega | (simp; done) | (simp; omega))) ?_
    rintro e60 w55 ⟨rfl, hf58⟩
    have hS61 := hS53.below hf58.below
    refine ⟨_, rfl, fun a54 hR56 => ?_⟩
    refine asg hR56 (fun a62 hR63 => ?_)
    refine wpList_nil (x_then_n (hK42 _ _ ?_))
    refine wp_seq_k (fun K64 hK65 => ?_)
    refine wp_seq_k (fun K66 hK67 => ?_)
    refine c_region ?_
    refine mv hR63 (fun a68 hR69 => ?_)
    refine r_neq sv hR69 rfl rfl rfl rfl (by decide) (fun a70 hR71 => ?_)
    refine wpList_nil (x_then_n (hK67 _ _ ?_))
    rcases Decidable.em (((chk (trL (puV (k) (lsts p)) t 0))) = 0) with h72 | h72
    · skip
      have hR73 := hR71.setb (d := 22) (b := false) rfl (by rw [(decide_eq_true h72)]; rfl)
      refine wp_cond_false (hR73.ev rfl) ?_
      refine wp_skip ?_
      refine x_then_n (hK65 _ _ ?_)
      refine wp_seq_k (fun K74 hK75 => ?_)
      refine c_region ?_
      refine mv hR73 (fun a76 hR77 => ?_)
      refine asg hR77 (fun a78 hR79 => ?_)
      refine asg hR79 (fun a80 hR81 => ?_)
      refine wpList_nil (x_then_n (hK75 _ _ ?_))
      refine wp_ret ?_
      refine e_ret2 hR81 rfl rfl rfl rfl ?_
      have he82 : poA t k (lsts p) = trL (puV (k) (lsts p)) t 0 := by rw [(po_chk (by omega)).2, if_pos (by omega)]
      rw [he82]
      refine ⟨A24, c25, ?_, hS61.fr, ⟨by have := (hS61.row (i := 3) rfl).1; exact this, ((hS61.row (i := 3) rfl).2.mono (fun _ hk => ⟨imm_nxt hk, rfl⟩))⟩⟩
      exact ret_t2 rfl (ret_i (by first | (rw [(po_err (by omega)).1]; done) | (rw [(po_chk (by omega)).1]; done) | (rw [(po_chk (by omega)).1]; omega)))
    · skip
      have hR83 := hR71.setb (d := 22) (b := true) rfl (by rw [(decide_eq_false h72)]; rfl)
      refine wp_cond_true (hR83.ev rfl) ?_
      refine wp_seq_k (fun K84 hK85 => ?_)
      refine c_region ?_
      refine mv hR83 (fun a86 hR87 => ?_)
      refine asg hR87 (fun a88 hR89 => ?_)
      refine asg hR89 (fun a90 hR91 => ?_)
      refine wpList_nil (x_then_n (hK85 _ _ ?_))
      refine wp_ret ?_
      refine x_then_r ?_
      refine e_ret2 hR91 rfl rfl rfl rfl ?_
      have he92 : poA t k (lsts p) = [] := by first | exact (po_err (by omega)).2 | (rw [(po_chk (by omega)).2, if_neg (by omega)])
      rw [he92]
      refine ⟨none, 0, ?_, hS61.fr, ⟨Nat.le_refl _, RowI.nil _ _ _ _⟩⟩
      exact ret_t2 rfl (ret_i (by first | (rw [(po_err (by omega)).1]; done) | (rw [(po_chk (by omega)).1]; done) | (rw [(po_chk (by omega)).1]; omega)))
  · skip
    have hR93 := hR48.setb (d := 18) (b := false) rfl (decide_eq_false h49)
    refine wp_cond_false (hR93.ev rfl) ?_
    refine wp_skip ?_
    refine x_then_n (hK42 _ _ ?_)
    refine wp_seq_k (fun K94 hK95 => ?_)
    refine wp_seq_k (fun K96 hK97 => ?_)
    refine c_region ?_
    refine mv hR93 (fun a98 hR99 => ?_)
    refine r_neq sv hR99 rfl rfl rfl rfl (by decide) (fun a100 hR101 => ?_)
    refine wpList_nil (x_then_n (hK97 _ _ ?_))
    have hR102 := hR101.setb (d := 22) (b := true) rfl (by rw [(decide_eq_false h49)]; rfl)
    refine wp_cond_true (hR102.ev rfl) ?_
    refine wp_seq_k (fun K103 hK104 => ?_)
    refine c_region ?_
    refine mv hR102 (fun a105 hR106 => ?_)
    refine asg hR106 (fun a107 hR108 => ?_)
    refine asg hR108 (fun a109 hR110 => ?_)
    refine wpList_nil (x_then_n (hK104 _ _ ?_))
    refine wp_ret ?_
    refine x_then_r ?_
    refine e_ret2 hR110 rfl rfl rfl rfl ?_
    have he111 : poA t k (lsts p) = [] := by first | exact (po_err (by omega)).2 | (rw [(po_chk (by omega)).2, if_neg (by omega)])
    rw [he111]
    refine ⟨none, 0, ?_, hS30.fr, ⟨Nat.le_refl _, RowI.nil _ _ _ _⟩⟩
    exact ret_t2 rfl (ret_i (by first | (rw [(po_err (by omega)).1]; done) | (rw [(po_chk (by omega)).1]; done) | (rw [(po_chk (by omega)).1]; omega)))
end Go.Proofs.YtobgdeffhdefeaaDoor
/- Erasing is done ahead of a shift, or of a substitution, as behind it. -/
namespace Go.Proofs.YtobgdeffhdefeaaDoor
set_option linter.unusedSimpArgs false
set_option linter.unusedVariables false
mutual
theorem tr_deep {V : VR} (hV : ∀ n u, (V n u).2.deep ≤ 1) : ∀ (x : T) (u : Int), (trT V u x).deep ≤ x.deep
  | .mk n l, u => by
    by_cases hk : n.K = 0
    · simp only [trT, hk, if_true]
      have := hV n u
      rw [deep_mk]
      omega
    · simp only [trT, hk, if_false, deep_mk]
      have := tr_deeps hV l ((binds n).map (u + ·))
      omega
theorem tr_deeps {V : VR} (hV : ∀ n u, (V n u).2.deep ≤ 1) : ∀ (l : List T) (us : List Int), T.deeps (trTs V l us) ≤ T.deeps l
  | [], us => by simp [trTs, T.deeps]
  | y :: l, [] => by simp [trTs, T.deeps]
  | y :: l, u :: us => by
    simp only [trTs, T.deeps]
    have := tr_deep hV y u
    have := tr_deeps hV l us
    omega
end
theorem shV_deep (b f : Int) (n : Nd) (u : Int) : (shV b f n u).2.deep ≤ 1 := by
  unfold shV
  (repeat' split) <;> simp [T.deep, T.deeps]
/-- What is shifted is a term. -/
theorem sf_chk {t : List Nd} {b f : Int} (h : sfE t b f = 0) : chk (sfA t b f) = 0 := by
  obtain ⟨hc, hw, h3, _, he⟩ := sf_tree h
  obtain ⟨_, hf, hd, hl⟩ := treeOf_ok hc
  have h4 := tr_deep (shV_deep (clamp b) (max 0 (clamp f))) (treeOf t) 0
  have h5 := sfA_len t b f
  rw [h3] at h5 ⊢
  exact chk_flat hw (by omega) (by omega)
theorem erL_tree {t : List Nd} (h : chk t = 0) : treeOf (erL t) = erT (treeOf t) := treeOf_flat (erT_ok _ (treeOf_ok h).1).1
theorem sf_er {t : List Nd} {b f : Int} (hs : sml t) (h : sfE t b f = 0) : sfE (erL t) b f = 0 ∧ treeOf (sfA (erL t) b f) = erT (treeOf (sfA t b f)) := by
  obtain ⟨hc, hw, h3, h4, he⟩ := sf_tree h
  have hc2 := (erL_facts hc hs).2.1
  obtain ⟨h5, h6⟩ := tr_erT (V := shV (clamp b) (max 0 (clamp f))) (W := shV (clamp b) (max 0 (clamp f))) shV_er (treeOf t) 0 (treeOf_ok hc).1 (Int.le_refl _) he
  have h7 : sfE (erL t) b f = 0 := by
    rw [(sfE_ok hc2).1]
    show trE _ 0 (treeOf (erL t)) = 0
    rw [erL_tree hc]
    exact h5
  refine ⟨h7, ?_⟩
  rw [(sf_tree h7).2.2.2.1, h4, h6, erL_tree hc]
theorem moves_sf {t : List Nd} {b f : Int} (hc : chk t = 0) (hs : sml t) (hb : 0 ≤ b) :
    (sfE t b f = 0 → sfE (erA t) b f = 0 ∧ chk (sfA t b f) = 0 ∧ erA (sfA t b f) = sfA (erA t) b f) ∧ (¬ sfE t b f = 0 → sfE (erA t) b f = 0 ∨ sfE (erA t) b f = sfE t b f) := by
  rw [erA_ok hc]
  refine ⟨fun h => ?_, fun h => ?_⟩
  · obtain ⟨h1, h2⟩ := sf_er hs h
    have h3 := sf_chk h
    refine ⟨h1, h3, ?_⟩
    rw [erA_ok h3]
    show (erT (treeOf (sfA t b f))).flat = _
    rw [← h2, sf_flat h1]
  · have hc2 := (erL_facts hc hs).2.1
    have hcb : 0 ≤ clamp b := by unfold clamp; omega
    have e1 := tr_only (V := shV (clamp b) (max 0 (clamp f))) (e := 2) (shV_max hcb) (treeOf t) 0
    have e2 := tr_only (V := shV (clamp b) (max 0 (clamp f))) (e := 2) (shV_max hcb) (treeOf (erL t)) 0
    rw [(sfE_ok hc).1] at h ⊢
    rw [(sfE_ok hc2).1]
    unfold trEL at h ⊢
    omega
theorem su_parts {t u : List Nd} {k : Int} (h : suE t k u = 0) : chk t = 0 ∧ chk u = 0 ∧ 0 ≤ k ∧ k ≤ 99 ∧ trEL (puV k [u]) t 0 = 0 ∧ chk (trL (puV k [u]) t 0) = 0 ∧ suA t k u = trL (puV k [u]) t 0 := by
  have h0 := h
  unfold suE at h
  by_cases h1 : chk t = 0
  · by_cases h2 : chk u = 0
    · by_cases h3 : k < 0 ∨ 99 < k
      · simp [h1, h2, h3] at h
      · simp only [h1, h2, h3, not_true_eq_false, if_false] at h
        have h4 : trEL (puV k [u]) t 0 = 0 := by
          by_cases h4 : trEL (puV k [u]) t 0 = 0
          · exact h4
          · rw [(po_err h4).1] at h; exact absurd h h4
        have h5 := h
        rw [(po_chk h4).1] at h5
        refine ⟨h1, h2, by omega, by omega, h4, h5, ?_⟩
        unfold suA
        rw [if_pos h0, (po_chk h4).2, if_pos h5]
    · simp [h1, h2] at h
  · simp [h1] at h
theorem po_same (t : List Nd) (k : Int) (l : List (List Nd)) : (if poE t k l = 0 then poA t k l else []) = poA t k l := by
  unfold poA
  split <;> rfl
theorem su_of {t u : List Nd} {k : Int} (h1 : chk t = 0) (h2 : chk u = 0) (h3 : 0 ≤ k) (h4 : k ≤ 99) (h5 : trEL (puV k [u]) t 0 = 0) (h6 : chk (trL (puV k [u]) t 0) = 0) : suE t k u = 0 := by
  unfold suE
  have h7 : ¬ (k < 0 ∨ 99 < k) := by omega
  simp only [h1, h2, h7, not_true_eq_false, if_false]
  rw [(po_chk h5).1, h6]
theorem pu_er {u : List Nd} {k : Int} (hs : sml u) (hc : chk u = 0) : ∀ n v, right n = true → n.K = 0 → 0 ≤ v → (puV k [u] n v).1 = 0 → (puV k [erL u] n v).1 = 0 ∧ erT (puV k [u] n v).2 = (puV k [erL u] n v).2 := by
  intro n v hr hk hv h
  have leaf : ∀ m : Nd, m.K = 0 → erT (.mk m []) = .mk m [] := fun m hm => by
    simp only [erT, erTs]
    rw [if_neg (by omega)]
  unfold puV at h ⊢
  by_cases h1 : n.N - v < k
  · simp only [h1, if_true]
    exact ⟨trivial, leaf n hk⟩
  · simp only [h1, if_false] at h ⊢
    by_cases h2 : n.N - v < k + (1 : Nat)
    · have e0 : n.N - v - k = 0 := by omega
      simp only [List.length_singleton, h2, if_true, e0] at h ⊢
      have e1 : ∀ w : List Nd, nthLs [w] 0 = w := fun _ => rfl
      rw [e1] at h ⊢
      rw [e1]
      obtain ⟨h3, h4⟩ := sf_er hs h
      exact ⟨h3, h4.symm⟩
    · simp only [List.length_singleton, h2, if_false] at h ⊢
      exact ⟨trivial, leaf _ rfl⟩
theorem moves_su {t u : List Nd} {k : Int} (hst : sml t) (hsu : sml u) (h : suE t k u = 0) : suE (erA t) k (erA u) = 0 ∧ chk (suA t k u) = 0 ∧ erA (suA t k u) = suA (erA t) k (erA u) := by
  obtain ⟨h1, h2, h3, h4, h5, h6, h7⟩ := su_parts h
  obtain ⟨hw, hf, _, _⟩ := treeOf_ok h1
  have ha := (erL_facts h1 hst).2.1
  have hb := (erL_facts h2 hsu).2.1
  obtain ⟨e1, e2⟩ := tr_erT (pu_er (k := k) hsu h2) (treeOf t) 0 hw (Int.le_refl _) h5
  have hyw := tr_wf (puV_wf (l := [u]) h3) (treeOf t) 0 hw (Int.le_refl _) h5
  have hyl : trL (puV k [u]) t 0 = (trT (puV k [u]) 0 (treeOf t)).flat := by unfold trL; rw [if_pos h5]
  have h6' := h6
  rw [hyl] at h6'
  obtain ⟨_, _, hd, hl⟩ := treeOf_ok h6'
  rw [treeOf_flat hyw] at hd
  obtain ⟨g1, g2, g3⟩ := erT_ok _ hyw
  have a1 : trEL (puV k [erL u]) (erL t) 0 = 0 := by
    show trE _ 0 (treeOf (erL t)) = 0
    rw [erL_tree h1]; exact e1
  have a2 : trL (puV k [erL u]) (erL t) 0 = (erT (trT (puV k [u]) 0 (treeOf t))).flat := by
    unfold trL
    rw [if_pos a1, erL_tree h1, e2]
  have a3 : chk (trL (puV k [erL u]) (erL t) 0) = 0 := by
    rw [a2]
    exact chk_flat g1 (by omega) (by omega)
  rw [erA_ok h1, erA_ok h2]
  have a4 := su_of ha hb h3 h4 a1 a3
  refine ⟨a4, by rw [h7]; exact h6, ?_⟩
  rw [(su_parts a4).2.2.2.2.2.2, a2, h7, erA_ok h6]
  show (erT (treeOf (trL (puV k [u]) t 0))).flat = _
  rw [hyl, treeOf_flat hyw]
theorem suA_len (t u : List Nd) (k : Int) : (suA t k u).length ≤ 4000 := by
  by_cases h : suE t k u = 0
  · obtain ⟨_, _, _, _, _, h6, h7⟩ := su_parts h
    rw [h7]
    exact (treeOf_ok h6).2.2.2
  · unfold suA; rw [if_neg h]; simp
theorem suA_sml {t u : List Nd} {k : Int} (hst : sml t) (hsu : sml u) : sml (suA t k u) := by
  by_cases h : suE t k u = 0
  · obtain ⟨h1, _, _, _, _, _, h7⟩ := su_parts h
    rw [h7]
    exact trL_sml (puV_sml (by simpa using hsu)) (meas_chk h1) hst 0
  · unfold suA; rw [if_neg h]; intro k hk; simp at hk
end Go.Proofs.YtobgdeffhdefeaaDoor
/- Contracts of functions, one theorem each: what the call returns, and that nothing old is changed. Printed by gen.py. -/
namespace Go.Proofs.YtobgdeffhdefeaaDoor
open Go Go.RowKit
set_option linter.unusedSimpArgs false
set_option linter.unusedVariables false

set_option maxRecDepth 100000 in
set_option maxHeartbeats 2000000 in
theorem rSubst_calls (w0 : World) (Z : Nat → Prop) (hZ : ∀ k, Z k → k < w0.heap.size) (tA : Option Addr) (tc : Nat) (t : List Nd) (k : Int) (uA : Option Addr) (uc : Nat) (u : List Nd) (ht : (dRow 4 tA t.length tc (encNs t)).φ w0 Z) (hu : (dRow 4 uA u.length uc (encNs u)).φ w0 Z) (hl : t.length ≤ 4000) (hsm : sml t) (hlu : u.length ≤ 4000) (hsu : sml u) :
    Calls Tryd.prog 29 [.slice tA t.length tc, .int .i64 k, .slice uA u.length uc].toArray w0 (fun e w' => ∃ (rA0 : Option Addr) (rc0 : Nat), e = .returned (.tuple #[.slice rA0 (suA t k u).length rc0, .int .i64 (suE t k u)]) ∧ Fr none_ w0 w' ∧ (dRow 4 rA0 ((suA t k u).length) rc0 (encNs (suA t k u))).φ w' (nxt Z w0 w')) := by
  have hstart : ∀ k, Z k → imm Z w0 [] w0 k ∧ w0.heap[k]? = w0.heap[k]? := fun k hk => ⟨⟨hZ k hk, fun _ => hk, fun _ h => by cases h⟩, rfl⟩
  have hS3 : St w0 Z none_ w0 [] [dRow 4 tA t.length tc (encNs t), dRow 4 uA u.length uc (encNs u)] := St.start w0 Z none_ _ (by
    intro d hd
    simp only [List.mem_cons, List.not_mem_nil, or_false] at hd
    rcases hd with rfl | rfl
    · exact Dat.mono _ _ _ _ _ (Nat.le_refl _) ht hstart
    · exact Dat.mono _ _ _ _ _ (Nat.le_refl _) hu hstart
    )
  refine c_enter Tryd.func29 rfl Tryd.ntmps29 rfl (fun a1 hR2 => ?_)
  refine wp_seq_k (fun K4 hK5 => ?_)
  refine c_region ?_
  refine asg hR2 (fun a6 hR7 => ?_)
  refine asg hR7 (fun a8 hR9 => ?_)
  refine wpList_nil (x_then_n (hK5 _ _ ?_))
  refine wp_seq_k (fun K10 hK11 => ?_)
  refine c_region ?_
  refine mv hR9 (fun a12 hR13 => ?_)
  have hS14 : St w0 Z none_ w0 [] [dRow 4 tA t.length tc (encNs t), dRow 4 uA u.length uc (encNs u)] := hS3
  refine k_call (xs := [.tmp 10]) se hR13 rfl rfl rfl (by decide) ok19 (rcheck_calls _ (imm Z w0 [] _) (fun _ h => h.1) tA tc t (hS14.get (i := 0) rfl) (by first | assumption | omega | (simp; done) | (simp; omega)) (by first | assumption | omega | (simp; done) | (simp; omega))) ?_
  rintro e21 w16 ⟨rfl, hf19⟩
  have hS22 := hS14.below hf19.below
  refine ⟨_, rfl, fun a15 hR17 => ?_⟩
  refine asg hR17 (fun a23 hR24 => ?_)
  refine wpList_nil (x_then_n (hK11 _ _ ?_))
  refine wp_seq_k (fun K25 hK26 => ?_)
  refine wp_seq_k (fun K27 hK28 => ?_)
  refine c_region ?_
  refine mv hR24 (fun a29 hR30 => ?_)
  refine r_eql sv hR30 rfl rfl rfl rfl (by decide) (fun a31 hR32 => ?_)
  refine wpList_nil (x_then_n (hK28 _ _ ?_))
  rcases Decidable.em (((chk t)) = 0) with h33 | h33
  · skip
    have hR34 := hR32.setb (d := 13) (b := true) rfl (decide_eq_true h33)
    refine wp_cond_true (hR34.ev rfl) ?_
    refine c_region ?_
    refine mv hR34 (fun a35 hR36 => ?_)
    have hS37 : St w0 Z none_ w16 [] [dRow 4 tA t.length tc (encNs t), dRow 4 uA u.length uc (encNs u)] := hS22
    refine k_call (xs := [.tmp 14]) se hR36 rfl rfl rfl (by decide) ok19 (rcheck_calls _ (imm Z w0 [] _) (fun _ h => h.1) uA uc u (hS37.get (i := 1) rfl) (by first | assumption | omega | (simp; done) | (simp; omega)) (by first | assumption | omega | (simp; done) | (simp; omega))) ?_
    rintro e44 w39 ⟨rfl, hf42⟩
    have hS45 := hS37.below hf42.below
    refine ⟨_, rfl, fun a38 hR40 => ?_⟩
    refine asg hR40 (fun a46 hR47 => ?_)
    refine wpList_nil (x_then_n (hK26 _ _ ?_))
    refine wp_seq_k (fun K48 hK49 => ?_)
    refine wp_seq_k (fun K50 hK51 => ?_)
    refine c_region ?_
    refine mv hR47 (fun a52 hR53 => ?_)
    refine r_eql sv hR53 rfl rfl rfl rfl (by decide) (fun a54 hR55 => ?_)
    refine mv hR55 (fun a56 hR57 => ?_)
    refine l_join (fun ga gw => Reg ga 37 [(0, .slice tA t.length tc), (1, .int .i64 (k)), (2, .slice uA u.length uc), (6, .slice none 0 0), (7, .int .i64 0), (8, .int .i64 ((chk u))), (25, .bool ((decide (((chk u)) = 0)) && ((decide ((k) < 0)) || (decide (99 < (k)))))), (1000000, .bool false)] ∧ St w0 Z none_ gw [] [dRow 4 tA t.length tc (encNs t), dRow 4 uA u.length uc (encNs u)]) 7 ?_ ?_
    · skip
      rcases Decidable.em (((chk u)) = 0) with h58 | h58
      · skip
        have hR59 := hR57.setb (d := 18) (b := true) rfl (decide_eq_true h58)
        refine r_move (st_listV_w (wt hR59)) hR59 rfl rfl rfl (by decide) (fun a60 hR61 => ?_)
        refine r_lss (st_listV_w (wt hR61)) hR61 rfl rfl rfl rfl (by decide) (fun a62 hR63 => ?_)
        refine r_move (st_listV_w (wt hR63)) hR63 rfl rfl rfl (by decide) (fun a64 hR65 => ?_)
        rcases Decidable.em ((k) < 0) with h66 | h66
        · skip
          have hR67 := hR65.setb (d := 21) (b := true) rfl (decide_eq_true h66)
          refine sps hR67 (wff hR67) (fun a68 hR69 => ?_)
          refine sps hR69 (wff hR69) (fun a70 hR71 => ?_)
          refine r_pick_t (st_listV_w (wt hR71)) hR71 rfl rfl rfl rfl (by decide) (fun a72 hR73 => ?_)
          refine r_pick_t sv hR73 rfl rfl rfl rfl (by decide) (fun a74 hR75 => ?_)
          refine wpList_nil ?_
          exact x_then_n ⟨(hR75.sub (rc rfl (rc rfl (rc rfl (rc rfl (rc rfl (rc rfl (rc (rb rfl (by first | rfl | (simp only [decide_eq_true h58, if_pos h58, decide_eq_true h66, if_pos h66, bl]; done) | (simp [h58, h66]; done) | (simp [h58, h66]; omega))) (rc rfl rnl))))))))), hS45⟩
        · skip
          have hR76 := hR65.setb (d := 21) (b := false) rfl (decide_eq_false h66)
          refine r_move (st_listV_w (wt hR76)) hR76 rfl rfl rfl (by decide) (fun a77 hR78 => ?_)
          refine r_gtr (st_listV_w (wt hR78)) hR78 rfl rfl rfl rfl (by decide) (fun a79 hR80 => ?_)
          refine r_pick_f (st_listV_w (wt hR80)) hR80 rfl rfl rfl rfl (by decide) (fun a81 hR82 => ?_)
          refine r_pick_t sv hR82 rfl rfl rfl rfl (by decide) (fun a83 hR84 => ?_)
          refine wpList_nil ?_
          exact x_then_n ⟨(hR84.sub (rc rfl (rc rfl (rc rfl (rc rfl (rc rfl (rc rfl (rc (rb rfl (by first | rfl | (simp only [decide_eq_true h58, if_pos h58, decide_eq_false h66, if_neg h66, bl]; done) | (simp [h58, h66]; done) | (simp [h58, h66]; omega))) (rc rfl rnl))))))))), hS45⟩
      · skip
        have hR85 := hR57.setb (d := 18) (b := false) rfl (decide_eq_false h58)
        refine sps hR85 (wff hR85) (fun a86 hR87 => ?_)
        refine sps hR87 (wff hR87) (fun a88 hR89 => ?_)
        refine sps hR89 (wff hR89) (fun a90 hR91 => ?_)
        refine sps hR91 (wu hR91) (fun a92 hR93 => ?_)
        refine sps hR93 (wu hR93) (fun a94 hR95 => ?_)
        refine sps hR95 (wff hR95) (fun a96 hR97 => ?_)
        refine r_pick_f sv hR97 rfl rfl rfl rfl (by decide) (fun a98 hR99 => ?_)
        refine wpList_nil ?_
        exact x_then_n ⟨(hR99.sub (rc rfl (rc rfl (rc rfl (rc rfl (rc rfl (rc rfl (rc (rb rfl (by first | rfl | (simp only [decide_eq_false h58, if_neg h58, bl]; done) | (simp [h58]; done) | (simp [h58]; omega))) (rc rfl rnl))))))))), hS45⟩
    rintro a100 w101 ⟨hR102, hS103⟩
    refine wpList_nil (x_then_n (hK51 _ _ ?_))
    rcases Bool.eq_false_or_eq_true (((decide (((chk u)) = 0)) && ((decide ((k) < 0)) || (decide (99 < (k)))))) with h104 | h104
    · skip
      have h105 := and_tl h104
      have h106 := of_decide_eq_true h105
      have h107 := and_tr h104
      have hq108 := h107
      try simp only [Bool.or_eq_true, Bool.and_eq_true, Bool.not_eq_true', Bool.not_eq_false', decide_eq_true_eq, decide_eq_false_iff_not, Bool.or_eq_false_iff, Bool.and_eq_false_iff] at hq108
      have hR109 := hR102.setb (d := 25) (b := true) rfl h104
      refine wp_cond_true (hR109.ev rfl) ?_
      refine c_region ?_
      refine asg hR109 (fun a110 hR111 => ?_)
      refine wpList_nil (x_then_n (hK49 _ _ ?_))
      refine wp_seq_k (fun K112 hK113 => ?_)
      refine wp_seq_k (fun K114 hK115 => ?_)
      refine c_region ?_
      refine mv hR111 (fun a116 hR117 => ?_)
      have h118 : ¬ (1 : Int) = 0 := by decide
      refine r_neq sv hR117 rfl rfl rfl rfl (by decide) (fun a119 hR120 => ?_)
      refine wpList_nil (x_then_n (hK115 _ _ ?_))
      have hR121 := hR120.setb (d := 27) (b := true) rfl (by rw [(decide_eq_false h118)]; rfl)
      refine wp_cond_true (hR121.ev rfl) ?_
      refine wp_seq_k (fun K122 hK123 => ?_)
      refine c_region ?_
      refine mv hR121 (fun a124 hR125 => ?_)
      refine asg hR125 (fun a126 hR127 => ?_)
      refine asg hR127 (fun a128 hR129 => ?_)
      refine wpList_nil (x_then_n (hK123 _ _ ?_))
      refine wp_ret ?_
      refine x_then_r ?_
      refine e_ret2 hR129 rfl rfl rfl rfl ?_
      have he130 : suA t k u = [] := by unfold suA; rw [if_neg (by unfold suE; simp [h33, h104, h106, h118] <;> omega)]
      rw [he130]
      refine ⟨none, 0, ?_, hS103.fr, ⟨Nat.le_refl _, RowI.nil _ _ _ _⟩⟩
      exact ret_t2 rfl (ret_i (by first | omega | (unfold suE; simp only [h33, h104, h106, h118, not_true_eq_false, not_false_eq_true, if_true, if_false]; done) | (unfold suE; simp [h33, h104, h106, h118]; done) | (unfold suE; simp [h33, h104, h106, h118]; omega)))
    · skip
      have hq131 := h104
      try simp only [Bool.or_eq_true, Bool.and_eq_true, Bool.not_eq_true', Bool.not_eq_false', decide_eq_true_eq, decide_eq_false_iff_not, Bool.or_eq_false_iff, Bool.and_eq_false_iff] at hq131
      have hR132 := hR102.setb (d := 25) (b := false) rfl h104
      refine wp_cond_false (hR132.ev rfl) ?_
      refine wp_skip ?_
      refine x_then_n (hK49 _ _ ?_)
      refine wp_seq_k (fun K133 hK134 => ?_)
      refine wp_seq_k (fun K135 hK136 => ?_)
      refine c_region ?_
      refine mv hR132 (fun a137 hR138 => ?_)
      refine r_neq sv hR138 rfl rfl rfl rfl (by decide) (fun a139 hR140 => ?_)
      refine wpList_nil (x_then_n (hK136 _ _ ?_))
      rcases Decidable.em (((chk u)) = 0) with h141 | h141
      · skip
        have hR142 := hR140.setb (d := 27) (b := false) rfl (by rw [(decide_eq_true h141)]; rfl)
        refine wp_cond_false (hR142.ev rfl) ?_
        refine wp_skip ?_
        refine x_then_n (hK134 _ _ ?_)
        refine wp_seq_k (fun K143 hK144 => ?_)
        refine c_region ?_
        refine mv hR142 (fun a145 hR146 => ?_)
        have hS147 := hS103.data (dAll [((uA, uc, u) : Sl)]) (all_cons (hS103.get (i := 1) rfl) all_nil)
        refine m_buildSlice (ps := [(0, .tmp 29)]) (cs := [.slice uA u.length uc]) sv hR146 hS147 rfl rfl rfl Tryd.underlying39 zi22 rfl rfl (by kernel_rfl) rfl (by decide) (fun a148 w149 g150 hR151 hS152 => ?_)
        refine asg hR151 (fun a153 hR154 => ?_)
        refine wpList_nil (x_then_n (hK144 _ _ ?_))
        refine wp_seq_k (fun K155 hK156 => ?_)
        refine c_region ?_
        refine mv hR154 (fun a157 hR158 => ?_)
        refine mv hR158 (fun a159 hR160 => ?_)
        refine mv hR160 (fun a161 hR162 => ?_)
        have hS163 : St w0 Z none_ w149 [.row (some ⟨g150, 0, none⟩) 1 1 22 1 (encSs ([((uA, uc, u) : Sl)]))] [dRow 4 tA t.length tc (encNs t), dRow 4 uA u.length uc (encNs u), dAll [((uA, uc, u) : Sl)]] := hS152
        have hc167 := own_cap (hS163.res (i := 0) rfl)
        obtain ⟨hS164, hrow165⟩ := hS163.row_data (i := 0) rfl (fun _ h => h)
        have hS166 := hS164.data (dRow 1 (some ⟨g150, 0, none⟩) 1 1 (encSs ([((uA, uc, u) : Sl)]))) ⟨hc167, hrow165⟩
        refine k_call (xs := [.tmp 31, .tmp 32, .tmp 33]) se hR162 rfl rfl rfl (by decide) ok54 (rPut_calls _ (imm Z w0 [] _) (fun _ h => h.1) tA tc t (k) (some ⟨g150, 0, none⟩) 1 ([((uA, uc, u) : Sl)]) (hS166.get (i := 0) rfl) (hS166.get (i := 3) rfl) (hS166.get (i := 2) rfl) (by omega) hsm (meas_chk (by assumption)) hl (by simp) (by simpa [lsts] using hlu) (by simpa [lsts] using hsu) (by omega) (by omega)) ?_
        rintro e177 w169 ⟨A173, c174, rfl, hf172, hd175⟩
        have hS178 := hS166.below hf172.below
        have hS179 := hS178.data (dRow 4 A173 ((poA t (k) (lsts ([((uA, uc, u) : Sl)]))).length) c174 (encNs (poA t (k) (lsts ([((uA, uc, u) : Sl)]))))) ⟨hd175.1, hd175.2.mono (fun _ hk => ⟨nxt_imm hS166 hk, rfl⟩)⟩
        refine ⟨_, rfl, fun a168 hR170 => ?_⟩
        refine r_extract sv hR170 rfl rfl rfl rfl (by decide) (fun a180 hR181 => ?_)
        refine r_extract sv hR181 rfl rfl rfl rfl (by decide) (fun a182 hR183 => ?_)
        refine asg hR183 (fun a184 hR185 => ?_)
        refine asg hR185 (fun a186 hR187 => ?_)
        refine wpList_nil (x_then_n (hK156 _ _ ?_))
        refine wp_ret ?_
        refine e_ret2 hR187 rfl rfl rfl rfl ?_
        have he188 : suA t k u = poA t (k) (lsts ([((uA, uc, u) : Sl)])) := by unfold suA suE; simp only [h33, h104, h141, not_true_eq_false, if_false, show ¬ (k < 0 ∨ 99 < k) by omega]; exact po_same _ _ _
        rw [he188]
        refine ⟨A173, c174, ?_, hS179.fr, ⟨by have := (hS179.row (i := 4) rfl).1; exact this, ((hS179.row (i := 4) rfl).2.mono (fun _ hk => ⟨imm_nxt hk, rfl⟩))⟩⟩
        exact ret_t2 rfl (ret_i (by (show poE t k [u] = suE t k u; unfold suE; simp [h33, h104, h141, show ¬ (k < 0 ∨ 99 < k) by omega])))
      · skip
        have hR189 := hR140.setb (d := 27) (b := true) rfl (by rw [(decide_eq_false h141)]; rfl)
        refine wp_cond_true (hR189.ev rfl) ?_
        refine wp_seq_k (fun K190 hK191 => ?_)
        refine c_region ?_
        refine mv hR189 (fun a192 hR193 => ?_)
        refine asg hR193 (fun a194 hR195 => ?_)
        refine asg hR195 (fun a196 hR197 => ?_)
        refine wpList_nil (x_then_n (hK191 _ _ ?_))
        refine wp_ret ?_
        refine x_then_r ?_
        refine e_ret2 hR197 rfl rfl rfl rfl ?_
        have he198 : suA t k u = [] := by unfold suA; rw [if_neg (by unfold suE; simp [h33, h104, h141] <;> omega)]
        rw [he198]
        refine ⟨none, 0, ?_, hS103.fr, ⟨Nat.le_refl _, RowI.nil _ _ _ _⟩⟩
        exact ret_t2 rfl (ret_i (by first | omega | (unfold suE; simp only [h33, h104, h141, not_true_eq_false, not_false_eq_true, if_true, if_false]; done) | (unfold suE; simp [h33, h104, h141]; done) | (unfold suE; simp [h33, h104, h141]; omega)))
  · skip
    have hR199 := hR32.setb (d := 13) (b := false) rfl (decide_eq_false h33)
    refine wp_cond_false (hR199.ev rfl) ?_
    refine wp_skip ?_
    refine x_then_n (hK26 _ _ ?_)
    refine wp_seq_k (fun K200 hK201 => ?_)
    refine wp_seq_k (fun K202 hK203 => ?_)
    refine c_region ?_
    refine mv hR199 (fun a204 hR205 => ?_)
    refine r_eql sv hR205 rfl rfl rfl rfl (by decide) (fun a206 hR207 => ?_)
    refine mv hR207 (fun a208 hR209 => ?_)
    have hR210 := hR209.setb (d := 18) (b := false) rfl (decide_eq_false h33)
    refine sps hR210 (wff hR210) (fun a211 hR212 => ?_)
    refine sps hR212 (wff hR212) (fun a213 hR214 => ?_)
    refine sps hR214 (wff hR214) (fun a215 hR216 => ?_)
    refine sps hR216 (wu hR216) (fun a217 hR218 => ?_)
    refine sps hR218 (wu hR218) (fun a219 hR220 => ?_)
    refine sps hR220 (wff hR220) (fun a221 hR222 => ?_)
    refine r_pick_f sv hR222 rfl rfl rfl rfl (by decide) (fun a223 hR224 => ?_)
    refine wpList_nil (x_then_n (hK203 _ _ ?_))
    refine wp_cond_false (hR224.ev rfl) ?_
    refine wp_skip ?_
    refine x_then_n (hK201 _ _ ?_)
    refine wp_seq_k (fun K225 hK226 => ?_)
    refine wp_seq_k (fun K227 hK228 => ?_)
    refine c_region ?_
    refine mv hR224 (fun a229 hR230 => ?_)
    refine r_neq sv hR230 rfl rfl rfl rfl (by decide) (fun a231 hR232 => ?_)
    refine wpList_nil (x_then_n (hK228 _ _ ?_))
    have hR233 := hR232.setb (d := 27) (b := true) rfl (by rw [(decide_eq_false h33)]; rfl)
    refine wp_cond_true (hR233.ev rfl) ?_
    refine wp_seq_k (fun K234 hK235 => ?_)
    refine c_region ?_
    refine mv hR233 (fun a236 hR237 => ?_)
    refine asg hR237 (fun a238 hR239 => ?_)
    refine asg hR239 (fun a240 hR241 => ?_)
    refine wpList_nil (x_then_n (hK235 _ _ ?_))
    refine wp_ret ?_
    refine x_then_r ?_
    refine e_ret2 hR241 rfl rfl rfl rfl ?_
    have he242 : suA t k u = [] := by unfold suA; rw [if_neg (by unfold suE; simp [h33] <;> omega)]
    rw [he242]
    refine ⟨none, 0, ?_, hS22.fr, ⟨Nat.le_refl _, RowI.nil _ _ _ _⟩⟩
    exact ret_t2 rfl (ret_i (by first | omega | (unfold suE; simp only [h33, not_true_eq_false, not_false_eq_true, if_true, if_false]; done) | (unfold suE; simp [h33]; done) | (unfold suE; simp [h33]; omega)))
end Go.Proofs.YtobgdeffhdefeaaDoor
/- Contracts of functions, one theorem each: what the call returns, and that nothing old is changed. Printed by gen.py. -/
namespace Go.Proofs.YtobgdeffhdefeaaDoor
open Go Go.RowKit
set_option linter.unusedSimpArgs false
set_option linter.unusedVariables false

set_option maxRecDepth 100000 in
set_option maxHeartbeats 1000000 in
theorem right_calls (w0 : World) (Z : Nat → Prop) (hZ : ∀ k, Z k → k < w0.heap.size) (n : Nd) (hShp : Shapes w0 Z) (hs : n.S.size < 1000000) :
    Calls Tryd.prog 112 [.agg #[.int .i64 (n.K), .int .i64 (n.N), .int .i64 (n.M), .string n.S]].toArray w0 (fun e w' => e = .returned (.bool (right n)) ∧ Fr none_ w0 w') := by
  have hstart : ∀ k, Z k → imm Z w0 [] w0 k ∧ w0.heap[k]? = w0.heap[k]? := fun k hk => ⟨⟨hZ k hk, fun _ => hk, fun _ h => by cases h⟩, rfl⟩
  have hS3 : St w0 Z none_ w0 [] [dShapes] := St.start w0 Z none_ _ (by
    intro d hd
    simp only [List.mem_cons, List.not_mem_nil, or_false] at hd
    rcases hd with rfl
    · exact Dat.mono _ _ _ _ _ (Nat.le_refl _) hShp hstart
    )
  refine c_enter Tryd.func112 rfl Tryd.ntmps112 rfl (fun a1 hR2 => ?_)
  refine wp_seq_k (fun K4 hK5 => ?_)
  refine c_region ?_
  refine m_box (cs := [.int .i64 (n.K), .int .i64 (n.N), .int .i64 (n.M), .string n.S]) sv hR2 hS3 rfl rfl rfl rfl (by decide) (fun a6 w7 g8 hR9 hS10 => ?_)
  refine asg hR9 (fun a11 hR12 => ?_)
  refine wpList_nil (x_then_n (hK5 _ _ ?_))
  refine wp_seq_k (fun K13 hK14 => ?_)
  refine wp_seq_k (fun K15 hK16 => ?_)
  refine c_region ?_
  refine m_field (j' := 0) sv hR12 rfl rfl rfl Tryd.underlying32 rfl sz3 rfl rfl (by decide) (fun a17 hR18 => ?_)
  refine m_load (i := 0) sv hR18 hS10 rfl rfl rfl rfl rfl Tryd.underlying3 rfl (by decide) (fun a19 hR20 => ?_)
  refine r_lss sv hR20 rfl rfl rfl rfl (by decide) (fun a21 hR22 => ?_)
  refine mv hR22 (fun a23 hR24 => ?_)
  refine l_join (fun ga gw => Reg ga 110 [(1, .pointer (some ⟨g8, 0, none⟩)), (2, .bool false), (11, .bool ((decide ((n.K) < 0)) || (decide (30 ≤ (n.K))))), (1000000, .bool false)] ∧ St w0 Z none_ gw [.box g8 32 [.int .i64 (n.K), .int .i64 (n.N), .int .i64 (n.M), .string n.S]] [dShapes]) 4 ?_ ?_
  · skip
    rcases Decidable.em ((n.K) < 0) with h25 | h25
    · skip
      have hR26 := hR24.setb (d := 7) (b := true) rfl (decide_eq_true h25)
      refine sps hR26 (wff hR26) (fun a27 hR28 => ?_)
      refine sps hR28 (wff hR28) (fun a29 hR30 => ?_)
      refine sps hR30 (wff hR30) (fun a31 hR32 => ?_)
      refine r_pick_t sv hR32 rfl rfl rfl rfl (by decide) (fun a33 hR34 => ?_)
      refine wpList_nil ?_
      exact x_then_n ⟨(hR34.sub (rc rfl (rc rfl (rc (rb rfl (by first | rfl | (simp only [decide_eq_true h25, if_pos h25, bl]; done) | (simp [h25]; done) | (simp [h25]; omega))) (rc rfl rnl))))), hS10⟩
    · skip
      have hR35 := hR24.setb (d := 7) (b := false) rfl (decide_eq_false h25)
      refine m_field (j' := 0) (st_listV_w (wt hR35)) hR35 rfl rfl rfl Tryd.underlying32 rfl sz3 rfl rfl (by decide) (fun a36 hR37 => ?_)
      refine m_load (i := 0) (st_listV_w (wt hR37)) hR37 hS10 rfl rfl rfl rfl rfl Tryd.underlying3 rfl (by decide) (fun a38 hR39 => ?_)
      refine r_geq (st_listV_w (wt hR39)) hR39 rfl rfl rfl rfl (by decide) (fun a40 hR41 => ?_)
      refine r_pick_f sv hR41 rfl rfl rfl rfl (by decide) (fun a42 hR43 => ?_)
      refine wpList_nil ?_
      exact x_then_n ⟨(hR43.sub (rc rfl (rc rfl (rc (rb rfl (by first | rfl | (simp only [decide_eq_false h25, if_neg h25, bl]; done) | (simp [h25]; done) | (simp [h25]; omega))) (rc rfl rnl))))), hS10⟩
  rintro a44 w45 ⟨hR46, hS47⟩
  refine wpList_nil (x_then_n (hK16 _ _ ?_))
  rcases Bool.eq_false_or_eq_true (((decide ((n.K) < 0)) || (decide (30 ≤ (n.K))))) with h48 | h48
  · skip
    have hq49 := h48
    try simp only [Bool.or_eq_true, Bool.and_eq_true, Bool.not_eq_true', Bool.not_eq_false', decide_eq_true_eq, decide_eq_false_iff_not, Bool.or_eq_false_iff, Bool.and_eq_false_iff] at hq49
    have hR50 := hR46.setb (d := 11) (b := true) rfl h48
    refine wp_cond_true (hR50.ev rfl) ?_
    refine wp_seq_k (fun K51 hK52 => ?_)
    refine c_region ?_
    refine asg hR50 (fun a53 hR54 => ?_)
    refine wpList_nil (x_then_n (hK52 _ _ ?_))
    refine wp_ret ?_
    refine x_then_r ?_
    refine e_ret1 hR54 rfl rfl rfl ?_
    refine ⟨?_, hS47.fr⟩
    exact congrArg Ending.returned (ret_b (by exact (right_bad (by omega)).symm))
  · skip
    have h55 := or_fl h48
    have h56 := of_decide_eq_false h55
    have h57 := or_fr h48
    have h58 := of_decide_eq_false h57
    have hR59 := hR46.setb (d := 11) (b := false) rfl h48
    refine wp_cond_false (hR59.ev rfl) ?_
    refine wp_skip ?_
    refine x_then_n (hK14 _ _ ?_)
    refine wp_seq_k (fun K60 hK61 => ?_)
    refine c_region ?_
    refine m_field (j' := 0) sv hR59 rfl rfl rfl Tryd.underlying32 rfl sz3 rfl rfl (by decide) (fun a62 hR63 => ?_)
    refine m_load (i := 0) sv hR63 hS47 rfl rfl rfl rfl rfl Tryd.underlying3 rfl (by decide) (fun a64 hR65 => ?_)
    refine m_indexA (i := ((n.K)).toNat) (j := (((n.K)).toNat) * 4) sv hR65 rfl rfl rfl rfl Tryd.underlying130 sz129 (by omega) (by omega) rfl (by decide) (fun a66 hR67 => ?_)
    obtain ⟨A68, c69, hd70, he71⟩ := shapes_at (hS47.get (i := 0) rfl) (((n.K)).toNat) (by omega)
    have hS72 := hS47.data (dRow 1 A68 (shp (((n.K)).toNat)).b.length c69 (encIs (shp (((n.K)).toNat)).b)) hd70
    refine m_loadEN sv hR67 rfl rfl rfl he71 Tryd.underlying129 rfl sz129 (by decide) (fun a73 hR74 => ?_)
    refine m_alloc (cs := [.slice none 0 0, .bool false, .bool false, .bool false]) sv hR74 hS72 rfl rfl ze129 rfl (by decide) (fun a75 w76 g77 hR78 hS79 => ?_)
    refine m_store (i := 1) (cs' := [.slice A68 ((shp (((n.K)).toNat)).b.length) c69, .bool ((shp (((n.K)).toNat)).n), .bool ((shp (((n.K)).toNat)).m), .bool ((shp (((n.K)).toNat)).s)]) se hR78 hS79 rfl rfl rfl rfl rfl sz129 rfl rfl rfl (fun a80 w81 hR82 hS83 => ?_)
    refine wpList_nil (x_then_n (hK61 _ _ ?_))
    refine wp_seq_k (fun K84 hK85 => ?_)
    refine wp_block ?_
    refine c_join (fun ga gw => Reg ga 110 [(1, .pointer (some ⟨g8, 0, none⟩)), (2, .bool false), (3, .pointer (some ⟨g77, 0, none⟩)), (16, .bool (((!((shp (((n.K)).toNat)).n)) && (!(decide ((n.N) = 0)))) || (((!((shp (((n.K)).toNat)).m)) && (!(decide ((n.M) = 0)))) || (((!((shp (((n.K)).toNat)).s)) && (!(decide (n.S = (⟨#[]⟩ : ByteArray))))) || (((shp (((n.K)).toNat)).s) && (!(nameOk n.S))))))), (1000000, .bool false)] ∧ St w0 Z none_ gw [.box g8 32 [.int .i64 (n.K), .int .i64 (n.N), .int .i64 (n.M), .string n.S], .box g77 129 [.slice A68 ((shp (((n.K)).toNat)).b.length) c69, .bool ((shp (((n.K)).toNat)).n), .bool ((shp (((n.K)).toNat)).m), .bool ((shp (((n.K)).toNat)).s)]] [dShapes, dRow 1 A68 (shp (((n.K)).toNat)).b.length c69 (encIs (shp (((n.K)).toNat)).b)]) ?_ ?_
    · skip
      refine wp_seq_k (fun K86 hK87 => ?_)
      refine c_region ?_
      refine m_field (j' := 1) sv hR82 rfl rfl rfl Tryd.underlying129 rfl sz4 rfl rfl (by decide) (fun a88 hR89 => ?_)
      refine m_load (i := 1) sv hR89 hS83 rfl rfl rfl rfl rfl Tryd.underlying4 rfl (by decide) (fun a90 hR91 => ?_)
      refine r_not sv hR91 rfl rfl rfl (by decide) (fun a92 hR93 => ?_)
      refine mv hR93 (fun a94 hR95 => ?_)
      refine l_join (fun ga gw => Reg ga 110 [(1, .pointer (some ⟨g8, 0, none⟩)), (2, .bool false), (3, .pointer (some ⟨g77, 0, none⟩)), (24, .bool ((!((shp (((n.K)).toNat)).n)) && (!(decide ((n.N) = 0))))), (1000000, .bool false)] ∧ St w0 Z none_ gw [.box g8 32 [.int .i64 (n.K), .int .i64 (n.N), .int .i64 (n.M), .string n.S], .box g77 129 [.slice A68 ((shp (((n.K)).toNat)).b.length) c69, .bool ((shp (((n.K)).toNat)).n), .bool ((shp (((n.K)).toNat)).m), .bool ((shp (((n.K)).toNat)).s)]] [dShapes, dRow 1 A68 (shp (((n.K)).toNat)).b.length c69 (encIs (shp (((n.K)).toNat)).b)]) 4 ?_ ?_
      · skip
        rcases Bool.eq_false_or_eq_true ((shp (((n.K)).toNat)).n) with h96 | h96
        · skip
          have hR97 := hR95.setb (d := 20) (b := false) rfl (by rw [h96]; rfl)
          refine sps hR97 (wff hR97) (fun a98 hR99 => ?_)
          refine sps hR99 (wff hR99) (fun a100 hR101 => ?_)
          refine sps hR101 (wff hR101) (fun a102 hR103 => ?_)
          refine r_pick_f sv hR103 rfl rfl rfl rfl (by decide) (fun a104 hR105 => ?_)
          refine wpList_nil ?_
          exact x_then_n ⟨(hR105.sub (rc rfl (rc rfl (rc rfl (rc (rb rfl (by first | rfl | (simp only [h96, bl]; done) | (simp [h96]; done) | (simp [h96]; omega))) (rc rfl rnl)))))), hS83⟩
        · skip
          have hR106 := hR95.setb (d := 20) (b := true) rfl (by rw [h96]; rfl)
          refine m_field (j' := 1) (st_listV_w (wt hR106)) hR106 rfl rfl rfl Tryd.underlying32 rfl sz3 rfl rfl (by decide) (fun a107 hR108 => ?_)
          refine m_load (i := 0) (st_listV_w (wt hR108)) hR108 hS83 rfl rfl rfl rfl rfl Tryd.underlying3 rfl (by decide) (fun a109 hR110 => ?_)
          refine r_neq (st_listV_w (wt hR110)) hR110 rfl rfl rfl rfl (by decide) (fun a111 hR112 => ?_)
          refine r_pick_t sv hR112 rfl rfl rfl rfl (by decide) (fun a113 hR114 => ?_)
          refine wpList_nil ?_
          exact x_then_n ⟨(hR114.sub (rc rfl (rc rfl (rc rfl (rc (rb rfl (by first | rfl | (simp only [h96, bl]; done) | (simp [h96]; done) | (simp [h96]; omega))) (rc rfl rnl)))))), hS83⟩
      rintro a115 w116 ⟨hR117, hS118⟩
      refine asg hR117 (fun a119 hR120 => ?_)
      refine wpList_nil (x_then_n (hK87 _ _ ?_))
      rcases Bool.eq_false_or_eq_true (((!((shp (((n.K)).toNat)).n)) && (!(decide ((n.N) = 0))))) with h121 | h121
      · skip
        have h122 := and_tl h121
        have h123 := not_t h122
        have h124 := and_tr h121
        have h125 := not_t h124
        have h126 := of_decide_eq_false h125
        have hR127 := hR120.setb (d := 16) (b := true) rfl h121
        refine wp_cond_true (hR127.ev rfl) ?_
        refine wp_skip ?_
        exact x_then_n ⟨(hR127.sub (rc rfl (rc rfl (rc rfl (rc (rb rfl (by first | rfl | (simp only [h121, bl]; done) | (simp [h121]; done) | (simp [h121]; omega))) (rc rfl rnl)))))), hS118⟩
      · skip
        have hq128 := h121
        try simp only [Bool.or_eq_true, Bool.and_eq_true, Bool.not_eq_true', Bool.not_eq_false', decide_eq_true_eq, decide_eq_false_iff_not, Bool.or_eq_false_iff, Bool.and_eq_false_iff] at hq128
        have hR129 := hR120.setb (d := 16) (b := false) rfl h121
        refine wp_cond_false (hR129.ev rfl) ?_
        refine wp_seq_k (fun K130 hK131 => ?_)
        refine c_region ?_
        refine m_field (j' := 2) sv hR129 rfl rfl rfl Tryd.underlying129 rfl sz4 rfl rfl (by decide) (fun a132 hR133 => ?_)
        refine m_load (i := 1) sv hR133 hS118 rfl rfl rfl rfl rfl Tryd.underlying4 rfl (by decide) (fun a134 hR135 => ?_)
        refine r_not sv hR135 rfl rfl rfl (by decide) (fun a136 hR137 => ?_)
        refine mv hR137 (fun a138 hR139 => ?_)
        refine l_join (fun ga gw => Reg ga 110 [(1, .pointer (some ⟨g8, 0, none⟩)), (2, .bool false), (3, .pointer (some ⟨g77, 0, none⟩)), (16, .bool false), (32, .bool ((!((shp (((n.K)).toNat)).m)) && (!(decide ((n.M) = 0))))), (1000000, .bool false)] ∧ St w0 Z none_ gw [.box g8 32 [.int .i64 (n.K), .int .i64 (n.N), .int .i64 (n.M), .string n.S], .box g77 129 [.slice A68 ((shp (((n.K)).toNat)).b.length) c69, .bool ((shp (((n.K)).toNat)).n), .bool ((shp (((n.K)).toNat)).m), .bool ((shp (((n.K)).toNat)).s)]] [dShapes, dRow 1 A68 (shp (((n.K)).toNat)).b.length c69 (encIs (shp (((n.K)).toNat)).b)]) 4 ?_ ?_
        · skip
          rcases Bool.eq_false_or_eq_true ((shp (((n.K)).toNat)).m) with h140 | h140
          · skip
            have hR141 := hR139.setb (d := 28) (b := false) rfl (by rw [h140]; rfl)
            refine sps hR141 (wff hR141) (fun a142 hR143 => ?_)
            refine sps hR143 (wff hR143) (fun a144 hR145 => ?_)
            refine sps hR145 (wff hR145) (fun a146 hR147 => ?_)
            refine r_pick_f sv hR147 rfl rfl rfl rfl (by decide) (fun a148 hR149 => ?_)
            refine wpList_nil ?_
            exact x_then_n ⟨(hR149.sub (rc rfl (rc rfl (rc rfl (rc rfl (rc (rb rfl (by first | rfl | (simp only [h140, bl]; done) | (simp [h140]; done) | (simp [h140]; omega))) (rc rfl rnl))))))), hS118⟩
          · skip
            have hR150 := hR139.setb (d := 28) (b := true) rfl (by rw [h140]; rfl)
            refine m_field (j' := 2) (st_listV_w (wt hR150)) hR150 rfl rfl rfl Tryd.underlying32 rfl sz3 rfl rfl (by decide) (fun a151 hR152 => ?_)
            refine m_load (i := 0) (st_listV_w (wt hR152)) hR152 hS118 rfl rfl rfl rfl rfl Tryd.underlying3 rfl (by decide) (fun a153 hR154 => ?_)
            refine r_neq (st_listV_w (wt hR154)) hR154 rfl rfl rfl rfl (by decide) (fun a155 hR156 => ?_)
            refine r_pick_t sv hR156 rfl rfl rfl rfl (by decide) (fun a157 hR158 => ?_)
            refine wpList_nil ?_
            exact x_then_n ⟨(hR158.sub (rc rfl (rc rfl (rc rfl (rc rfl (rc (rb rfl (by first | rfl | (simp only [h140, bl]; done) | (simp [h140]; done) | (simp [h140]; omega))) (rc rfl rnl))))))), hS118⟩
        rintro a159 w160 ⟨hR161, hS162⟩
        refine asg hR161 (fun a163 hR164 => ?_)
        refine wpList_nil (x_then_n (hK131 _ _ ?_))
        rcases Bool.eq_false_or_eq_true (((!((shp (((n.K)).toNat)).m)) && (!(decide ((n.M) = 0))))) with h165 | h165
        · skip
          have h166 := and_tl h165
          have h167 := not_t h166
          have h168 := and_tr h165
          have h169 := not_t h168
          have h170 := of_decide_eq_false h169
          have hR171 := hR164.setb (d := 16) (b := true) rfl h165
          refine wp_cond_true (hR171.ev rfl) ?_
          refine wp_skip ?_
          exact x_then_n ⟨(hR171.sub (rc rfl (rc rfl (rc rfl (rc (rb rfl (by first | rfl | (simp only [h121, h165, bl]; done) | (simp [h121, h165]; done) | (simp [h121, h165]; omega))) (rc rfl rnl)))))), hS162⟩
        · skip
          have hq172 := h165
          try simp only [Bool.or_eq_true, Bool.and_eq_true, Bool.not_eq_true', Bool.not_eq_false', decide_eq_true_eq, decide_eq_false_iff_not, Bool.or_eq_false_iff, Bool.and_eq_false_iff] at hq172
          have hR173 := hR164.setb (d := 16) (b := false) rfl h165
          refine wp_cond_false (hR173.ev rfl) ?_
          refine wp_seq_k (fun K174 hK175 => ?_)
          refine c_region ?_
          refine m_field (j' := 3) sv hR173 rfl rfl rfl Tryd.underlying129 rfl sz4 rfl rfl (by decide) (fun a176 hR177 => ?_)
          refine m_load (i := 1) sv hR177 hS162 rfl rfl rfl rfl rfl Tryd.underlying4 rfl (by decide) (fun a178 hR179 => ?_)
          refine r_not sv hR179 rfl rfl rfl (by decide) (fun a180 hR181 => ?_)
          refine mv hR181 (fun a182 hR183 => ?_)
          refine l_join (fun ga gw => Reg ga 110 [(1, .pointer (some ⟨g8, 0, none⟩)), (2, .bool false), (3, .pointer (some ⟨g77, 0, none⟩)), (16, .bool false), (40, .bool ((!((shp (((n.K)).toNat)).s)) && (!(decide (n.S = (⟨#[]⟩ : ByteArray)))))), (1000000, .bool false)] ∧ St w0 Z none_ gw [.box g8 32 [.int .i64 (n.K), .int .i64 (n.N), .int .i64 (n.M), .string n.S], .box g77 129 [.slice A68 ((shp (((n.K)).toNat)).b.length) c69, .bool ((shp (((n.K)).toNat)).n), .bool ((shp (((n.K)).toNat)).m), .bool ((shp (((n.K)).toNat)).s)]] [dShapes, dRow 1 A68 (shp (((n.K)).toNat)).b.length c69 (encIs (shp (((n.K)).toNat)).b)]) 4 ?_ ?_
          · skip
            rcases Bool.eq_false_or_eq_true ((shp (((n.K)).toNat)).s) with h184 | h184
            · skip
              have hR185 := hR183.setb (d := 36) (b := false) rfl (by rw [h184]; rfl)
              refine sps hR185 (wff hR185) (fun a186 hR187 => ?_)
              refine sps hR187 (wff hR187) (fun a188 hR189 => ?_)
              refine sps hR189 (wff hR189) (fun a190 hR191 => ?_)
              refine r_pick_f sv hR191 rfl rfl rfl rfl (by decide) (fun a192 hR193 => ?_)
              refine wpList_nil ?_
              exact x_then_n ⟨(hR193.sub (rc rfl (rc rfl (rc rfl (rc rfl (rc (rb rfl (by first | rfl | (simp only [h184, bl]; done) | (simp [h184]; done) | (simp [h184]; omega))) (rc rfl rnl))))))), hS162⟩
            · skip
              have hR194 := hR183.setb (d := 36) (b := true) rfl (by rw [h184]; rfl)
              refine m_field (j' := 3) (st_listV_w (wt hR194)) hR194 rfl rfl rfl Tryd.underlying32 rfl sz9 rfl rfl (by decide) (fun a195 hR196 => ?_)
              refine m_load (i := 0) (st_listV_w (wt hR196)) hR196 hS162 rfl rfl rfl rfl rfl Tryd.underlying9 rfl (by decide) (fun a197 hR198 => ?_)
              refine r_neqS (st_listV_w (wt hR198)) hR198 rfl rfl rfl rfl (by decide) (fun a199 hR200 => ?_)
              refine r_pick_t sv hR200 rfl rfl rfl rfl (by decide) (fun a201 hR202 => ?_)
              refine wpList_nil ?_
              exact x_then_n ⟨(hR202.sub (rc rfl (rc rfl (rc rfl (rc rfl (rc (rb rfl (by first | rfl | (simp only [h184, bl]; done) | (simp [h184]; done) | (simp [h184]; omega))) (rc rfl rnl))))))), hS162⟩
          rintro a203 w204 ⟨hR205, hS206⟩
          refine asg hR205 (fun a207 hR208 => ?_)
          refine wpList_nil (x_then_n (hK175 _ _ ?_))
          rcases Bool.eq_false_or_eq_true (((!((shp (((n.K)).toNat)).s)) && (!(decide (n.S = (⟨#[]⟩ : ByteArray)))))) with h209 | h209
          · skip
            have h210 := and_tl h209
            have h211 := not_t h210
            have h212 := and_tr h209
            have h213 := not_t h212
            have h214 := of_decide_eq_false h213
            have hR215 := hR208.setb (d := 16) (b := true) rfl h209
            refine wp_cond_true (hR215.ev rfl) ?_
            refine wp_skip ?_
            exact x_then_n ⟨(hR215.sub (rc rfl (rc rfl (rc rfl (rc (rb rfl (by first | rfl | (simp only [h121, h165, h209, bl]; done) | (simp [h121, h165, h209]; done) | (simp [h121, h165, h209]; omega))) (rc rfl rnl)))))), hS206⟩
          · skip
            have hq216 := h209
            try simp only [Bool.or_eq_true, Bool.and_eq_true, Bool.not_eq_true', Bool.not_eq_false', decide_eq_true_eq, decide_eq_false_iff_not, Bool.or_eq_false_iff, Bool.and_eq_false_iff] at hq216
            have hR217 := hR208.setb (d := 16) (b := false) rfl h209
            refine wp_cond_false (hR217.ev rfl) ?_
            refine c_region ?_
            refine m_field (j' := 3) sv hR217 rfl rfl rfl Tryd.underlying129 rfl sz4 rfl rfl (by decide) (fun a218 hR219 => ?_)
            refine m_load (i := 1) sv hR219 hS206 rfl rfl rfl rfl rfl Tryd.underlying4 rfl (by decide) (fun a220 hR221 => ?_)
            refine mv hR221 (fun a222 hR223 => ?_)
            refine l_join (fun ga gw => Reg ga 110 [(1, .pointer (some ⟨g8, 0, none⟩)), (2, .bool false), (3, .pointer (some ⟨g77, 0, none⟩)), (16, .bool false), (48, .bool (((shp (((n.K)).toNat)).s) && (!(nameOk n.S)))), (1000000, .bool false)] ∧ St w0 Z none_ gw [.box g8 32 [.int .i64 (n.K), .int .i64 (n.N), .int .i64 (n.M), .string n.S], .box g77 129 [.slice A68 ((shp (((n.K)).toNat)).b.length) c69, .bool ((shp (((n.K)).toNat)).n), .bool ((shp (((n.K)).toNat)).m), .bool ((shp (((n.K)).toNat)).s)]] [dShapes, dRow 1 A68 (shp (((n.K)).toNat)).b.length c69 (encIs (shp (((n.K)).toNat)).b)]) 5 ?_ ?_
            · skip
              rcases Bool.eq_false_or_eq_true ((shp (((n.K)).toNat)).s) with h224 | h224
              · skip
                have hR225 := hR223.setb (d := 43) (b := true) rfl h224
                refine m_field (j' := 3) (st_listV_w (wt hR225)) hR225 rfl rfl rfl Tryd.underlying32 rfl sz9 rfl rfl (by decide) (fun a226 hR227 => ?_)
                refine m_load (i := 0) (st_listV_w (wt hR227)) hR227 hS206 rfl rfl rfl rfl rfl Tryd.underlying9 rfl (by decide) (fun a228 hR229 => ?_)
                have hS230 : St w0 Z none_ w204 [.box g8 32 [.int .i64 (n.K), .int .i64 (n.N), .int .i64 (n.M), .string n.S], .box g77 129 [.slice A68 ((shp (((n.K)).toNat)).b.length) c69, .bool ((shp (((n.K)).toNat)).n), .bool ((shp (((n.K)).toNat)).m), .bool ((shp (((n.K)).toNat)).s)]] [dShapes, dRow 1 A68 (shp (((n.K)).toNat)).b.length c69 (encIs (shp (((n.K)).toNat)).b)] := hS206
                refine k_call (xs := [.tmp 45]) (st_list_w (wt hR229)) hR229 rfl rfl rfl (by decide) ok128 (name_calls _ (imm Z w0 [.box g8 32 [.int .i64 (n.K), .int .i64 (n.N), .int .i64 (n.M), .string n.S], .box g77 129 [.slice A68 ((shp (((n.K)).toNat)).b.length) c69, .bool ((shp (((n.K)).toNat)).n), .bool ((shp (((n.K)).toNat)).m), .bool ((shp (((n.K)).toNat)).s)]] _) (fun _ h => h.1) n.S (by first | assumption | omega | (simp; done) | (simp; omega))) ?_
                rintro e237 w232 ⟨rfl, hf235⟩
                have hS238 := hS230.below hf235.below
                refine ⟨_, rfl, fun a231 hR233 => ?_⟩
                refine r_not (st_listV_w (wt hR233)) hR233 rfl rfl rfl (by decide) (fun a239 hR240 => ?_)
                refine r_pick_t sv hR240 rfl rfl rfl rfl (by decide) (fun a241 hR242 => ?_)
                refine wpList_nil ?_
                exact x_then_n ⟨(hR242.sub (rc rfl (rc rfl (rc rfl (rc rfl (rc (rb rfl (by first | rfl | (simp only [h224, bl]; done) | (simp [h224]; done) | (simp [h224]; omega))) (rc rfl rnl))))))), hS238⟩
              · skip
                have hR243 := hR223.setb (d := 43) (b := false) rfl h224
                refine sps hR243 (wff hR243) (fun a244 hR245 => ?_)
                refine sps hR245 (wff hR245) (fun a246 hR247 => ?_)
                refine sps hR247 (wff hR247) (fun a248 hR249 => ?_)
                refine sps hR249 (wff hR249) (fun a250 hR251 => ?_)
                refine r_pick_f sv hR251 rfl rfl rfl rfl (by decide) (fun a252 hR253 => ?_)
                refine wpList_nil ?_
                exact x_then_n ⟨(hR253.sub (rc rfl (rc rfl (rc rfl (rc rfl (rc (rb rfl (by first | rfl | (simp only [h224, bl]; done) | (simp [h224]; done) | (simp [h224]; omega))) (rc rfl rnl))))))), hS206⟩
            rintro a254 w255 ⟨hR256, hS257⟩
            refine asg hR256 (fun a258 hR259 => ?_)
            refine wpList_nil ?_
            exact x_then_n ⟨(hR259.sub (rc rfl (rc rfl (rc rfl (rc (rb rfl (by first | rfl | (simp only [h121, h165, h209, bl]; done) | (simp [h121, h165, h209]; done) | (simp [h121, h165, h209]; omega))) (rc rfl rnl)))))), hS257⟩
    rintro a260 w261 ⟨hR262, hS263⟩
    rcases Bool.eq_false_or_eq_true ((((!((shp (((n.K)).toNat)).n)) && (!(decide ((n.N) = 0)))) || (((!((shp (((n.K)).toNat)).m)) && (!(decide ((n.M) = 0)))) || (((!((shp (((n.K)).toNat)).s)) && (!(decide (n.S = (⟨#[]⟩ : ByteArray))))) || (((shp (((n.K)).toNat)).s) && (!(nameOk n.S))))))) with h264 | h264
    · skip
      have hq265 := h264
      try simp only [Bool.or_eq_true, Bool.and_eq_true, Bool.not_eq_true', Bool.not_eq_false', decide_eq_true_eq, decide_eq_false_iff_not, Bool.or_eq_false_iff, Bool.and_eq_false_iff] at hq265
      have hR266 := hR262.setb (d := 16) (b := true) rfl h264
      refine wp_cond_true (hR266.ev rfl) ?_
      refine wp_seq_k (fun K267 hK268 => ?_)
      refine c_region ?_
      refine asg hR266 (fun a269 hR270 => ?_)
      refine wpList_nil (x_then_n (hK268 _ _ ?_))
      refine wp_ret ?_
      refine x_block_r ?_
      refine x_then_r ?_
      refine e_ret1 hR270 rfl rfl rfl ?_
      refine ⟨?_, hS263.fr⟩
      exact congrArg Ending.returned (ret_b (by first | exact (right_sort h264 (by assumption)).symm | exact (right_big h264).symm | (rw [right_con' h264 (by assumption)]; first | rfl | (simp <;> omega) | (simp [h48, h56, h58, h264]; done) | (rw [Bool.eq_iff_iff]; simp <;> omega)) | (rw [right_elim' h264 (by assumption)]; first | rfl | (simp <;> omega) | (simp [h48, h56, h58, h264]; done) | (rw [Bool.eq_iff_iff]; simp <;> omega)) | (rw [right_oth h264 (by omega) (by omega) (by assumption) (by assumption) (by assumption)]; first | rfl | (simp <;> omega) | (simp [h48, h56, h58, h264]; done) | (rw [Bool.eq_iff_iff]; simp <;> omega))))
    · skip
      have h271 := or_fl h264
      have hq272 := h271
      try simp only [Bool.or_eq_true, Bool.and_eq_true, Bool.not_eq_true', Bool.not_eq_false', decide_eq_true_eq, decide_eq_false_iff_not, Bool.or_eq_false_iff, Bool.and_eq_false_iff] at hq272
      have h273 := or_fr h264
      have h274 := or_fl h273
      have hq275 := h274
      try simp only [Bool.or_eq_true, Bool.and_eq_true, Bool.not_eq_true', Bool.not_eq_false', decide_eq_true_eq, decide_eq_false_iff_not, Bool.or_eq_false_iff, Bool.and_eq_false_iff] at hq275
      have h276 := or_fr h273
      have h277 := or_fl h276
      have hq278 := h277
      try simp only [Bool.or_eq_true, Bool.and_eq_true, Bool.not_eq_true', Bool.not_eq_false', decide_eq_true_eq, decide_eq_false_iff_not, Bool.or_eq_false_iff, Bool.and_eq_false_iff] at hq278
      have h279 := or_fr h276
      have hq280 := h279
      try simp only [Bool.or_eq_true, Bool.and_eq_true, Bool.not_eq_true', Bool.not_eq_false', decide_eq_true_eq, decide_eq_false_iff_not, Bool.or_eq_false_iff, Bool.and_eq_false_iff] at hq280
      have hR281 := hR262.setb (d := 16) (b := false) rfl h264
      refine wp_cond_false (hR281.ev rfl) ?_
      refine wp_seq_k (fun K282 hK283 => ?_)
      refine c_region ?_
      refine m_field (j' := 0) sv hR281 rfl rfl rfl Tryd.underlying32 rfl sz3 rfl rfl (by decide) (fun a284 hR285 => ?_)
      refine m_load (i := 0) sv hR285 hS263 rfl rfl rfl rfl rfl Tryd.underlying3 rfl (by decide) (fun a286 hR287 => ?_)
      refine r_eql sv hR287 rfl rfl rfl rfl (by decide) (fun a288 hR289 => ?_)
      refine asg hR289 (fun a290 hR291 => ?_)
      refine wpList_nil (x_then_n (hK283 _ _ ?_))
      rcases Decidable.em ((n.K) = 2) with h292 | h292
      · skip
        have hR293 := hR291.setb (d := 49) (b := true) rfl (decide_eq_true h292)
        refine wp_cond_true (hR293.ev rfl) ?_
        refine wp_seq_k (fun K294 hK295 => ?_)
        refine c_region ?_
        refine m_field (j' := 1) sv hR293 rfl rfl rfl Tryd.underlying32 rfl sz3 rfl rfl (by decide) (fun a296 hR297 => ?_)
        refine m_load (i := 0) sv hR297 hS263 rfl rfl rfl rfl rfl Tryd.underlying3 rfl (by decide) (fun a298 hR299 => ?_)
        have hS300 : St w0 Z none_ w261 [.box g8 32 [.int .i64 (n.K), .int .i64 (n.N), .int .i64 (n.M), .string n.S], .box g77 129 [.slice A68 ((shp (((n.K)).toNat)).b.length) c69, .bool ((shp (((n.K)).toNat)).n), .bool ((shp (((n.K)).toNat)).m), .bool ((shp (((n.K)).toNat)).s)]] [dShapes, dRow 1 A68 (shp (((n.K)).toNat)).b.length c69 (encIs (shp (((n.K)).toNat)).b)] := hS263
        refine k_call (xs := [.tmp 54]) se hR299 rfl rfl rfl (by decide) ok129 (lvCheck_calls _ (imm Z w0 [.box g8 32 [.int .i64 (n.K), .int .i64 (n.N), .int .i64 (n.M), .string n.S], .box g77 129 [.slice A68 ((shp (((n.K)).toNat)).b.length) c69, .bool ((shp (((n.K)).toNat)).n), .bool ((shp (((n.K)).toNat)).m), .bool ((shp (((n.K)).toNat)).s)]] _) (fun _ h => h.1) (n.N)) ?_
        rintro e307 w302 ⟨rfl, hf305⟩
        have hS308 := hS300.below hf305.below
        refine ⟨_, rfl, fun a301 hR303 => ?_⟩
        refine r_eql sv hR303 rfl rfl rfl rfl (by decide) (fun a309 hR310 => ?_)
        refine asg hR310 (fun a311 hR312 => ?_)
        refine wpList_nil (x_then_n (hK295 _ _ ?_))
        refine wp_ret ?_
        refine x_block_r ?_
        refine x_then_r ?_
        refine e_ret1 hR312 rfl rfl rfl ?_
        refine ⟨?_, hS308.fr⟩
        exact congrArg Ending.returned (ret_b (by first | exact (right_sort h264 (by assumption)).symm | exact (right_big h264).symm | (rw [right_con' h264 (by assumption)]; first | rfl | (simp <;> omega) | (simp [h48, h56, h58, h264, h292]; done) | (rw [Bool.eq_iff_iff]; simp <;> omega)) | (rw [right_elim' h264 (by assumption)]; first | rfl | (simp <;> omega) | (simp [h48, h56, h58, h264, h292]; done) | (rw [Bool.eq_iff_iff]; simp <;> omega)) | (rw [right_oth h264 (by omega) (by omega) (by assumption) (by assumption) (by assumption)]; first | rfl | (simp <;> omega) | (simp [h48, h56, h58, h264, h292]; done) | (rw [Bool.eq_iff_iff]; simp <;> omega))))
      · skip
        have hR313 := hR291.setb (d := 49) (b := false) rfl (decide_eq_false h292)
        refine wp_cond_false (hR313.ev rfl) ?_
        refine wp_seq_k (fun K314 hK315 => ?_)
        refine c_region ?_
        refine m_field (j' := 0) sv hR313 rfl rfl rfl Tryd.underlying32 rfl sz3 rfl rfl (by decide) (fun a316 hR317 => ?_)
        refine m_load (i := 0) sv hR317 hS263 rfl rfl rfl rfl rfl Tryd.underlying3 rfl (by decide) (fun a318 hR319 => ?_)
        refine r_eql sv hR319 rfl rfl rfl rfl (by decide) (fun a320 hR321 => ?_)
        refine asg hR321 (fun a322 hR323 => ?_)
        refine wpList_nil (x_then_n (hK315 _ _ ?_))
        rcases Decidable.em ((n.K) = 26) with h324 | h324
        · skip
          have hR325 := hR323.setb (d := 57) (b := true) rfl (decide_eq_true h324)
          refine wp_cond_true (hR325.ev rfl) ?_
          refine wp_seq_k (fun K326 hK327 => ?_)
          obtain ⟨J328, hJ329, hS330⟩ := hS263.agree
          refine d_region2 (S := (fun x => agr w261 J328 x ∧ cel g8 0 (.int .i64 (n.K)) x ∧ cel g8 1 (.int .i64 (n.N)) x ∧ cel g8 2 (.int .i64 (n.M)) x ∧ cel g8 3 (.string n.S) x ∧ True)) (n := 22) mixed rfl hS330 (pan_then (pan_block (pan_then pan_body))) (fun Q333 hP334 hN335 w331 hS332 => ?_)
          have hSw336 : agr w261 J328 w331 ∧ cel g8 0 (.int .i64 (n.K)) w331 ∧ cel g8 1 (.int .i64 (n.N)) w331 ∧ cel g8 2 (.int .i64 (n.M)) w331 ∧ cel g8 3 (.string n.S) w331 ∧ True := ⟨⟨(hS332.get (i := 2) rfl).1, fun k hk => ((hS332.get (i := 2) rfl).2 k hk).2⟩, (box_cell (hS332.res (i := 0) rfl) rfl), (box_cell (hS332.res (i := 0) rfl) rfl), (box_cell (hS332.res (i := 0) rfl) rfl), (box_cell (hS332.res (i := 0) rfl) rfl), trivial⟩
          refine dt 0 rfl hP334 hR325 (want_n rfl) (fun x hx => m_field (j' := 1) (sy hR325) hR325 rfl rfl rfl Tryd.underlying32 rfl sz3 rfl rfl (by decide) gt) hSw336 (fun a337 hR338 => ?_)
          refine dt 1 rfl hP334 hR338 (want_n rfl) (fun x hx => m_loadC (sy hR338) hR338 rfl rfl rfl hx.2.2.1 Tryd.underlying3 rfl (by decide) gt) hSw336 (fun a339 hR340 => ?_)
          refine dt 2 rfl hP334 hR340 (want_n rfl) (fun x hx => r_geq (sy hR340) hR340 rfl rfl rfl rfl (by decide) gt) hSw336 (fun a341 hR342 => ?_)
          refine dt 3 rfl hP334 hR342 (want_n rfl) (fun x hx => r_move (sy hR342) hR342 rfl rfl rfl (by decide) gt) hSw336 (fun a343 hR344 => ?_)
          rcases Decidable.em (0 ≤ (n.N)) with h345 | h345
          · skip
            have hR346 := hR344.setb (d := 64) (b := true) rfl (decide_eq_true h345)
            refine dt 4 rfl hP334 hR346 (wt hR346) (fun x hx => m_field (j' := 1) (sy hR346) hR346 rfl rfl rfl Tryd.underlying32 rfl sz3 rfl rfl (by decide) gt) hSw336 (fun a347 hR348 => ?_)
            refine dt 5 rfl hP334 hR348 (wt hR348) (fun x hx => m_loadC (sy hR348) hR348 rfl rfl rfl hx.2.2.1 Tryd.underlying3 rfl (by decide) gt) hSw336 (fun a349 hR350 => ?_)
            refine dt 6 rfl hP334 hR350 (wt hR350) (fun x hx => m_field (j' := 0) (sy hR350) hR350 rfl rfl rfl Tryd.underlying32 rfl sz3 rfl rfl (by decide) gt) hSw336 (fun a351 hR352 => ?_)
            refine dt 7 rfl hP334 hR352 (wt hR352) (fun x hx => m_loadC (sy hR352) hR352 rfl rfl rfl hx.2.1 Tryd.underlying3 rfl (by decide) gt) hSw336 (fun a353 hR354 => ?_)
            refine d_one (i := 8) (by kernel_rfl) ?_
            have hS355 : St w0 Z none_ w331 [.box g8 32 [.int .i64 (n.K), .int .i64 (n.N), .int .i64 (n.M), .string n.S], .box g77 129 [.slice A68 ((shp (((n.K)).toNat)).b.length) c69, .bool ((shp (((n.K)).toNat)).n), .bool ((shp (((n.K)).toNat)).m), .bool ((shp (((n.K)).toNat)).s)]] [dShapes, dRow 1 A68 (shp (((n.K)).toNat)).b.length c69 (encIs (shp (((n.K)).toNat)).b), dAg w261 J328] := hS332
            refine k_call (xs := [.tmp 68]) (st_op rfl (wt hR354)) hR354 rfl rfl rfl (by decide) ok130 (most_calls _ (imm Z w0 [.box g8 32 [.int .i64 (n.K), .int .i64 (n.N), .int .i64 (n.M), .string n.S], .box g77 129 [.slice A68 ((shp (((n.K)).toNat)).b.length) c69, .bool ((shp (((n.K)).toNat)).n), .bool ((shp (((n.K)).toNat)).m), .bool ((shp (((n.K)).toNat)).s)]] _) (fun _ h => h.1) (n.K)) ?_
            rintro e362 w357 ⟨rfl, hf360⟩
            have hS363 := hS355.below hf360.below
            refine ⟨_, rfl, fun a356 hR358 => ?_⟩
            have hSw364 : agr w261 J328 w357 ∧ cel g8 0 (.int .i64 (n.K)) w357 ∧ cel g8 1 (.int .i64 (n.N)) w357 ∧ cel g8 2 (.int .i64 (n.M)) w357 ∧ cel g8 3 (.string n.S) w357 ∧ True := ⟨⟨(hS363.get (i := 2) rfl).1, fun k hk => ((hS363.get (i := 2) rfl).2 k hk).2⟩, (box_cell (hS363.res (i := 0) rfl) rfl), (box_cell (hS363.res (i := 0) rfl) rfl), (box_cell (hS363.res (i := 0) rfl) rfl), (box_cell (hS363.res (i := 0) rfl) rfl), trivial⟩
            refine ⟨hSw364, ?_⟩
            refine dt 9 rfl hP334 hR358 (wt hR358) (fun x hx => r_leq (sy hR358) hR358 rfl rfl rfl rfl (by decide) gt) hSw364 (fun a365 hR366 => ?_)
            refine dt 10 rfl hP334 hR366 (want_n rfl) (fun x hx => r_pick_t (sy hR366) hR366 rfl rfl rfl rfl (by decide) gt) hSw364 (fun a367 hR368 => ?_)
            refine dt 11 rfl hP334 hR368 (want_n rfl) (fun x hx => r_move (sy hR368) hR368 rfl rfl rfl (by decide) gt) hSw364 (fun a369 hR370 => ?_)
            rcases Decidable.em ((n.N) ≤ ((most (n.K)))) with h371 | h371
            · skip
              have hR372 := hR370.setb (d := 72) (b := true) rfl (decide_eq_true h371)
              refine dt 12 rfl hP334 hR372 (wt hR372) (fun x hx => m_field (j' := 2) (sy hR372) hR372 rfl rfl rfl Tryd.underlying32 rfl sz3 rfl rfl (by decide) gt) hSw364 (fun a373 hR374 => ?_)
              refine dt 13 rfl hP334 hR374 (wt hR374) (fun x hx => m_loadC (sy hR374) hR374 rfl rfl rfl hx.2.2.2.1 Tryd.underlying3 rfl (by decide) gt) hSw364 (fun a375 hR376 => ?_)
              refine dt 14 rfl hP334 hR376 (wt hR376) (fun x hx => r_geq (sy hR376) hR376 rfl rfl rfl rfl (by decide) gt) hSw364 (fun a377 hR378 => ?_)
              refine dt 15 rfl hP334 hR378 (want_n rfl) (fun x hx => r_pick_t (sy hR378) hR378 rfl rfl rfl rfl (by decide) gt) hSw364 (fun a379 hR380 => ?_)
              refine dt 16 rfl hP334 hR380 (want_n rfl) (fun x hx => r_move (sy hR380) hR380 rfl rfl rfl (by decide) gt) hSw364 (fun a381 hR382 => ?_)
              rcases Decidable.em (0 ≤ (n.M)) with h383 | h383
              · skip
                have hR384 := hR382.setb (d := 77) (b := true) rfl (decide_eq_true h383)
                refine dt 17 rfl hP334 hR384 (wt hR384) (fun x hx => m_field (j' := 2) (sy hR384) hR384 rfl rfl rfl Tryd.underlying32 rfl sz3 rfl rfl (by decide) gt) hSw364 (fun a385 hR386 => ?_)
                refine dt 18 rfl hP334 hR386 (wt hR386) (fun x hx => m_loadC (sy hR386) hR386 rfl rfl rfl hx.2.2.2.1 Tryd.underlying3 rfl (by decide) gt) hSw364 (fun a387 hR388 => ?_)
                refine dt 19 rfl hP334 hR388 (wt hR388) (fun x hx => r_leq (sy hR388) hR388 rfl rfl rfl rfl (by decide) gt) hSw364 (fun a389 hR390 => ?_)
                refine dt 20 rfl hP334 hR390 (want_n rfl) (fun x hx => r_pick_t (sy hR390) hR390 rfl rfl rfl rfl (by decide) gt) hSw364 (fun a391 hR392 => ?_)
                refine dt 21 rfl hP334 hR392 (want_n rfl) (fun x hx => r_assign (sy hR392) hR392 rfl rfl rfl (by decide) gt) hSw364 (fun a393 hR394 => ?_)
                refine wpAnyH_done (by kernel_rfl) (hN335 _ _ ?_) _
                refine x_then_n (hK327 _ _ ?_)
                refine wp_ret ?_
                refine x_block_r ?_
                refine x_then_r ?_
                refine e_ret1 hR394 rfl rfl rfl ?_
                refine ⟨?_, hS363.fr⟩
                exact congrArg Ending.returned (ret_b (by first | exact (right_sort h264 (by assumption)).symm | exact (right_big h264).symm | (rw [right_con' h264 (by assumption)]; first | rfl | (simp <;> omega) | (simp [h48, h56, h58, h264, h292, h324, h345, h371, h383]; done) | (rw [Bool.eq_iff_iff]; simp <;> omega)) | (rw [right_elim' h264 (by assumption)]; first | rfl | (simp <;> omega) | (simp [h48, h56, h58, h264, h292, h324, h345, h371, h383]; done) | (rw [Bool.eq_iff_iff]; simp <;> omega)) | (rw [right_oth h264 (by omega) (by omega) (by assumption) (by assumption) (by assumption)]; first | rfl | (simp <;> omega) | (simp [h48, h56, h58, h264, h292, h324, h345, h371, h383]; done) | (rw [Bool.eq_iff_iff]; simp <;> omega))))
              · skip
                have hR395 := hR382.setb (d := 77) (b := false) rfl (decide_eq_false h383)
                refine dp 17 rfl hP334 hR395 (wff hR395) hSw364 (fun a396 hR397 => ?_)
                refine dp 18 rfl hP334 hR397 (wff hR397) hSw364 (fun a398 hR399 => ?_)
                refine dp 19 rfl hP334 hR399 (wff hR399) hSw364 (fun a400 hR401 => ?_)
                refine dt 20 rfl hP334 hR401 (want_n rfl) (fun x hx => r_pick_f (sy hR401) hR401 rfl rfl rfl rfl (by decide) gt) hSw364 (fun a402 hR403 => ?_)
                refine dt 21 rfl hP334 hR403 (want_n rfl) (fun x hx => r_assign (sy hR403) hR403 rfl rfl rfl (by decide) gt) hSw364 (fun a404 hR405 => ?_)
                refine wpAnyH_done (by kernel_rfl) (hN335 _ _ ?_) _
                refine x_then_n (hK327 _ _ ?_)
                refine wp_ret ?_
                refine x_block_r ?_
                refine x_then_r ?_
                refine e_ret1 hR405 rfl rfl rfl ?_
                refine ⟨?_, hS363.fr⟩
                exact congrArg Ending.returned (ret_b (by first | exact (right_sort h264 (by assumption)).symm | exact (right_big h264).symm | (rw [right_con' h264 (by assumption)]; first | rfl | (simp <;> omega) | (simp [h48, h56, h58, h264, h292, h324, h345, h371, h383]; done) | (rw [Bool.eq_iff_iff]; simp <;> omega)) | (rw [right_elim' h264 (by assumption)]; first | rfl | (simp <;> omega) | (simp [h48, h56, h58, h264, h292, h324, h345, h371, h383]; done) | (rw [Bool.eq_iff_iff]; simp <;> omega)) | (rw [right_oth h264 (by omega) (by omega) (by assumption) (by assumption) (by assumption)]; first | rfl | (simp <;> omega) | (simp [h48, h56, h58, h264, h292, h324, h345, h371, h383]; done) | (rw [Bool.eq_iff_iff]; simp <;> omega))))
            · skip
              have hR406 := hR370.setb (d := 72) (b := false) rfl (decide_eq_false h371)
              refine dp 12 rfl hP334 hR406 (wff hR406) hSw364 (fun a407 hR408 => ?_)
              refine dp 13 rfl hP334 hR408 (wff hR408) hSw364 (fun a409 hR410 => ?_)
              refine dp 14 rfl hP334 hR410 (wff hR410) hSw364 (fun a411 hR412 => ?_)
              refine dt 15 rfl hP334 hR412 (want_n rfl) (fun x hx => r_pick_f (sy hR412) hR412 rfl rfl rfl rfl (by decide) gt) hSw364 (fun a413 hR414 => ?_)
              refine dt 16 rfl hP334 hR414 (want_n rfl) (fun x hx => r_move (sy hR414) hR414 rfl rfl rfl (by decide) gt) hSw364 (fun a415 hR416 => ?_)
              refine dp 17 rfl hP334 hR416 (wff hR416) hSw364 (fun a417 hR418 => ?_)
              refine dp 18 rfl hP334 hR418 (wff hR418) hSw364 (fun a419 hR420 => ?_)
              refine dp 19 rfl hP334 hR420 (wff hR420) hSw364 (fun a421 hR422 => ?_)
              refine dt 20 rfl hP334 hR422 (want_n rfl) (fun x hx => r_pick_f (sy hR422) hR422 rfl rfl rfl rfl (by decide) gt) hSw364 (fun a423 hR424 => ?_)
              refine dt 21 rfl hP334 hR424 (want_n rfl) (fun x hx => r_assign (sy hR424) hR424 rfl rfl rfl (by decide) gt) hSw364 (fun a425 hR426 => ?_)
              refine wpAnyH_done (by kernel_rfl) (hN335 _ _ ?_) _
              refine x_then_n (hK327 _ _ ?_)
              refine wp_ret ?_
              refine x_block_r ?_
              refine x_then_r ?_
              refine e_ret1 hR426 rfl rfl rfl ?_
              refine ⟨?_, hS363.fr⟩
              exact congrArg Ending.returned (ret_b (by first | exact (right_sort h264 (by assumption)).symm | exact (right_big h264).symm | (rw [right_con' h264 (by assumption)]; first | rfl | (simp <;> omega) | (simp [h48, h56, h58, h264, h292, h324, h345, h371]; done) | (rw [Bool.eq_iff_iff]; simp <;> omega)) | (rw [right_elim' h264 (by assumption)]; first | rfl | (simp <;> omega) | (simp [h48, h56, h58, h264, h292, h324, h345, h371]; done) | (rw [Bool.eq_iff_iff]; simp <;> omega)) | (rw [right_oth h264 (by omega) (by omega) (by assumption) (by assumption) (by assumption)]; first | rfl | (simp <;> omega) | (simp [h48, h56, h58, h264, h292, h324, h345, h371]; done) | (rw [Bool.eq_iff_iff]; simp <;> omega))))
          · skip
            have hR427 := hR344.setb (d := 64) (b := false) rfl (decide_eq_false h345)
            refine dp 4 rfl hP334 hR427 (wff hR427) hSw336 (fun a428 hR429 => ?_)
            refine dp 5 rfl hP334 hR429 (wff hR429) hSw336 (fun a430 hR431 => ?_)
            refine dp 6 rfl hP334 hR431 (wff hR431) hSw336 (fun a432 hR433 => ?_)
            refine dp 7 rfl hP334 hR433 (wff hR433) hSw336 (fun a434 hR435 => ?_)
            refine dp 8 rfl hP334 hR435 (wff hR435) hSw336 (fun a436 hR437 => ?_)
            refine dp 9 rfl hP334 hR437 (wff hR437) hSw336 (fun a438 hR439 => ?_)
            refine dt 10 rfl hP334 hR439 (want_n rfl) (fun x hx => r_pick_f (sy hR439) hR439 rfl rfl rfl rfl (by decide) gt) hSw336 (fun a440 hR441 => ?_)
            refine dt 11 rfl hP334 hR441 (want_n rfl) (fun x hx => r_move (sy hR441) hR441 rfl rfl rfl (by decide) gt) hSw336 (fun a442 hR443 => ?_)
            refine dp 12 rfl hP334 hR443 (wff hR443) hSw336 (fun a444 hR445 => ?_)
            refine dp 13 rfl hP334 hR445 (wff hR445) hSw336 (fun a446 hR447 => ?_)
            refine dp 14 rfl hP334 hR447 (wff hR447) hSw336 (fun a448 hR449 => ?_)
            refine dt 15 rfl hP334 hR449 (want_n rfl) (fun x hx => r_pick_f (sy hR449) hR449 rfl rfl rfl rfl (by decide) gt) hSw336 (fun a450 hR451 => ?_)
            refine dt 16 rfl hP334 hR451 (want_n rfl) (fun x hx => r_move (sy hR451) hR451 rfl rfl rfl (by decide) gt) hSw336 (fun a452 hR453 => ?_)
            refine dp 17 rfl hP334 hR453 (wff hR453) hSw336 (fun a454 hR455 => ?_)
            refine dp 18 rfl hP334 hR455 (wff hR455) hSw336 (fun a456 hR457 => ?_)
            refine dp 19 rfl hP334 hR457 (wff hR457) hSw336 (fun a458 hR459 => ?_)
            refine dt 20 rfl hP334 hR459 (want_n rfl) (fun x hx => r_pick_f (sy hR459) hR459 rfl rfl rfl rfl (by decide) gt) hSw336 (fun a460 hR461 => ?_)
            refine dt 21 rfl hP334 hR461 (want_n rfl) (fun x hx => r_assign (sy hR461) hR461 rfl rfl rfl (by decide) gt) hSw336 (fun a462 hR463 => ?_)
            refine wpAnyH_done (by kernel_rfl) (hN335 _ _ ?_) _
            refine x_then_n (hK327 _ _ ?_)
            refine wp_ret ?_
            refine x_block_r ?_
            refine x_then_r ?_
            refine e_ret1 hR463 rfl rfl rfl ?_
            refine ⟨?_, hS332.fr⟩
            exact congrArg Ending.returned (ret_b (by first | exact (right_sort h264 (by assumption)).symm | exact (right_big h264).symm | (rw [right_con' h264 (by assumption)]; first | rfl | (simp <;> omega) | (simp [h48, h56, h58, h264, h292, h324, h345]; done) | (rw [Bool.eq_iff_iff]; simp <;> omega)) | (rw [right_elim' h264 (by assumption)]; first | rfl | (simp <;> omega) | (simp [h48, h56, h58, h264, h292, h324, h345]; done) | (rw [Bool.eq_iff_iff]; simp <;> omega)) | (rw [right_oth h264 (by omega) (by omega) (by assumption) (by assumption) (by assumption)]; first | rfl | (simp <;> omega) | (simp [h48, h56, h58, h264, h292, h324, h345]; done) | (rw [Bool.eq_iff_iff]; simp <;> omega))))
        · skip
          have hR464 := hR323.setb (d := 57) (b := false) rfl (decide_eq_false h324)
          refine wp_cond_false (hR464.ev rfl) ?_
          refine wp_seq_k (fun K465 hK466 => ?_)
          refine c_region ?_
          refine m_field (j' := 0) sv hR464 rfl rfl rfl Tryd.underlying32 rfl sz3 rfl rfl (by decide) (fun a467 hR468 => ?_)
          refine m_load (i := 0) sv hR468 hS263 rfl rfl rfl rfl rfl Tryd.underlying3 rfl (by decide) (fun a469 hR470 => ?_)
          refine r_eql sv hR470 rfl rfl rfl rfl (by decide) (fun a471 hR472 => ?_)
          refine asg hR472 (fun a473 hR474 => ?_)
          refine wpList_nil (x_then_n (hK466 _ _ ?_))
          rcases Decidable.em ((n.K) = 27) with h475 | h475
          · skip
            have hR476 := hR474.setb (d := 82) (b := true) rfl (decide_eq_true h475)
            refine wp_cond_true (hR476.ev rfl) ?_
            refine wp_seq_k (fun K477 hK478 => ?_)
            refine c_region ?_
            refine m_field (j' := 2) sv hR476 rfl rfl rfl Tryd.underlying32 rfl sz3 rfl rfl (by decide) (fun a479 hR480 => ?_)
            refine m_load (i := 0) sv hR480 hS263 rfl rfl rfl rfl rfl Tryd.underlying3 rfl (by decide) (fun a481 hR482 => ?_)
            refine r_geq sv hR482 rfl rfl rfl rfl (by decide) (fun a483 hR484 => ?_)
            refine mv hR484 (fun a485 hR486 => ?_)
            refine l_join (fun ga gw => Reg ga 110 [(1, .pointer (some ⟨g8, 0, none⟩)), (2, .bool false), (3, .pointer (some ⟨g77, 0, none⟩)), (93, .bool ((decide (0 ≤ (n.M))) && (decide ((n.M) ≤ 6)))), (1000000, .bool false)] ∧ St w0 Z none_ gw [.box g8 32 [.int .i64 (n.K), .int .i64 (n.N), .int .i64 (n.M), .string n.S], .box g77 129 [.slice A68 ((shp (((n.K)).toNat)).b.length) c69, .bool ((shp (((n.K)).toNat)).n), .bool ((shp (((n.K)).toNat)).m), .bool ((shp (((n.K)).toNat)).s)]] [dShapes, dRow 1 A68 (shp (((n.K)).toNat)).b.length c69 (encIs (shp (((n.K)).toNat)).b)]) 4 ?_ ?_
            · skip
              rcases Decidable.em (0 ≤ (n.M)) with h487 | h487
              · skip
                have hR488 := hR486.setb (d := 89) (b := true) rfl (decide_eq_true h487)
                refine m_field (j' := 2) (st_listV_w (wt hR488)) hR488 rfl rfl rfl Tryd.underlying32 rfl sz3 rfl rfl (by decide) (fun a489 hR490 => ?_)
                refine m_load (i := 0) (st_listV_w (wt hR490)) hR490 hS263 rfl rfl rfl rfl rfl Tryd.underlying3 rfl (by decide) (fun a491 hR492 => ?_)
                refine r_leq (st_listV_w (wt hR492)) hR492 rfl rfl rfl rfl (by decide) (fun a493 hR494 => ?_)
                refine r_pick_t sv hR494 rfl rfl rfl rfl (by decide) (fun a495 hR496 => ?_)
                refine wpList_nil ?_
                exact x_then_n ⟨(hR496.sub (rc rfl (rc rfl (rc rfl (rc (rb rfl (by first | rfl | (simp only [decide_eq_true h487, if_pos h487, bl]; done) | (simp [h487]; done) | (simp [h487]; omega))) (rc rfl rnl)))))), hS263⟩
              · skip
                have hR497 := hR486.setb (d := 89) (b := false) rfl (decide_eq_false h487)
                refine sps hR497 (wff hR497) (fun a498 hR499 => ?_)
                refine sps hR499 (wff hR499) (fun a500 hR501 => ?_)
                refine sps hR501 (wff hR501) (fun a502 hR503 => ?_)
                refine r_pick_f sv hR503 rfl rfl rfl rfl (by decide) (fun a504 hR505 => ?_)
                refine wpList_nil ?_
                exact x_then_n ⟨(hR505.sub (rc rfl (rc rfl (rc rfl (rc (rb rfl (by first | rfl | (simp only [decide_eq_false h487, if_neg h487, bl]; done) | (simp [h487]; done) | (simp [h487]; omega))) (rc rfl rnl)))))), hS263⟩
            rintro a506 w507 ⟨hR508, hS509⟩
            refine asg hR508 (fun a510 hR511 => ?_)
            refine wpList_nil (x_then_n (hK478 _ _ ?_))
            refine wp_ret ?_
            refine x_block_r ?_
            refine x_then_r ?_
            refine e_ret1 hR511 rfl rfl rfl ?_
            refine ⟨?_, hS509.fr⟩
            exact congrArg Ending.returned (ret_b (by first | exact (right_sort h264 (by assumption)).symm | exact (right_big h264).symm | (rw [right_con' h264 (by assumption)]; first | rfl | (simp <;> omega) | (simp [h48, h56, h58, h264, h292, h324, h475]; done) | (rw [Bool.eq_iff_iff]; simp <;> omega)) | (rw [right_elim' h264 (by assumption)]; first | rfl | (simp <;> omega) | (simp [h48, h56, h58, h264, h292, h324, h475]; done) | (rw [Bool.eq_iff_iff]; simp <;> omega)) | (rw [right_oth h264 (by omega) (by omega) (by assumption) (by assumption) (by assumption)]; first | rfl | (simp <;> omega) | (simp [h48, h56, h58, h264, h292, h324, h475]; done) | (rw [Bool.eq_iff_iff]; simp <;> omega))))
          · skip
            have hR512 := hR474.setb (d := 82) (b := false) rfl (decide_eq_false h475)
            refine wp_cond_false (hR512.ev rfl) ?_
            refine wp_skip ?_
            refine x_block_n ?_
            refine x_then_n (hK85 _ _ ?_)
            refine wp_seq_k (fun K513 hK514 => ?_)
            obtain ⟨J515, hJ516, hS517⟩ := hS263.agree
            refine d_region2 (S := (fun x => agr w261 J515 x ∧ cel g8 0 (.int .i64 (n.K)) x ∧ cel g8 1 (.int .i64 (n.N)) x ∧ cel g8 2 (.int .i64 (n.M)) x ∧ cel g8 3 (.string n.S) x ∧ cel g77 0 (.slice A68 ((shp (((n.K)).toNat)).b.length) c69) x ∧ cel g77 1 (.bool ((shp (((n.K)).toNat)).n)) x ∧ cel g77 2 (.bool ((shp (((n.K)).toNat)).m)) x ∧ cel g77 3 (.bool ((shp (((n.K)).toNat)).s)) x ∧ True)) (n := 17) mixed rfl hS517 (pan_then pan_body) (fun Q520 hP521 hN522 w518 hS519 => ?_)
            have hSw523 : agr w261 J515 w518 ∧ cel g8 0 (.int .i64 (n.K)) w518 ∧ cel g8 1 (.int .i64 (n.N)) w518 ∧ cel g8 2 (.int .i64 (n.M)) w518 ∧ cel g8 3 (.string n.S) w518 ∧ cel g77 0 (.slice A68 ((shp (((n.K)).toNat)).b.length) c69) w518 ∧ cel g77 1 (.bool ((shp (((n.K)).toNat)).n)) w518 ∧ cel g77 2 (.bool ((shp (((n.K)).toNat)).m)) w518 ∧ cel g77 3 (.bool ((shp (((n.K)).toNat)).s)) w518 ∧ True := ⟨⟨(hS519.get (i := 2) rfl).1, fun k hk => ((hS519.get (i := 2) rfl).2 k hk).2⟩, (box_cell (hS519.res (i := 0) rfl) rfl), (box_cell (hS519.res (i := 0) rfl) rfl), (box_cell (hS519.res (i := 0) rfl) rfl), (box_cell (hS519.res (i := 0) rfl) rfl), (box_cell (hS519.res (i := 1) rfl) rfl), (box_cell (hS519.res (i := 1) rfl) rfl), (box_cell (hS519.res (i := 1) rfl) rfl), (box_cell (hS519.res (i := 1) rfl) rfl), trivial⟩
            refine dt 0 rfl hP521 hR512 (want_n rfl) (fun x hx => m_field (j' := 1) (sy hR512) hR512 rfl rfl rfl Tryd.underlying129 rfl sz4 rfl rfl (by decide) gt) hSw523 (fun a524 hR525 => ?_)
            refine dt 1 rfl hP521 hR525 (want_n rfl) (fun x hx => m_loadC (sy hR525) hR525 rfl rfl rfl hx.2.2.2.2.2.2.1 Tryd.underlying4 rfl (by decide) gt) hSw523 (fun a526 hR527 => ?_)
            refine dt 2 rfl hP521 hR527 (want_n rfl) (fun x hx => r_not (sy hR527) hR527 rfl rfl rfl (by decide) gt) hSw523 (fun a528 hR529 => ?_)
            refine dt 3 rfl hP521 hR529 (want_n rfl) (fun x hx => r_move (sy hR529) hR529 rfl rfl rfl (by decide) gt) hSw523 (fun a530 hR531 => ?_)
            rcases Bool.eq_false_or_eq_true ((shp (((n.K)).toNat)).n) with h532 | h532
            · skip
              have hR533 := hR531.setb (d := 97) (b := false) rfl (by rw [h532]; rfl)
              refine dt 4 rfl hP521 hR533 (wt hR533) (fun x hx => m_field (j' := 1) (sy hR533) hR533 rfl rfl rfl Tryd.underlying32 rfl sz3 rfl rfl (by decide) gt) hSw523 (fun a534 hR535 => ?_)
              refine dt 5 rfl hP521 hR535 (wt hR535) (fun x hx => m_loadC (sy hR535) hR535 rfl rfl rfl hx.2.2.1 Tryd.underlying3 rfl (by decide) gt) hSw523 (fun a536 hR537 => ?_)
              refine dt 6 rfl hP521 hR537 (wt hR537) (fun x hx => r_geq (sy hR537) hR537 rfl rfl rfl rfl (by decide) gt) hSw523 (fun a538 hR539 => ?_)
              refine dt 7 rfl hP521 hR539 (wt hR539) (fun x hx => r_move (sy hR539) hR539 rfl rfl rfl (by decide) gt) hSw523 (fun a540 hR541 => ?_)
              rcases Decidable.em (0 ≤ (n.N)) with h542 | h542
              · skip
                have hR543 := hR541.setb (d := 101) (b := true) rfl (decide_eq_true h542)
                refine dt 8 rfl hP521 hR543 (wt hR543) (fun x hx => m_field (j' := 1) (sy hR543) hR543 rfl rfl rfl Tryd.underlying32 rfl sz3 rfl rfl (by decide) gt) hSw523 (fun a544 hR545 => ?_)
                refine dt 9 rfl hP521 hR545 (wt hR545) (fun x hx => m_loadC (sy hR545) hR545 rfl rfl rfl hx.2.2.1 Tryd.underlying3 rfl (by decide) gt) hSw523 (fun a546 hR547 => ?_)
                refine dt 10 rfl hP521 hR547 (wt hR547) (fun x hx => m_field (j' := 0) (sy hR547) hR547 rfl rfl rfl Tryd.underlying32 rfl sz3 rfl rfl (by decide) gt) hSw523 (fun a548 hR549 => ?_)
                refine dt 11 rfl hP521 hR549 (wt hR549) (fun x hx => m_loadC (sy hR549) hR549 rfl rfl rfl hx.2.1 Tryd.underlying3 rfl (by decide) gt) hSw523 (fun a550 hR551 => ?_)
                refine d_one (i := 12) (by kernel_rfl) ?_
                have hS552 : St w0 Z none_ w518 [.box g8 32 [.int .i64 (n.K), .int .i64 (n.N), .int .i64 (n.M), .string n.S], .box g77 129 [.slice A68 ((shp (((n.K)).toNat)).b.length) c69, .bool ((shp (((n.K)).toNat)).n), .bool ((shp (((n.K)).toNat)).m), .bool ((shp (((n.K)).toNat)).s)]] [dShapes, dRow 1 A68 (shp (((n.K)).toNat)).b.length c69 (encIs (shp (((n.K)).toNat)).b), dAg w261 J515] := hS519
                refine k_call (xs := [.tmp 105]) (st_op rfl (wt hR551)) hR551 rfl rfl rfl (by decide) ok130 (most_calls _ (imm Z w0 [.box g8 32 [.int .i64 (n.K), .int .i64 (n.N), .int .i64 (n.M), .string n.S], .box g77 129 [.slice A68 ((shp (((n.K)).toNat)).b.length) c69, .bool ((shp (((n.K)).toNat)).n), .bool ((shp (((n.K)).toNat)).m), .bool ((shp (((n.K)).toNat)).s)]] _) (fun _ h => h.1) (n.K)) ?_
                rintro e559 w554 ⟨rfl, hf557⟩
                have hS560 := hS552.below hf557.below
                refine ⟨_, rfl, fun a553 hR555 => ?_⟩
                have hSw561 : agr w261 J515 w554 ∧ cel g8 0 (.int .i64 (n.K)) w554 ∧ cel g8 1 (.int .i64 (n.N)) w554 ∧ cel g8 2 (.int .i64 (n.M)) w554 ∧ cel g8 3 (.string n.S) w554 ∧ cel g77 0 (.slice A68 ((shp (((n.K)).toNat)).b.length) c69) w554 ∧ cel g77 1 (.bool ((shp (((n.K)).toNat)).n)) w554 ∧ cel g77 2 (.bool ((shp (((n.K)).toNat)).m)) w554 ∧ cel g77 3 (.bool ((shp (((n.K)).toNat)).s)) w554 ∧ True := ⟨⟨(hS560.get (i := 2) rfl).1, fun k hk => ((hS560.get (i := 2) rfl).2 k hk).2⟩, (box_cell (hS560.res (i := 0) rfl) rfl), (box_cell (hS560.res (i := 0) rfl) rfl), (box_cell (hS560.res (i := 0) rfl) rfl), (box_cell (hS560.res (i := 0) rfl) rfl), (box_cell (hS560.res (i := 1) rfl) rfl), (box_cell (hS560.res (i := 1) rfl) rfl), (box_cell (hS560.res (i := 1) rfl) rfl), (box_cell (hS560.res (i := 1) rfl) rfl), trivial⟩
                refine ⟨hSw561, ?_⟩
                refine dt 13 rfl hP521 hR555 (wt hR555) (fun x hx => r_leq (sy hR555) hR555 rfl rfl rfl rfl (by decide) gt) hSw561 (fun a562 hR563 => ?_)
                refine dt 14 rfl hP521 hR563 (wt hR563) (fun x hx => r_pick_t (sy hR563) hR563 rfl rfl rfl rfl (by decide) gt) hSw561 (fun a564 hR565 => ?_)
                refine dt 15 rfl hP521 hR565 (want_n rfl) (fun x hx => r_pick_f (sy hR565) hR565 rfl rfl rfl rfl (by decide) gt) hSw561 (fun a566 hR567 => ?_)
                refine dt 16 rfl hP521 hR567 (want_n rfl) (fun x hx => r_assign (sy hR567) hR567 rfl rfl rfl (by decide) gt) hSw561 (fun a568 hR569 => ?_)
                refine wpAnyH_done (by kernel_rfl) (hN522 _ _ ?_) _
                refine x_then_n (hK514 _ _ ?_)
                refine wp_ret ?_
                refine e_ret1 hR569 rfl rfl rfl ?_
                refine ⟨?_, hS560.fr⟩
                exact congrArg Ending.returned (ret_b (by first | exact (right_sort h264 (by assumption)).symm | exact (right_big h264).symm | (rw [right_con' h264 (by assumption)]; first | rfl | (simp <;> omega) | (simp [h48, h56, h58, h264, h292, h324, h475, h532, h542]; done) | (rw [Bool.eq_iff_iff]; simp <;> omega)) | (rw [right_elim' h264 (by assumption)]; first | rfl | (simp <;> omega) | (simp [h48, h56, h58, h264, h292, h324, h475, h532, h542]; done) | (rw [Bool.eq_iff_iff]; simp <;> omega)) | (rw [right_oth h264 (by omega) (by omega) (by assumption) (by assumption) (by assumption)]; first | rfl | (simp <;> omega) | (simp [h48, h56, h58, h264, h292, h324, h475, h532, h542]; done) | (rw [Bool.eq_iff_iff]; simp <;> omega))))
              · skip
                have hR570 := hR541.setb (d := 101) (b := false) rfl (decide_eq_false h542)
                refine dp 8 rfl hP521 hR570 (wff hR570) hSw523 (fun a571 hR572 => ?_)
                refine dp 9 rfl hP521 hR572 (wff hR572) hSw523 (fun a573 hR574 => ?_)
                refine dp 10 rfl hP521 hR574 (wff hR574) hSw523 (fun a575 hR576 => ?_)
                refine dp 11 rfl hP521 hR576 (wff hR576) hSw523 (fun a577 hR578 => ?_)
                refine dp 12 rfl hP521 hR578 (wff hR578) hSw523 (fun a579 hR580 => ?_)
                refine dp 13 rfl hP521 hR580 (wff hR580) hSw523 (fun a581 hR582 => ?_)
                refine dt 14 rfl hP521 hR582 (wt hR582) (fun x hx => r_pick_f (sy hR582) hR582 rfl rfl rfl rfl (by decide) gt) hSw523 (fun a583 hR584 => ?_)
                refine dt 15 rfl hP521 hR584 (want_n rfl) (fun x hx => r_pick_f (sy hR584) hR584 rfl rfl rfl rfl (by decide) gt) hSw523 (fun a585 hR586 => ?_)
                refine dt 16 rfl hP521 hR586 (want_n rfl) (fun x hx => r_assign (sy hR586) hR586 rfl rfl rfl (by decide) gt) hSw523 (fun a587 hR588 => ?_)
                refine wpAnyH_done (by kernel_rfl) (hN522 _ _ ?_) _
                refine x_then_n (hK514 _ _ ?_)
                refine wp_ret ?_
                refine e_ret1 hR588 rfl rfl rfl ?_
                refine ⟨?_, hS519.fr⟩
                exact congrArg Ending.returned (ret_b (by first | exact (right_sort h264 (by assumption)).symm | exact (right_big h264).symm | (rw [right_con' h264 (by assumption)]; first | rfl | (simp <;> omega) | (simp [h48, h56, h58, h264, h292, h324, h475, h532, h542]; done) | (rw [Bool.eq_iff_iff]; simp <;> omega)) | (rw [right_elim' h264 (by assumption)]; first | rfl | (simp <;> omega) | (simp [h48, h56, h58, h264, h292, h324, h475, h532, h542]; done) | (rw [Bool.eq_iff_iff]; simp <;> omega)) | (rw [right_oth h264 (by omega) (by omega) (by assumption) (by assumption) (by assumption)]; first | rfl | (simp <;> omega) | (simp [h48, h56, h58, h264, h292, h324, h475, h532, h542]; done) | (rw [Bool.eq_iff_iff]; simp <;> omega))))
            · skip
              have hR589 := hR531.setb (d := 97) (b := true) rfl (by rw [h532]; rfl)
              refine dp 4 rfl hP521 hR589 (wff hR589) hSw523 (fun a590 hR591 => ?_)
              refine dp 5 rfl hP521 hR591 (wff hR591) hSw523 (fun a592 hR593 => ?_)
              refine dp 6 rfl hP521 hR593 (wff hR593) hSw523 (fun a594 hR595 => ?_)
              refine dp 7 rfl hP521 hR595 (wff hR595) hSw523 (fun a596 hR597 => ?_)
              refine dp 8 rfl hP521 hR597 (wu hR597) hSw523 (fun a598 hR599 => ?_)
              refine dp 9 rfl hP521 hR599 (wu hR599) hSw523 (fun a600 hR601 => ?_)
              refine dp 10 rfl hP521 hR601 (wu hR601) hSw523 (fun a602 hR603 => ?_)
              refine dp 11 rfl hP521 hR603 (wu hR603) hSw523 (fun a604 hR605 => ?_)
              refine dp 12 rfl hP521 hR605 (wu hR605) hSw523 (fun a606 hR607 => ?_)
              refine dp 13 rfl hP521 hR607 (wu hR607) hSw523 (fun a608 hR609 => ?_)
              refine dp 14 rfl hP521 hR609 (wff hR609) hSw523 (fun a610 hR611 => ?_)
              refine dt 15 rfl hP521 hR611 (want_n rfl) (fun x hx => r_pick_t (sy hR611) hR611 rfl rfl rfl rfl (by decide) gt) hSw523 (fun a612 hR613 => ?_)
              refine dt 16 rfl hP521 hR613 (want_n rfl) (fun x hx => r_assign (sy hR613) hR613 rfl rfl rfl (by decide) gt) hSw523 (fun a614 hR615 => ?_)
              refine wpAnyH_done (by kernel_rfl) (hN522 _ _ ?_) _
              refine x_then_n (hK514 _ _ ?_)
              refine wp_ret ?_
              refine e_ret1 hR615 rfl rfl rfl ?_
              refine ⟨?_, hS519.fr⟩
              exact congrArg Ending.returned (ret_b (by first | exact (right_sort h264 (by assumption)).symm | exact (right_big h264).symm | (rw [right_con' h264 (by assumption)]; first | rfl | (simp <;> omega) | (simp [h48, h56, h58, h264, h292, h324, h475, h532]; done) | (rw [Bool.eq_iff_iff]; simp <;> omega)) | (rw [right_elim' h264 (by assumption)]; first | rfl | (simp <;> omega) | (simp [h48, h56, h58, h264, h292, h324, h475, h532]; done) | (rw [Bool.eq_iff_iff]; simp <;> omega)) | (rw [right_oth h264 (by omega) (by omega) (by assumption) (by assumption) (by assumption)]; first | rfl | (simp <;> omega) | (simp [h48, h56, h58, h264, h292, h324, h475, h532]; done) | (rw [Bool.eq_iff_iff]; simp <;> omega))))
end Go.Proofs.YtobgdeffhdefeaaDoor
/- Contracts of functions, one theorem each: what the call returns, and that nothing old is changed. Printed by gen.py. -/
namespace Go.Proofs.YtobgdeffhdefeaaDoor
open Go Go.RowKit
set_option linter.unusedSimpArgs false
set_option linter.unusedVariables false

set_option maxRecDepth 100000 in
set_option maxHeartbeats 1000000 in
theorem measured_calls (w0 : World) (Z : Nat → Prop) (hZ : ∀ k, Z k → k < w0.heap.size) (tA : Option Addr) (tc : Nat) (t : List Nd) (hShp : Shapes w0 Z) (ht : (dRow 4 tA t.length tc (encNs t)).φ w0 Z) (hl : t.length ≤ 4000) (hsm : sml t) :
    Calls Tryd.prog 106 [.slice tA t.length tc].toArray w0 (fun e w' => ∃ (rA0 : Option Addr) (rc0 : Nat), e = .returned (.tuple #[.slice rA0 (measL t).length rc0, .bool (measB t)]) ∧ Fr none_ w0 w' ∧ (dRow 2 rA0 ((measL t).length) rc0 (encMs (measL t))).φ w' (nxt Z w0 w')) := by
  have hstart : ∀ k, Z k → imm Z w0 [] w0 k ∧ w0.heap[k]? = w0.heap[k]? := fun k hk => ⟨⟨hZ k hk, fun _ => hk, fun _ h => by cases h⟩, rfl⟩
  have hS3 : St w0 Z none_ w0 [] [dShapes, dRow 4 tA t.length tc (encNs t)] := St.start w0 Z none_ _ (by
    intro d hd
    simp only [List.mem_cons, List.not_mem_nil, or_false] at hd
    rcases hd with rfl | rfl
    · exact Dat.mono _ _ _ _ _ (Nat.le_refl _) hShp hstart
    · exact Dat.mono _ _ _ _ _ (Nat.le_refl _) ht hstart
    )
  refine c_enter Tryd.func106 rfl Tryd.ntmps106 rfl (fun a1 hR2 => ?_)
  refine wp_seq_k (fun K4 hK5 => ?_)
  refine c_region ?_
  refine asg hR2 (fun a6 hR7 => ?_)
  refine asg hR7 (fun a8 hR9 => ?_)
  refine wpList_nil (x_then_n (hK5 _ _ ?_))
  refine wp_seq_k (fun K10 hK11 => ?_)
  refine c_region ?_
  refine asg hR9 (fun a12 hR13 => ?_)
  refine asg hR13 (fun a14 hR15 => ?_)
  refine wpList_nil (x_then_n (hK11 _ _ ?_))
  refine wp_seq_k (fun K16 hK17 => ?_)
  refine wp_seq_k (fun K18 hK19 => ?_)
  refine c_region ?_
  refine mv hR15 (fun a20 hR21 => ?_)
  refine r_len sv hR21 rfl rfl rfl rfl Tryd.underlying22 (by decide) (fun a22 hR23 => ?_)
  refine mv hR23 (fun a24 hR25 => ?_)
  refine wpList_nil (x_then_n (hK19 _ _ ?_))
  refine wp_block ?_
  have hS26 := hS3.nilrow 121 2
  have hS27 := hS26.nilrow 121 2
  refine wp_loop_ghost (fun gn ga gw => ∃ k : Nat, ∃ st : List T, ∃ Aa : Option Addr, ∃ ca : Nat, ∃ Ao : Option Addr, ∃ co : Nat, (Reg ga 73 [(1000000, .bool false), (12, .slice tA t.length tc), (13, .int .i64 ((t.length : Nat) : Int)), (14, .int .i64 ((k : Nat) : Int)), (4, .slice Aa ((allTs 0 st).length) ca), (5, .slice Ao ((meas 0 st).length) co)]) ∧ (St w0 Z none_ gw [.row Aa ((allTs 0 st).length) ca 121 2 (encMs (allTs 0 st)), .row Ao ((meas 0 st).length) co 121 2 (encMs (meas 0 st))] [dShapes, dRow 4 tA t.length tc (encNs t)]) ∧ (k ≤ t.length) ∧ (scanT [] (t.take k) = some st) ∧ (t.length - k) = gn) _ ⟨0, [], none, 0, none, 0, (hR25.sub (rc rfl (rc rfl (rc rfl (rc rfl (rc rfl (rc rfl rnl))))))), hS27, by omega, rfl, rfl⟩ ?_
  rintro r28 a29 w30 ⟨k, st, Aa, ca, Ao, co, hR31, hS32, hk, hsc, hn33⟩
  have hfl := scan_flats hsc hk
  have hml := meas_length 0 st
  have hal := allTs_length 0 st
  have hsl := flats_len_ge st
  refine wp_seq_k (fun K34 hK35 => ?_)
  refine c_region ?_
  refine r_lss sv hR31 rfl rfl rfl rfl (by decide) (fun a36 hR37 => ?_)
  refine wpList_nil (x_then_n (hK35 _ _ ?_))
  refine wp_seq_k (fun K38 hK39 => ?_)
  rcases Decidable.em (((k : Nat) : Int) < ((t.length : Nat) : Int)) with h40 | h40
  · skip
    have hR41 := hR37.setb (d := 15) (b := true) rfl (decide_eq_true h40)
    refine wp_cond_true (hR41.ev rfl) ?_
    refine wp_skip ?_
    refine x_then_n (hK39 _ _ ?_)
    refine wp_seq_k (fun K42 hK43 => ?_)
    refine wp_block ?_
    refine wp_seq_k (fun K44 hK45 => ?_)
    refine c_region ?_
    refine mv hR41 (fun a46 hR47 => ?_)
    refine m_index (i := k) (j := k * 4) sv hR47 rfl rfl rfl rfl Tryd.underlying22 sz32 (by omega) (by omega) (nds_elem (t := t) (k := k) (hS32.row (i := 1) rfl).2 (by omega)).some_ rfl (by decide) (fun a48 hR49 => ?_)
    refine m_loadEN sv hR49 rfl rfl rfl (nds_elem (t := t) (k := k) (hS32.row (i := 1) rfl).2 (by omega)) Tryd.underlying32 rfl sz32 (by decide) (fun a50 hR51 => ?_)
    refine m_alloc (cs := [.int .i64 0, .int .i64 0, .int .i64 0, .string (⟨#[]⟩ : ByteArray)]) sv hR51 hS32 rfl rfl ze32 rfl (by decide) (fun a52 w53 g54 hR55 hS56 => ?_)
    refine asg hR55 (fun a57 hR58 => ?_)
    refine m_store (i := 2) (cs' := [.int .i64 (((nth t k).K)), .int .i64 (((nth t k).N)), .int .i64 (((nth t k).M)), .string ((nth t k).S)]) se hR58 hS56 rfl rfl rfl rfl rfl sz32 rfl rfl rfl (fun a59 w60 hR61 hS62 => ?_)
    refine wpList_nil (x_then_n (hK45 _ _ ?_))
    refine wp_seq_k (fun K63 hK64 => ?_)
    refine wp_seq_k (fun K65 hK66 => ?_)
    refine c_region ?_
    refine m_loadN (i := 2) (vs := [.int .i64 (((nth t k).K)), .int .i64 (((nth t k).N)), .int .i64 (((nth t k).M)), .string ((nth t k).S)]) sv hR61 hS62 rfl rfl rfl rfl rfl Tryd.underlying32 rfl sz32 (by decide) (fun a67 hR68 => ?_)
    have hS69 : St w0 Z none_ w60 [.row Aa ((allTs 0 st).length) ca 121 2 (encMs (allTs 0 st)), .row Ao ((meas 0 st).length) co 121 2 (encMs (meas 0 st)), .box g54 32 [.int .i64 (((nth t k).K)), .int .i64 (((nth t k).N)), .int .i64 (((nth t k).M)), .string ((nth t k).S)]] [dShapes, dRow 4 tA t.length tc (encNs t)] := hS62
    refine k_call (xs := [.tmp 19]) se hR68 rfl rfl rfl (by decide) ok112 (right_calls _ (imm Z w0 [.row Aa ((allTs 0 st).length) ca 121 2 (encMs (allTs 0 st)), .row Ao ((meas 0 st).length) co 121 2 (encMs (meas 0 st)), .box g54 32 [.int .i64 (((nth t k).K)), .int .i64 (((nth t k).N)), .int .i64 (((nth t k).M)), .string ((nth t k).S)]] _) (fun _ h => h.1) (nth t k) (hS69.get (i := 0) rfl) (hsm _ (by omega))) ?_
    rintro e76 w71 ⟨rfl, hf74⟩
    have hS77 := hS69.below hf74.below
    refine ⟨_, rfl, fun a70 hR72 => ?_⟩
    refine r_not sv hR72 rfl rfl rfl (by decide) (fun a78 hR79 => ?_)
    refine mv hR79 (fun a80 hR81 => ?_)
    refine l_join (fun ga gw => Reg ga 73 [(4, .slice Aa ((allTs 0 st).length) ca), (5, .slice Ao ((meas 0 st).length) co), (6, .int .i64 ((k : Nat) : Int)), (7, .pointer (some ⟨g54, 0, none⟩)), (12, .slice tA t.length tc), (13, .int .i64 ((t.length : Nat) : Int)), (14, .int .i64 ((k : Nat) : Int)), (28, .bool ((!(right (nth t k))) || (decide ((((meas 0 st).length : Nat) : Int) < ((many (nth t k) : Nat) : Int))))), (1000000, .bool false)] ∧ St w0 Z none_ gw [.row Aa ((allTs 0 st).length) ca 121 2 (encMs (allTs 0 st)), .row Ao ((meas 0 st).length) co 121 2 (encMs (meas 0 st)), .box g54 32 [.int .i64 (((nth t k).K)), .int .i64 (((nth t k).N)), .int .i64 (((nth t k).M)), .string ((nth t k).S)]] [dShapes, dRow 4 tA t.length tc (encNs t)]) 6 ?_ ?_
    · skip
      rcases Bool.eq_false_or_eq_true (right (nth t k)) with h82 | h82
      · skip
        have hR83 := hR81.setb (d := 22) (b := false) rfl (by rw [h82]; rfl)
        refine m_loadN (i := 2) (vs := [.int .i64 (((nth t k).K)), .int .i64 (((nth t k).N)), .int .i64 (((nth t k).M)), .string ((nth t k).S)]) (st_listV_w (wt hR83)) hR83 hS77 rfl rfl rfl rfl rfl Tryd.underlying32 rfl sz32 (by decide) (fun a84 hR85 => ?_)
        have hS86 : St w0 Z none_ w71 [.row Aa ((allTs 0 st).length) ca 121 2 (encMs (allTs 0 st)), .row Ao ((meas 0 st).length) co 121 2 (encMs (meas 0 st)), .box g54 32 [.int .i64 (((nth t k).K)), .int .i64 (((nth t k).N)), .int .i64 (((nth t k).M)), .string ((nth t k).S)]] [dShapes, dRow 4 tA t.length tc (encNs t)] := hS77
        refine k_call (xs := [.tmp 23]) (st_list_w (wt hR85)) hR85 rfl rfl rfl (by decide) ok126 (many_calls _ (imm Z w0 [.row Aa ((allTs 0 st).length) ca 121 2 (encMs (allTs 0 st)), .row Ao ((meas 0 st).length) co 121 2 (encMs (meas 0 st)), .box g54 32 [.int .i64 (((nth t k).K)), .int .i64 (((nth t k).N)), .int .i64 (((nth t k).M)), .string ((nth t k).S)]] _) (fun _ h => h.1) (nth t k) (hS86.get (i := 0) rfl) (by first | assumption | omega | (simp; done) | (simp; omega))) ?_
        rintro e93 w88 ⟨rfl, hf91⟩
        have hS94 := hS86.below hf91.below
        refine ⟨_, rfl, fun a87 hR89 => ?_⟩
        refine r_move (st_listV_w (wt hR89)) hR89 rfl rfl rfl (by decide) (fun a95 hR96 => ?_)
        refine r_len (st_listV_w (wt hR96)) hR96 rfl rfl rfl rfl Tryd.underlying87 (by decide) (fun a97 hR98 => ?_)
        refine r_gtr (st_listV_w (wt hR98)) hR98 rfl rfl rfl rfl (by decide) (fun a99 hR100 => ?_)
        refine r_pick_f sv hR100 rfl rfl rfl rfl (by decide) (fun a101 hR102 => ?_)
        refine wpList_nil ?_
        exact x_then_n ⟨(hR102.sub (rc rfl (rc rfl (rc rfl (rc rfl (rc rfl (rc rfl (rc rfl (rc (rb rfl (by first | rfl | (simp only [h82, bl]; done) | (simp [h82]; done) | (simp [h82]; omega))) (rc rfl rnl)))))))))), hS94⟩
      · skip
        have hR103 := hR81.setb (d := 22) (b := true) rfl (by rw [h82]; rfl)
        refine sps hR103 (wff hR103) (fun a104 hR105 => ?_)
        refine sps hR105 (wff hR105) (fun a106 hR107 => ?_)
        refine sps hR107 (wff hR107) (fun a108 hR109 => ?_)
        refine sps hR109 (wff hR109) (fun a110 hR111 => ?_)
        refine sps hR111 (wff hR111) (fun a112 hR113 => ?_)
        refine r_pick_t sv hR113 rfl rfl rfl rfl (by decide) (fun a114 hR115 => ?_)
        refine wpList_nil ?_
        exact x_then_n ⟨(hR115.sub (rc rfl (rc rfl (rc rfl (rc rfl (rc rfl (rc rfl (rc rfl (rc (rb rfl (by first | rfl | (simp only [h82, bl]; done) | (simp [h82]; done) | (simp [h82]; omega))) (rc rfl rnl)))))))))), hS77⟩
    rintro a116 w117 ⟨hR118, hS119⟩
    refine wpList_nil (x_then_n (hK66 _ _ ?_))
    rcases Bool.eq_false_or_eq_true (((!(right (nth t k))) || (decide ((((meas 0 st).length : Nat) : Int) < ((many (nth t k) : Nat) : Int))))) with h120 | h120
    · skip
      have hq121 := h120
      try simp only [Bool.or_eq_true, Bool.and_eq_true, Bool.not_eq_true', Bool.not_eq_false', decide_eq_true_eq, decide_eq_false_iff_not, Bool.or_eq_false_iff, Bool.and_eq_false_iff] at hq121
      have hR122 := hR118.setb (d := 28) (b := true) rfl h120
      refine wp_cond_true (hR122.ev rfl) ?_
      refine wp_seq_k (fun K123 hK124 => ?_)
      refine c_region ?_
      refine asg hR122 (fun a125 hR126 => ?_)
      refine asg hR126 (fun a127 hR128 => ?_)
      refine wpList_nil (x_then_n (hK124 _ _ ?_))
      refine wp_ret ?_
      refine x_then_r ?_
      refine x_block_r ?_
      refine x_then_r ?_
      refine x_then_r ?_
      refine x_block_r ?_
      refine x_then_r ?_
      refine e_ret2 hR128 rfl rfl rfl rfl ?_
      have he129 : measL t = [] := (meas_bad (scan_none hsc (by omega) (push_none (by rcases hq121 with h | h; exact .inl h; exact .inr (by omega))))).1
      rw [he129]
      refine ⟨none, 0, ?_, hS119.fr, ⟨Nat.le_refl _, RowI.nil _ _ _ _⟩⟩
      exact ret_t2 rfl (ret_b (by exact (meas_bad (scan_none hsc (by omega) (push_none (by rcases hq121 with h | h; exact .inl h; exact .inr (by omega))))).2.symm))
    · skip
      have h130 := or_fl h120
      have h131 := not_f h130
      have h132 := or_fr h120
      have h133 := of_decide_eq_false h132
      have hR134 := hR118.setb (d := 28) (b := false) rfl h120
      refine wp_cond_false (hR134.ev rfl) ?_
      refine wp_skip ?_
      refine x_then_n (hK64 _ _ ?_)
      refine wp_seq_k (fun K135 hK136 => ?_)
      refine c_region ?_
      refine mv hR134 (fun a137 hR138 => ?_)
      refine r_len sv hR138 rfl rfl rfl rfl Tryd.underlying87 (by decide) (fun a139 hR140 => ?_)
      refine m_loadN (i := 2) (vs := [.int .i64 (((nth t k).K)), .int .i64 (((nth t k).N)), .int .i64 (((nth t k).M)), .string ((nth t k).S)]) sv hR140 hS119 rfl rfl rfl rfl rfl Tryd.underlying32 rfl sz32 (by decide) (fun a141 hR142 => ?_)
      have hS143 : St w0 Z none_ w117 [.row Aa ((allTs 0 st).length) ca 121 2 (encMs (allTs 0 st)), .row Ao ((meas 0 st).length) co 121 2 (encMs (meas 0 st)), .box g54 32 [.int .i64 (((nth t k).K)), .int .i64 (((nth t k).N)), .int .i64 (((nth t k).M)), .string ((nth t k).S)]] [dShapes, dRow 4 tA t.length tc (encNs t)] := hS119
      refine k_call (xs := [.tmp 31]) se hR142 rfl rfl rfl (by decide) ok126 (many_calls _ (imm Z w0 [.row Aa ((allTs 0 st).length) ca 121 2 (encMs (allTs 0 st)), .row Ao ((meas 0 st).length) co 121 2 (encMs (meas 0 st)), .box g54 32 [.int .i64 (((nth t k).K)), .int .i64 (((nth t k).N)), .int .i64 (((nth t k).M)), .string ((nth t k).S)]] _) (fun _ h => h.1) (nth t k) (hS143.get (i := 0) rfl) (by first | assumption | omega | (simp; done) | (simp; omega))) ?_
      rintro e150 w145 ⟨rfl, hf148⟩
      have hS151 := hS143.below hf148.below
      refine ⟨_, rfl, fun a144 hR146 => ?_⟩
      refine r_sub (z := ((((meas 0 st).length : Nat) : Int) - ((many (nth t k) : Nat) : Int))) sv hR146 rfl rfl rfl rfl (by decide) (by omega) (by omega) (by omega) (fun a152 hR153 => ?_)
      refine asg hR153 (fun a154 hR155 => ?_)
      refine wpList_nil (x_then_n (hK136 _ _ ?_))
      refine wp_seq_k (fun K156 hK157 => ?_)
      refine c_region ?_
      refine mv hR155 (fun a158 hR159 => ?_)
      refine m_build (ps := [(0, .tmp 34), (1, .const (.int .i64 1))]) (v := .agg #[.int .i64 ((k : Nat) : Int), .int .i64 1]) sv hR159 rfl rfl rfl (fun _ => by kernel_rfl) (by decide) (fun a160 hR161 => ?_)
      refine m_alloc (cs := [.int .i64 0, .int .i64 0]) sv hR161 hS151 rfl rfl ze121 rfl (by decide) (fun a162 w163 g164 hR165 hS166 => ?_)
      refine m_store (i := 3) (cs' := [.int .i64 ((k : Nat) : Int), .int .i64 1]) se hR165 hS166 rfl rfl rfl rfl rfl sz121 rfl rfl rfl (fun a167 w168 hR169 hS170 => ?_)
      refine wpList_nil (x_then_n (hK157 _ _ ?_))
      refine wp_seq_k (fun K171 hK172 => ?_)
      refine wp_seq_k (fun K173 hK174 => ?_)
      refine c_region ?_
      refine mv hR169 (fun a175 hR176 => ?_)
      refine mv hR176 (fun a177 hR178 => ?_)
      have hcap185 := own_cap (hS170.res (i := 1) rfl)
      refine m_sliceV (lo := some (.tmp 37)) (hi := none) (vlo := (some (.int .i64 ((((meas 0 st).length : Nat) : Int) - ((many (nth t k) : Nat) : Int))))) (vhi := none) (kd := .i64) (kd' := .i64) sv hR178 rfl rfl rfl rfl rfl (((meas 0 st).length) - (many (nth t k))) (many (nth t k)) (.inl (by first | rfl | (congr 2; omega))) (.inr ⟨rfl, by omega⟩) Tryd.underlying87 sz121 (by omega) (by decide) (fun a179 A181 c182 hc183 hv184 hR180 => ?_)
      refine r_len sv hR180 rfl rfl rfl rfl Tryd.underlying87 (by decide) (fun a186 hR187 => ?_)
      refine mv hR187 (fun a188 hR189 => ?_)
      refine wpList_nil (x_then_n (hK174 _ _ ?_))
      refine wp_block ?_
      refine wp_loop_ghost (fun gn ga gw => ∃ j : Nat, (Reg ga 73 [(4, .slice Aa ((allTs 0 st).length) ca), (5, .slice Ao ((meas 0 st).length) co), (12, .slice tA t.length tc), (13, .int .i64 ((t.length : Nat) : Int)), (14, .int .i64 ((k : Nat) : Int)), (1000000, .bool false), (8, .int .i64 ((((meas 0 st).length : Nat) : Int) - ((many (nth t k) : Nat) : Int))), (9, .pointer (some ⟨g164, 0, none⟩)), (38, .slice A181 (many (nth t k)) c182), (39, .int .i64 ((many (nth t k) : Nat) : Int)), (40, .int .i64 ((j : Nat) : Int))]) ∧ (St w0 Z none_ gw [.row Aa ((allTs 0 st).length) ca 121 2 (encMs (allTs 0 st)), .row Ao ((meas 0 st).length) co 121 2 (encMs (meas 0 st)), .box g54 32 [.int .i64 (((nth t k).K)), .int .i64 (((nth t k).N)), .int .i64 (((nth t k).M)), .string ((nth t k).S)], .box g164 121 [.int .i64 ((fromQ k (meas 0 st) (((meas 0 st).length) - (many (nth t k))) j)), .int .i64 ((deepQ (meas 0 st) (((meas 0 st).length) - (many (nth t k))) j))]] [dShapes, dRow 4 tA t.length tc (encNs t)]) ∧ (j ≤ many (nth t k)) ∧ (many (nth t k) - j) = gn) _ ⟨0, (hR189.sub (rc rfl (rc rfl (rc rfl (rc rfl (rc rfl (rc rfl (rc rfl (rc rfl (rc rfl (rc rfl (rc rfl rnl)))))))))))), hS170, by omega, rfl⟩ ?_
      rintro r190 a191 w192 ⟨j, hR193, hS194, hj, hn195⟩
      obtain ⟨hd1, hd2⟩ := deepQ_le (st := st) (b := ((meas 0 st).length) - (many (nth t k))) (q := j)
      obtain ⟨hd3, hd4⟩ := meas_deep_le (st := st) (i := (((meas 0 st).length) - (many (nth t k))) + j)
      refine wp_seq_k (fun K196 hK197 => ?_)
      refine c_region ?_
      refine r_lss sv hR193 rfl rfl rfl rfl (by decide) (fun a198 hR199 => ?_)
      refine wpList_nil (x_then_n (hK197 _ _ ?_))
      refine wp_seq_k (fun K200 hK201 => ?_)
      rcases Decidable.em (((j : Nat) : Int) < ((many (nth t k) : Nat) : Int)) with h202 | h202
      · skip
        have hR203 := hR199.setb (d := 41) (b := true) rfl (decide_eq_true h202)
        refine wp_cond_true (hR203.ev rfl) ?_
        refine wp_skip ?_
        refine x_then_n (hK201 _ _ ?_)
        refine wp_seq_k (fun K204 hK205 => ?_)
        refine wp_block ?_
        refine wp_seq_k (fun K206 hK207 => ?_)
        refine c_region ?_
        refine mv hR203 (fun a208 hR209 => ?_)
        refine m_index (i := j) (j := j * 2) sv hR209 rfl rfl rfl rfl Tryd.underlying87 sz121 (by omega) (by omega) (Cut.elem hv184 (by omega) (own_ms (t := meas 0 st) (k := (((meas 0 st).length) - (many (nth t k))) + j) (hS194.res (i := 1) rfl) (by omega))).some_ rfl (by decide) (fun a210 hR211 => ?_)
        refine m_loadEN sv hR211 rfl rfl rfl (Cut.elem hv184 (by omega) (own_ms (t := meas 0 st) (k := (((meas 0 st).length) - (many (nth t k))) + j) (hS194.res (i := 1) rfl) (by omega))) Tryd.underlying121 rfl sz121 (by decide) (fun a212 hR213 => ?_)
        refine m_alloc (cs := [.int .i64 0, .int .i64 0]) sv hR213 hS194 rfl rfl ze121 rfl (by decide) (fun a214 w215 g216 hR217 hS218 => ?_)
        refine asg hR217 (fun a219 hR220 => ?_)
        refine m_store (i := 4) (cs' := [.int .i64 (((nthM (meas 0 st) ((((meas 0 st).length) - (many (nth t k))) + j)).1)), .int .i64 (((nthM (meas 0 st) ((((meas 0 st).length) - (many (nth t k))) + j)).2))]) se hR220 hS218 rfl rfl rfl rfl rfl sz121 rfl rfl rfl (fun a221 w222 hR223 hS224 => ?_)
        refine wpList_nil (x_then_n (hK207 _ _ ?_))
        refine c_join (fun ga gw => Reg ga 73 [(4, .slice Aa ((allTs 0 st).length) ca), (5, .slice Ao ((meas 0 st).length) co), (8, .int .i64 ((((meas 0 st).length : Nat) : Int) - ((many (nth t k) : Nat) : Int))), (9, .pointer (some ⟨g164, 0, none⟩)), (11, .pointer (some ⟨g216, 0, none⟩)), (12, .slice tA t.length tc), (13, .int .i64 ((t.length : Nat) : Int)), (14, .int .i64 ((k : Nat) : Int)), (38, .slice A181 (many (nth t k)) c182), (39, .int .i64 ((many (nth t k) : Nat) : Int)), (40, .int .i64 ((j : Nat) : Int)), (1000000, .bool false)] ∧ St w0 Z none_ gw [.row Aa ((allTs 0 st).length) ca 121 2 (encMs (allTs 0 st)), .row Ao ((meas 0 st).length) co 121 2 (encMs (meas 0 st)), .box g54 32 [.int .i64 (((nth t k).K)), .int .i64 (((nth t k).N)), .int .i64 (((nth t k).M)), .string ((nth t k).S)], .box g164 121 [.int .i64 ((if (((j : Nat) : Int) = 0) then (((nthM (meas 0 st) ((((meas 0 st).length) - (many (nth t k))) + j)).1)) else ((fromQ k (meas 0 st) (((meas 0 st).length) - (many (nth t k))) j)))), .int .i64 ((deepQ (meas 0 st) (((meas 0 st).length) - (many (nth t k))) j))], .box g216 121 [.int .i64 (((nthM (meas 0 st) ((((meas 0 st).length) - (many (nth t k))) + j)).1)), .int .i64 (((nthM (meas 0 st) ((((meas 0 st).length) - (many (nth t k))) + j)).2))]] [dShapes, dRow 4 tA t.length tc (encNs t)]) ?_ ?_
        · skip
          refine wp_seq_k (fun K225 hK226 => ?_)
          refine c_region ?_
          refine mv hR223 (fun a227 hR228 => ?_)
          refine r_eql sv hR228 rfl rfl rfl rfl (by decide) (fun a229 hR230 => ?_)
          refine wpList_nil (x_then_n (hK226 _ _ ?_))
          rcases Decidable.em (((j : Nat) : Int) = 0) with h231 | h231
          · skip
            have hR232 := hR230.setb (d := 46) (b := true) rfl (decide_eq_true h231)
            refine wp_cond_true (hR232.ev rfl) ?_
            refine c_region ?_
            refine m_field (j' := 0) sv hR232 rfl rfl rfl Tryd.underlying121 rfl sz3 rfl rfl (by decide) (fun a233 hR234 => ?_)
            refine m_load (i := 4) sv hR234 hS224 rfl rfl rfl rfl rfl Tryd.underlying3 rfl (by decide) (fun a235 hR236 => ?_)
            refine m_field (j' := 0) sv hR236 rfl rfl rfl Tryd.underlying121 rfl sz3 rfl rfl (by decide) (fun a237 hR238 => ?_)
            refine m_store (i := 3) (cs' := [.int .i64 (((nthM (meas 0 st) ((((meas 0 st).length) - (many (nth t k))) + j)).1)), .int .i64 ((deepQ (meas 0 st) (((meas 0 st).length) - (many (nth t k))) j))]) se hR238 hS224 rfl rfl rfl rfl rfl sz3 rfl rfl rfl (fun a239 w240 hR241 hS242 => ?_)
            refine wpList_nil ?_
            have hSj := hS242
            exact x_then_n ⟨(hR241.sub (rc rfl (rc rfl (rc rfl (rc rfl (rc rfl (rc rfl (rc rfl (rc rfl (rc rfl (rc rfl (rc rfl (rc rfl rnl))))))))))))), by rw [(show (((if (((j : Nat) : Int) = 0) then (((nthM (meas 0 st) ((((meas 0 st).length) - (many (nth t k))) + j)).1)) else ((fromQ k (meas 0 st) (((meas 0 st).length) - (many (nth t k))) j)))) : Int) = (((nthM (meas 0 st) ((((meas 0 st).length) - (many (nth t k))) + j)).1)) by first | rfl | (simp only [decide_eq_true h231, if_pos h231, bl]; done) | (simp [h231]; done) | (simp [h231]; omega))]; exact hSj⟩
          · skip
            have hR243 := hR230.setb (d := 46) (b := false) rfl (decide_eq_false h231)
            refine wp_cond_false (hR243.ev rfl) ?_
            refine wp_skip ?_
            have hSj := hS224
            exact x_then_n ⟨(hR243.sub (rc rfl (rc rfl (rc rfl (rc rfl (rc rfl (rc rfl (rc rfl (rc rfl (rc rfl (rc rfl (rc rfl (rc rfl rnl))))))))))))), by rw [(show (((if (((j : Nat) : Int) = 0) then (((nthM (meas 0 st) ((((meas 0 st).length) - (many (nth t k))) + j)).1)) else ((fromQ k (meas 0 st) (((meas 0 st).length) - (many (nth t k))) j)))) : Int) = ((fromQ k (meas 0 st) (((meas 0 st).length) - (many (nth t k))) j)) by first | rfl | (simp only [decide_eq_false h231, if_neg h231, bl]; done) | (simp [h231]; done) | (simp [h231]; omega))]; exact hSj⟩
        rintro a244 w245 ⟨hR246, hS247⟩
        refine c_region ?_
        refine m_field (j' := 1) sv hR246 rfl rfl rfl Tryd.underlying121 rfl sz3 rfl rfl (by decide) (fun a248 hR249 => ?_)
        refine m_load (i := 3) sv hR249 hS247 rfl rfl rfl rfl rfl Tryd.underlying3 rfl (by decide) (fun a250 hR251 => ?_)
        refine m_field (j' := 1) sv hR251 rfl rfl rfl Tryd.underlying121 rfl sz3 rfl rfl (by decide) (fun a252 hR253 => ?_)
        refine m_load (i := 4) sv hR253 hS247 rfl rfl rfl rfl rfl Tryd.underlying3 rfl (by decide) (fun a254 hR255 => ?_)
        refine r_add (z := (((nthM (meas 0 st) ((((meas 0 st).length) - (many (nth t k))) + j)).2) + 1)) sv hR255 rfl rfl rfl rfl (by decide) (by omega) (by omega) (by omega) (fun a256 hR257 => ?_)
        refine r_max sv hR257 rfl rfl rfl rfl rfl (by decide) (fun a258 hR259 => ?_)
        refine m_field (j' := 1) sv hR259 rfl rfl rfl Tryd.underlying121 rfl sz3 rfl rfl (by decide) (fun a260 hR261 => ?_)
        refine m_store (i := 3) (cs' := [.int .i64 ((if (((j : Nat) : Int) = 0) then (((nthM (meas 0 st) ((((meas 0 st).length) - (many (nth t k))) + j)).1)) else ((fromQ k (meas 0 st) (((meas 0 st).length) - (many (nth t k))) j)))), .int .i64 ((max ((deepQ (meas 0 st) (((meas 0 st).length) - (many (nth t k))) j)) (((nthM (meas 0 st) ((((meas 0 st).length) - (many (nth t k))) + j)).2) + 1)))]) se hR261 hS247 rfl rfl rfl rfl rfl sz3 rfl rfl rfl (fun a262 w263 hR264 hS265 => ?_)
        refine wpList_nil ?_
        refine x_block_n ?_
        refine x_then_n (hK205 _ _ ?_)
        refine c_region ?_
        refine r_add (z := ((j + 1 : Nat) : Int)) sv hR264 rfl rfl rfl rfl (by decide) (by omega) (by omega) (by omega) (fun a266 hR267 => ?_)
        refine mv hR267 (fun a268 hR269 => ?_)
        refine wpList_nil ?_
        have he270 : ((if (((j : Nat) : Int) = 0) then (((nthM (meas 0 st) ((((meas 0 st).length) - (many (nth t k))) + j)).1)) else ((fromQ k (meas 0 st) (((meas 0 st).length) - (many (nth t k))) j)))) = ((fromQ k (meas 0 st) (((meas 0 st).length) - (many (nth t k))) (j + 1))) := by unfold fromQ; (repeat' split) <;> first | rfl | omega | (congr 2; omega) | (congr 3; omega)
        have hS271 := hS265
        rw [he270] at hS271
        have he272 : ((max ((deepQ (meas 0 st) (((meas 0 st).length) - (many (nth t k))) j)) (((nthM (meas 0 st) ((((meas 0 st).length) - (many (nth t k))) + j)).2) + 1))) = ((deepQ (meas 0 st) (((meas 0 st).length) - (many (nth t k))) (j + 1))) := rfl
        have hS273 := hS271
        rw [he272] at hS273
        have hS274 := hS273.erase 4
        exact ⟨_, by omega, j + 1, (hR269.sub (rc rfl (rc rfl (rc rfl (rc rfl (rc rfl (rc rfl (rc rfl (rc rfl (rc rfl (rc rfl (rc rfl rnl)))))))))))), hS274, by omega, rfl⟩
      · skip
        have hR275 := hR199.setb (d := 41) (b := false) rfl (decide_eq_false h202)
        refine wp_cond_false (hR275.ev rfl) ?_
        refine wp_exit ?_
        refine x_then_e ?_
        refine x_then_e ?_
        refine x_block_eq ?_
        refine x_then_n (hK172 _ _ ?_)
        refine wp_seq_k (fun K276 hK277 => ?_)
        obtain ⟨J278, hJ279, hS280⟩ := hS194.agree
        refine d_region2 (S := (fun x => agr w192 J278 x ∧ cel g164 0 (.int .i64 ((fromQ k (meas 0 st) (((meas 0 st).length) - (many (nth t k))) j))) x ∧ cel g164 1 (.int .i64 ((deepQ (meas 0 st) (((meas 0 st).length) - (many (nth t k))) j))) x ∧ True)) (n := 7) mixed rfl hS280 (pan_then (pan_block (pan_then (pan_then (pan_block (pan_then pan_body)))))) (fun Q283 hP284 hN285 w281 hS282 => ?_)
        have hSw286 : agr w192 J278 w281 ∧ cel g164 0 (.int .i64 ((fromQ k (meas 0 st) (((meas 0 st).length) - (many (nth t k))) j))) w281 ∧ cel g164 1 (.int .i64 ((deepQ (meas 0 st) (((meas 0 st).length) - (many (nth t k))) j))) w281 ∧ True := ⟨⟨(hS282.get (i := 2) rfl).1, fun k hk => ((hS282.get (i := 2) rfl).2 k hk).2⟩, (box_cell (hS282.res (i := 3) rfl) rfl), (box_cell (hS282.res (i := 3) rfl) rfl), trivial⟩
        refine dt 0 rfl hP284 hR275 (want_n rfl) (fun x hx => r_move (sy hR275) hR275 rfl rfl rfl (by decide) gt) hSw286 (fun a287 hR288 => ?_)
        refine dt 1 rfl hP284 hR288 (want_n rfl) (fun x hx => r_move (sy hR288) hR288 rfl rfl rfl (by decide) gt) hSw286 (fun a289 hR290 => ?_)
        refine dt 2 rfl hP284 hR290 (want_n rfl) (fun x hx => m_sliceP (q := ((meas 0 st).length) - (many (nth t k))) (sy hR290) hR290 rfl rfl rfl rfl (by omega) Tryd.underlying87 sz121 (by omega) (by decide) gt) hSw286 (fun a293 hR294 => ?_)
        refine dt 3 rfl hP284 hR294 (want_n rfl) (fun x hx => m_loadCN (sy hR294) hR294 rfl rfl rfl (CellsAt.cons_ hx.2.1 (CellsAt.cons_ hx.2.2.1 (CellsAt.nil _ _))) Tryd.underlying121 rfl sz121 (by decide) gt) hSw286 (fun a295 hR296 => ?_)
        refine d_one (i := 4) (by kernel_rfl) ?_
        refine m_buildSlice (ps := [(0, .tmp 61)]) (cs := [.int .i64 ((fromQ k (meas 0 st) (((meas 0 st).length) - (many (nth t k))) j)), .int .i64 ((deepQ (meas 0 st) (((meas 0 st).length) - (many (nth t k))) j))]) (st_opV rfl (want_n rfl)) hR296 hS282 rfl rfl rfl Tryd.underlying87 zi121 rfl rfl (by kernel_rfl) rfl (by decide) (fun a297 w298 g299 hR300 hS301 => ?_)
        have hSw302 : agr w192 J278 w298 ∧ cel g164 0 (.int .i64 ((fromQ k (meas 0 st) (((meas 0 st).length) - (many (nth t k))) j))) w298 ∧ cel g164 1 (.int .i64 ((deepQ (meas 0 st) (((meas 0 st).length) - (many (nth t k))) j))) w298 ∧ True := ⟨⟨(hS301.get (i := 2) rfl).1, fun k hk => ((hS301.get (i := 2) rfl).2 k hk).2⟩, (box_cell (hS301.res (i := 3) rfl) rfl), (box_cell (hS301.res (i := 3) rfl) rfl), trivial⟩
        refine ⟨hSw302, ?_⟩
        refine d_one (i := 5) (by kernel_rfl) ?_
        refine m_appendC (f := encM) (i := 1) (meas 0 st) ([(((fromQ k (meas 0 st) (((meas 0 st).length) - (many (nth t k))) j)), ((deepQ (meas 0 st) (((meas 0 st).length) - (many (nth t k))) j)))]) (st_opV rfl (want_n rfl)) hR300 hS301 rfl rfl rfl rfl rfl (by omega) encM_len (encM_one _) Tryd.underlying87 zi121 rfl rfl (own_lnews (f := encM) (hS301.res (i := 4) rfl)) rfl (by first | omega | (simp only [List.length_cons, List.length_nil]; omega)) (by decide) (fun a303 w304 A305 c306 hc307 hR308 hS309 => ?_)
        have hl311 : ((meas 0 st).take (((meas 0 st).length) - (many (nth t k))) ++ ([(((fromQ k (meas 0 st) (((meas 0 st).length) - (many (nth t k))) j)), ((deepQ (meas 0 st) (((meas 0 st).length) - (many (nth t k))) j)))]) : List (Int × Int)).length = ((meas 0 st).length + 1) - (many (nth t k)) := by first | (simp only [List.length_append, List.length_take, List.length_cons, List.length_nil]; done) | (simp only [List.length_append, List.length_take, List.length_cons, List.length_nil]; omega)
        have hS312 := hS309.erase 4
        have hSw313 : agr w192 J278 w304 ∧ cel g164 0 (.int .i64 ((fromQ k (meas 0 st) (((meas 0 st).length) - (many (nth t k))) j))) w304 ∧ cel g164 1 (.int .i64 ((deepQ (meas 0 st) (((meas 0 st).length) - (many (nth t k))) j))) w304 ∧ True := ⟨⟨(hS312.get (i := 2) rfl).1, fun k hk => ((hS312.get (i := 2) rfl).2 k hk).2⟩, (box_cell (hS312.res (i := 3) rfl) rfl), (box_cell (hS312.res (i := 3) rfl) rfl), trivial⟩
        refine ⟨hSw313, ?_⟩
        refine dt 6 rfl hP284 hR308 (want_n rfl) (fun x hx => r_assign (sy hR308) hR308 rfl rfl rfl (by decide) gt) hSw313 (fun a314 hR315 => ?_)
        refine wpAnyH_done (by kernel_rfl) (hN285 _ _ ?_) _
        refine x_then_n (hK277 _ _ ?_)
        refine c_region ?_
        refine mv hR315 (fun a316 hR317 => ?_)
        refine m_loadN (i := 3) (vs := [.int .i64 ((fromQ k (meas 0 st) (((meas 0 st).length) - (many (nth t k))) j)), .int .i64 ((deepQ (meas 0 st) (((meas 0 st).length) - (many (nth t k))) j))]) sv hR317 hS312 rfl rfl rfl rfl rfl Tryd.underlying121 rfl sz121 (by decide) (fun a318 hR319 => ?_)
        refine m_buildSlice (ps := [(0, .tmp 65)]) (cs := [.int .i64 ((fromQ k (meas 0 st) (((meas 0 st).length) - (many (nth t k))) j)), .int .i64 ((deepQ (meas 0 st) (((meas 0 st).length) - (many (nth t k))) j))]) sv hR319 hS312 rfl rfl rfl Tryd.underlying87 zi121 rfl rfl (by kernel_rfl) rfl (by decide) (fun a320 w321 g322 hR323 hS324 => ?_)
        refine m_appendF (f := encM) (i := 0) (allTs 0 st) ([(((fromQ k (meas 0 st) (((meas 0 st).length) - (many (nth t k))) j)), ((deepQ (meas 0 st) (((meas 0 st).length) - (many (nth t k))) j)))]) sv hR323 hS324 rfl rfl rfl rfl rfl encM_len (encM_one _) Tryd.underlying87 zi121 rfl rfl (own_lnews (f := encM) (hS324.res (i := 4) rfl)) rfl (by first | omega | (simp only [List.length_cons, List.length_nil]; omega)) (by decide) (fun a325 w326 A327 c328 hc329 hR330 hS331 => ?_)
        have hl333 : ((allTs 0 st) ++ ([(((fromQ k (meas 0 st) (((meas 0 st).length) - (many (nth t k))) j)), ((deepQ (meas 0 st) (((meas 0 st).length) - (many (nth t k))) j)))]) : List (Int × Int)).length = (allTs 0 st).length + 1 := by first | (simp only [List.length_append, List.length_take, List.length_cons, List.length_nil]; done) | (simp only [List.length_append, List.length_take, List.length_cons, List.length_nil]; omega)
        have hS334 := hS331.erase 4
        refine asg hR330 (fun a335 hR336 => ?_)
        refine wpList_nil ?_
        refine x_block_n ?_
        refine x_then_n (hK43 _ _ ?_)
        refine c_region ?_
        refine r_add (z := ((k + 1 : Nat) : Int)) sv hR336 rfl rfl rfl rfl (by decide) (by omega) (by omega) (by omega) (fun a337 hR338 => ?_)
        refine mv hR338 (fun a339 hR340 => ?_)
        refine wpList_nil ?_
        obtain ⟨st', hp, hpl⟩ := push_some (st := st) (n := nth t k) (by assumption) (by omega)
        obtain ⟨hm1, hm2⟩ := push_meas hp hfl
        have hjq : j = many (nth t k) := by omega
        have he341 : (allTs 0 st) ++ ([(((fromQ k (meas 0 st) (((meas 0 st).length) - (many (nth t k))) j)), ((deepQ (meas 0 st) (((meas 0 st).length) - (many (nth t k))) j)))]) = allTs 0 st' := by rw [hm2, hjq]; try simp only [meas_length]
        have hR342 := hR340
        have hS343 := hS334
        rw [he341] at hR342 hS343
        have he344 : (meas 0 st).take (((meas 0 st).length) - (many (nth t k))) ++ ([(((fromQ k (meas 0 st) (((meas 0 st).length) - (many (nth t k))) j)), ((deepQ (meas 0 st) (((meas 0 st).length) - (many (nth t k))) j)))]) = meas 0 st' := by rw [hm1, hjq]; try simp only [meas_length]
        have hR345 := hR342
        have hS346 := hS343
        rw [he344] at hR345 hS346
        have hS347 := hS346.erase 3
        have hS348 := hS347.erase 2
        have hS349 := hS348.forget 2
        exact ⟨_, by omega, k + 1, st', A327, c328, A305, c306, (hR345.sub (rc rfl (rc rfl (rc rfl (rc rfl (rc rfl (rc rfl rnl))))))), hS349, by omega, (scan_step hsc (by omega)).trans hp, rfl⟩
  · skip
    have hR350 := hR37.setb (d := 15) (b := false) rfl (decide_eq_false h40)
    refine wp_cond_false (hR350.ev rfl) ?_
    refine wp_exit ?_
    refine x_then_e ?_
    refine x_then_e ?_
    refine x_block_eq ?_
    refine x_then_n (hK17 _ _ ?_)
    refine wp_seq_k (fun K351 hK352 => ?_)
    refine c_region ?_
    refine mv hR350 (fun a353 hR354 => ?_)
    refine mv hR354 (fun a355 hR356 => ?_)
    refine r_len sv hR356 rfl rfl rfl rfl Tryd.underlying87 (by decide) (fun a357 hR358 => ?_)
    refine r_eql sv hR358 rfl rfl rfl rfl (by decide) (fun a359 hR360 => ?_)
    refine asg hR360 (fun a361 hR362 => ?_)
    refine asg hR362 (fun a363 hR364 => ?_)
    refine wpList_nil (x_then_n (hK352 _ _ ?_))
    refine wp_ret ?_
    refine e_ret2 hR364 rfl rfl rfl rfl ?_
    have he365 : measL t = allTs 0 st := measL_end (by rw [← hsc, List.take_of_length_le (by omega)])
    rw [he365]
    have hc369 := own_cap (hS32.res (i := 0) rfl)
    obtain ⟨hS366, hrow367⟩ := hS32.row_data (i := 0) rfl (fun _ h => h)
    have hS368 := hS366.data (dRow 2 Aa ((allTs 0 st).length) ca (encMs (allTs 0 st))) ⟨hc369, hrow367⟩
    refine ⟨Aa, ca, ?_, hS368.fr, ⟨by have := (hS368.row (i := 2) rfl).1; exact this, ((hS368.row (i := 2) rfl).2.mono (fun _ hk => ⟨imm_nxt hk, rfl⟩))⟩⟩
    exact ret_t2 rfl (ret_b (by first | (rw [measB_end (by rw [← hsc, List.take_of_length_le (by omega)]), meas_length]; done) | (rw [measB_end (by rw [← hsc, List.take_of_length_le (by omega)]), meas_length]; simp [h40]; done)))

set_option maxRecDepth 100000 in
set_option maxHeartbeats 1000000 in
theorem look_calls (w0 : World) (Z : Nat → Prop) (hZ : ∀ k, Z k → k < w0.heap.size) (tA : Option Addr) (tc : Nat) (t : List Nd) (hShp : Shapes w0 Z) (ht : (dRow 4 tA t.length tc (encNs t)).φ w0 Z) (hsm : sml t) (hl : t.length ≤ 1000000) :
    Calls Tryd.prog 67 [.slice tA t.length tc].toArray w0 (fun e w' => ∃ (rA0 : Option Addr) (rc0 : Nat), e = .returned (.tuple #[.slice rA0 (lookL t).length rc0, .int .i64 (chk t)]) ∧ Fr none_ w0 w' ∧ (dRow 2 rA0 ((lookL t).length) rc0 (encMs (lookL t))).φ w' (nxt Z w0 w')) := by
  have hstart : ∀ k, Z k → imm Z w0 [] w0 k ∧ w0.heap[k]? = w0.heap[k]? := fun k hk => ⟨⟨hZ k hk, fun _ => hk, fun _ h => by cases h⟩, rfl⟩
  have hS3 : St w0 Z none_ w0 [] [dShapes, dRow 4 tA t.length tc (encNs t)] := St.start w0 Z none_ _ (by
    intro d hd
    simp only [List.mem_cons, List.not_mem_nil, or_false] at hd
    rcases hd with rfl | rfl
    · exact Dat.mono _ _ _ _ _ (Nat.le_refl _) hShp hstart
    · exact Dat.mono _ _ _ _ _ (Nat.le_refl _) ht hstart
    )
  refine c_enter Tryd.func67 rfl Tryd.ntmps67 rfl (fun a1 hR2 => ?_)
  refine wp_seq_k (fun K4 hK5 => ?_)
  refine c_region ?_
  refine asg hR2 (fun a6 hR7 => ?_)
  refine asg hR7 (fun a8 hR9 => ?_)
  refine wpList_nil (x_then_n (hK5 _ _ ?_))
  refine wp_seq_k (fun K10 hK11 => ?_)
  refine wp_seq_k (fun K12 hK13 => ?_)
  refine c_region ?_
  refine mv hR9 (fun a14 hR15 => ?_)
  refine r_len sv hR15 rfl rfl rfl rfl Tryd.underlying22 (by decide) (fun a16 hR17 => ?_)
  refine r_gtr sv hR17 rfl rfl rfl rfl (by decide) (fun a18 hR19 => ?_)
  refine wpList_nil (x_then_n (hK13 _ _ ?_))
  rcases Decidable.em (4000 < ((t.length : Nat) : Int)) with h20 | h20
  · skip
    have hR21 := hR19.setb (d := 8) (b := true) rfl (decide_eq_true h20)
    refine wp_cond_true (hR21.ev rfl) ?_
    refine wp_seq_k (fun K22 hK23 => ?_)
    refine c_region ?_
    refine asg hR21 (fun a24 hR25 => ?_)
    refine asg hR25 (fun a26 hR27 => ?_)
    refine wpList_nil (x_then_n (hK23 _ _ ?_))
    refine wp_ret ?_
    refine x_then_r ?_
    refine e_ret2 hR27 rfl rfl rfl rfl ?_
    have he28 : lookL t = [] := lookL_bad (by first | rw [chk_size (by omega)]; omega | (rw [chk_form (by omega) (by assumption)]; omega) | (rw [chk_deep (by omega) (by assumption) (by assumption)]; omega))
    rw [he28]
    refine ⟨none, 0, ?_, hS3.fr, ⟨Nat.le_refl _, RowI.nil _ _ _ _⟩⟩
    exact ret_t2 rfl (ret_i (by first | exact (chk_size (by omega)).symm))
  · skip
    have hR29 := hR19.setb (d := 8) (b := false) rfl (decide_eq_false h20)
    refine wp_cond_false (hR29.ev rfl) ?_
    refine wp_skip ?_
    refine x_then_n (hK11 _ _ ?_)
    refine wp_seq_k (fun K30 hK31 => ?_)
    refine c_region ?_
    refine mv hR29 (fun a32 hR33 => ?_)
    have hS34 : St w0 Z none_ w0 [] [dShapes, dRow 4 tA t.length tc (encNs t)] := hS3
    refine k_call (xs := [.tmp 10]) se hR33 rfl rfl rfl (by decide) ok106 (measured_calls _ (imm Z w0 [] _) (fun _ h => h.1) tA tc t (hS34.get (i := 0) rfl) (hS34.get (i := 1) rfl) (by first | assumption | omega | (simp; done) | (simp; omega)) (by first | assumption | omega | (simp; done) | (simp; omega))) ?_
    rintro e44 w36 ⟨A40, c41, rfl, hf39, hd42⟩
    have hS45 := hS34.below hf39.below
    have hS46 := hS45.data (dRow 2 A40 ((measL t).length) c41 (encMs (measL t))) ⟨hd42.1, hd42.2.mono (fun _ hk => ⟨nxt_imm hS34 hk, rfl⟩)⟩
    refine ⟨_, rfl, fun a35 hR37 => ?_⟩
    refine mv hR37 (fun a47 hR48 => ?_)
    refine r_extract sv hR48 rfl rfl rfl rfl (by decide) (fun a49 hR50 => ?_)
    refine r_extract sv hR50 rfl rfl rfl rfl (by decide) (fun a51 hR52 => ?_)
    refine asg hR52 (fun a53 hR54 => ?_)
    refine asg hR54 (fun a55 hR56 => ?_)
    refine wpList_nil (x_then_n (hK31 _ _ ?_))
    refine wp_seq_k (fun K57 hK58 => ?_)
    refine wp_block ?_
    refine wp_seq_k (fun K59 hK60 => ?_)
    refine c_region ?_
    refine mv hR56 (fun a61 hR62 => ?_)
    refine r_not sv hR62 rfl rfl rfl (by decide) (fun a63 hR64 => ?_)
    refine asg hR64 (fun a65 hR66 => ?_)
    refine wpList_nil (x_then_n (hK60 _ _ ?_))
    rcases Bool.eq_false_or_eq_true (measB t) with h67 | h67
    · skip
      have hpos := measL_pos h67
      have hml := measL_length h67
      have hR68 := hR66.setb (d := 14) (b := false) rfl (by rw [h67]; rfl)
      refine wp_cond_false (hR68.ev rfl) ?_
      refine wp_seq_k (fun K69 hK70 => ?_)
      refine c_region ?_
      refine mv hR68 (fun a71 hR72 => ?_)
      refine mv hR72 (fun a73 hR74 => ?_)
      refine r_len sv hR74 rfl rfl rfl rfl Tryd.underlying87 (by decide) (fun a75 hR76 => ?_)
      refine r_sub (z := ((((measL t).length : Nat) : Int) - 1)) sv hR76 rfl rfl rfl rfl (by decide) (by omega) (by omega) (by omega) (fun a77 hR78 => ?_)
      refine m_index (i := ((measL t).length) - (1)) (j := (((measL t).length) - (1)) * 2) sv hR78 rfl rfl rfl rfl Tryd.underlying87 sz121 (by omega) (by omega) (ms_elem (t := measL t) (k := ((measL t).length) - (1)) (hS46.row (i := 2) rfl).2 (by omega)).some_ rfl (by decide) (fun a79 hR80 => ?_)
      refine m_fieldE (j' := (((measL t).length) - (1)) * 2 + 1) sv hR80 rfl rfl rfl (ms_elem (t := measL t) (k := ((measL t).length) - (1)) (hS46.row (i := 2) rfl).2 (by omega)).some_ Tryd.underlying121 rfl sz3 rfl rfl (by decide) (fun a81 hR82 => ?_)
      refine m_loadE sv hR82 rfl rfl rfl 1 ((((measL t).length) - (1)) * 2) (ms_elem (t := measL t) (k := ((measL t).length) - (1)) (hS46.row (i := 2) rfl).2 (by omega)) rfl rfl Tryd.underlying3 rfl (by decide) (fun a83 hR84 => ?_)
      refine r_gtr sv hR84 rfl rfl rfl rfl (by decide) (fun a85 hR86 => ?_)
      refine asg hR86 (fun a87 hR88 => ?_)
      refine wpList_nil (x_then_n (hK70 _ _ ?_))
      rcases Decidable.em (60 < (((nthM (measL t) (((measL t).length) - (1))).2))) with h89 | h89
      · skip
        have hR90 := hR88.setb (d := 17) (b := true) rfl (decide_eq_true h89)
        refine wp_cond_true (hR90.ev rfl) ?_
        refine wp_seq_k (fun K91 hK92 => ?_)
        refine c_region ?_
        refine asg hR90 (fun a93 hR94 => ?_)
        refine asg hR94 (fun a95 hR96 => ?_)
        refine wpList_nil (x_then_n (hK92 _ _ ?_))
        refine wp_ret ?_
        refine x_block_r ?_
        refine x_then_r ?_
        refine e_ret2 hR96 rfl rfl rfl rfl ?_
        have he97 : lookL t = [] := lookL_bad (by first | rw [chk_size (by omega)]; omega | (rw [chk_form (by omega) (by assumption)]; omega) | (rw [chk_deep (by omega) (by assumption) (by assumption)]; omega))
        rw [he97]
        refine ⟨none, 0, ?_, hS46.fr, ⟨Nat.le_refl _, RowI.nil _ _ _ _⟩⟩
        exact ret_t2 rfl (ret_i (by first | exact (chk_deep (by omega) (by assumption) (by assumption)).symm))
      · skip
        have hR98 := hR88.setb (d := 17) (b := false) rfl (decide_eq_false h89)
        refine wp_cond_false (hR98.ev rfl) ?_
        refine wp_skip ?_
        refine x_block_n ?_
        refine x_then_n (hK58 _ _ ?_)
        refine wp_seq_k (fun K99 hK100 => ?_)
        refine c_region ?_
        refine mv hR98 (fun a101 hR102 => ?_)
        refine asg hR102 (fun a103 hR104 => ?_)
        refine asg hR104 (fun a105 hR106 => ?_)
        refine wpList_nil (x_then_n (hK100 _ _ ?_))
        refine wp_ret ?_
        refine e_ret2 hR106 rfl rfl rfl rfl ?_
        have he107 : lookL t = measL t := lookL_good (chk_good (by omega) (by assumption) (by assumption))
        rw [he107]
        refine ⟨A40, c41, ?_, hS46.fr, ⟨by have := (hS46.row (i := 2) rfl).1; exact this, ((hS46.row (i := 2) rfl).2.mono (fun _ hk => ⟨imm_nxt hk, rfl⟩))⟩⟩
        exact ret_t2 rfl (ret_i (by first | exact (chk_good (by omega) (by assumption) (by assumption)).symm))
    · skip
      have hR108 := hR66.setb (d := 14) (b := true) rfl (by rw [h67]; rfl)
      refine wp_cond_true (hR108.ev rfl) ?_
      refine wp_seq_k (fun K109 hK110 => ?_)
      refine c_region ?_
      refine asg hR108 (fun a111 hR112 => ?_)
      refine asg hR112 (fun a113 hR114 => ?_)
      refine wpList_nil (x_then_n (hK110 _ _ ?_))
      refine wp_ret ?_
      refine x_block_r ?_
      refine x_then_r ?_
      refine e_ret2 hR114 rfl rfl rfl rfl ?_
      have he115 : lookL t = [] := lookL_bad (by first | rw [chk_size (by omega)]; omega | (rw [chk_form (by omega) (by assumption)]; omega) | (rw [chk_deep (by omega) (by assumption) (by assumption)]; omega))
      rw [he115]
      refine ⟨none, 0, ?_, hS46.fr, ⟨Nat.le_refl _, RowI.nil _ _ _ _⟩⟩
      exact ret_t2 rfl (ret_i (by first | exact (chk_form (by omega) (by assumption)).symm))

set_option maxRecDepth 100000 in
set_option maxHeartbeats 1000000 in
theorem check_calls (w0 : World) (Z : Nat → Prop) (hZ : ∀ k, Z k → k < w0.heap.size) (tA : Option Addr) (tc : Nat) (t : List Nd) (hShp : Shapes w0 Z) (ht : (dRow 4 tA t.length tc (encNs t)).φ w0 Z) (hsm : sml t) (hl : t.length ≤ 1000000) :
    Calls Tryd.prog 44 [.slice tA t.length tc].toArray w0 (fun e w' => e = .returned (.int .i64 (chk t)) ∧ Fr none_ w0 w') := by
  have hstart : ∀ k, Z k → imm Z w0 [] w0 k ∧ w0.heap[k]? = w0.heap[k]? := fun k hk => ⟨⟨hZ k hk, fun _ => hk, fun _ h => by cases h⟩, rfl⟩
  have hS3 : St w0 Z none_ w0 [] [dShapes, dRow 4 tA t.length tc (encNs t)] := St.start w0 Z none_ _ (by
    intro d hd
    simp only [List.mem_cons, List.not_mem_nil, or_false] at hd
    rcases hd with rfl | rfl
    · exact Dat.mono _ _ _ _ _ (Nat.le_refl _) hShp hstart
    · exact Dat.mono _ _ _ _ _ (Nat.le_refl _) ht hstart
    )
  refine c_enter Tryd.func44 rfl Tryd.ntmps44 rfl (fun a1 hR2 => ?_)
  refine wp_seq_k (fun K4 hK5 => ?_)
  refine c_region ?_
  refine asg hR2 (fun a6 hR7 => ?_)
  refine wpList_nil (x_then_n (hK5 _ _ ?_))
  refine wp_seq_k (fun K8 hK9 => ?_)
  refine c_region ?_
  refine mv hR7 (fun a10 hR11 => ?_)
  have hS12 : St w0 Z none_ w0 [] [dShapes, dRow 4 tA t.length tc (encNs t)] := hS3
  refine k_call (xs := [.tmp 6]) se hR11 rfl rfl rfl (by decide) ok67 (look_calls _ (imm Z w0 [] _) (fun _ h => h.1) tA tc t (hS12.get (i := 0) rfl) (hS12.get (i := 1) rfl) (by first | assumption | omega | (simp; done) | (simp; omega)) (by first | assumption | omega | (simp; done) | (simp; omega))) ?_
  rintro e22 w14 ⟨A18, c19, rfl, hf17, hd20⟩
  have hS23 := hS12.below hf17.below
  have hS24 := hS23.data (dRow 2 A18 ((lookL t).length) c19 (encMs (lookL t))) ⟨hd20.1, hd20.2.mono (fun _ hk => ⟨nxt_imm hS12 hk, rfl⟩)⟩
  refine ⟨_, rfl, fun a13 hR15 => ?_⟩
  refine mv hR15 (fun a25 hR26 => ?_)
  refine r_extract sv hR26 rfl rfl rfl rfl (by decide) (fun a27 hR28 => ?_)
  refine r_extract sv hR28 rfl rfl rfl rfl (by decide) (fun a29 hR30 => ?_)
  refine asg hR30 (fun a31 hR32 => ?_)
  refine asg hR32 (fun a33 hR34 => ?_)
  refine wpList_nil (x_then_n (hK9 _ _ ?_))
  refine wp_seq_k (fun K35 hK36 => ?_)
  refine c_region ?_
  refine mv hR34 (fun a37 hR38 => ?_)
  refine asg hR38 (fun a39 hR40 => ?_)
  refine wpList_nil (x_then_n (hK36 _ _ ?_))
  refine wp_ret ?_
  refine e_ret1 hR40 rfl rfl rfl ?_
  refine ⟨?_, hS24.fr⟩
  exact congrArg Ending.returned (ret_i (by first | rfl | omega | assumption | exact decide_eq_true (by assumption) | ( omega) | (simp []; done) | (simp [] at *; done) | (simp [] <;> omega) | (rw [Bool.eq_iff_iff]; simp [] <;> omega) | (rw [Bool.eq_iff_iff]; simp [] at * <;> omega)))
end Go.Proofs.YtobgdeffhdefeaaDoor
/- Contracts of functions, one theorem each: what the call returns, and that nothing old is changed. Printed by gen.py. -/
namespace Go.Proofs.YtobgdeffhdefeaaDoor
open Go Go.RowKit
set_option linter.unusedSimpArgs false
set_option linter.unusedVariables false

set_option maxRecDepth 100000 in
set_option maxHeartbeats 1000000 in
theorem cloneI_calls (w0 : World) (Z : Nat → Prop) (hZ : ∀ k, Z k → k < w0.heap.size) (tA : Option Addr) (tc : Nat) (t : List Int) (ht : (dRow 1 tA t.length tc (encIs t)).φ w0 Z) (hl : t.length ≤ 1000000) :
    Calls Tryd.prog 113 [.slice tA t.length tc].toArray w0 (fun e w' => ∃ (rA0 : Option Addr) (rc0 : Nat), e = .returned (.slice rA0 (t).length rc0) ∧ Fr none_ w0 w' ∧ (dRow 1 rA0 ((t).length) rc0 (encIs t)).φ w' (nxt Z w0 w')) := by
  have hstart : ∀ k, Z k → imm Z w0 [] w0 k ∧ w0.heap[k]? = w0.heap[k]? := fun k hk => ⟨⟨hZ k hk, fun _ => hk, fun _ h => by cases h⟩, rfl⟩
  have hS3 : St w0 Z none_ w0 [] [dRow 1 tA t.length tc (encIs t)] := St.start w0 Z none_ _ (by
    intro d hd
    simp only [List.mem_cons, List.not_mem_nil, or_false] at hd
    rcases hd with rfl
    · exact Dat.mono _ _ _ _ _ (Nat.le_refl _) ht hstart
    )
  refine c_enter Tryd.func113 rfl Tryd.ntmps113 rfl (fun a1 hR2 => ?_)
  refine wp_seq_k (fun K4 hK5 => ?_)
  refine c_region ?_
  refine asg hR2 (fun a6 hR7 => ?_)
  refine wpList_nil (x_then_n (hK5 _ _ ?_))
  refine wp_seq_k (fun K8 hK9 => ?_)
  refine wp_seq_k (fun K10 hK11 => ?_)
  refine c_region ?_
  refine mv hR7 (fun a12 hR13 => ?_)
  refine r_eqlNil sv hR13 rfl rfl rfl rfl Tryd.underlying66 (by decide) (fun a14 hR15 => ?_)
  refine wpList_nil (x_then_n (hK11 _ _ ?_))
  rcases Bool.eq_false_or_eq_true (Option.isNone tA) with h16 | h16
  · skip
    have hR17 := hR15.setb (d := 4) (b := true) rfl h16
    refine wp_cond_true (hR17.ev rfl) ?_
    refine wp_seq_k (fun K18 hK19 => ?_)
    refine c_region ?_
    refine asg hR17 (fun a20 hR21 => ?_)
    refine wpList_nil (x_then_n (hK19 _ _ ?_))
    refine wp_ret ?_
    refine x_then_r ?_
    refine e_ret1 hR21 rfl rfl rfl ?_
    have he22 : t = [] := List.eq_nil_of_length_eq_zero (nil_len ht (by assumption))
    rw [he22]
    refine ⟨none, 0, ?_, hS3.fr, ⟨Nat.le_refl _, RowI.nil _ _ _ _⟩⟩
    exact congrArg Ending.returned rfl
  · skip
    have hR23 := hR15.setb (d := 4) (b := false) rfl h16
    refine wp_cond_false (hR23.ev rfl) ?_
    refine wp_skip ?_
    refine x_then_n (hK9 _ _ ?_)
    refine wp_seq_k (fun K24 hK25 => ?_)
    refine c_region ?_
    refine m_buildSlice (ps := []) (cs := []) sv hR23 hS3 rfl rfl rfl Tryd.underlying66 zi3 rfl rfl (by kernel_rfl) rfl (by decide) (fun a26 w27 g28 hR29 hS30 => ?_)
    refine mv hR29 (fun a31 hR32 => ?_)
    refine m_appendF (f := encI) (i := 0) ([]) (t) sv hR32 hS30 rfl rfl rfl rfl rfl encI_len (encI_one _) Tryd.underlying66 zi3 rfl rfl (hS30.row (i := 0) rfl).2.news rfl (by first | omega | (simp only [List.length_cons, List.length_nil]; omega)) (by decide) (fun a33 w34 A35 c36 hc37 hR38 hS39 => ?_)
    have hl41 : (([]) ++ t : List Int).length = t.length := by first | (simp only [List.length_append, List.length_take, List.length_cons, List.length_nil]; done) | (simp only [List.length_append, List.length_take, List.length_cons, List.length_nil]; omega)
    refine asg hR38 (fun a42 hR43 => ?_)
    refine wpList_nil (x_then_n (hK25 _ _ ?_))
    refine wp_ret ?_
    refine e_ret1 hR43 rfl rfl rfl ?_
    have he44 : t = ([]) ++ t := by simp
    rw [he44]
    have hc48 := own_cap (hS39.res (i := 0) rfl)
    obtain ⟨hS45, hrow46⟩ := hS39.row_data (i := 0) rfl (fun _ h => h)
    have hS47 := hS45.data (dRow 1 A35 ((([]) ++ t : List Int).length) c36 (encIs (([]) ++ t))) ⟨hc48, hrow46⟩
    refine ⟨A35, c36, ?_, hS47.fr, ⟨by have := (hS47.row (i := 1) rfl).1; exact this, ((hS47.row (i := 1) rfl).2.mono (fun _ hk => ⟨imm_nxt hk, rfl⟩))⟩⟩
    exact congrArg Ending.returned rfl

set_option maxRecDepth 100000 in
set_option maxHeartbeats 1000000 in
theorem cloneN_calls (w0 : World) (Z : Nat → Prop) (hZ : ∀ k, Z k → k < w0.heap.size) (tA : Option Addr) (tc : Nat) (t : List Nd) (ht : (dRow 4 tA t.length tc (encNs t)).φ w0 Z) (hl : t.length ≤ 1000000) :
    Calls Tryd.prog 51 [.slice tA t.length tc].toArray w0 (fun e w' => ∃ (rA0 : Option Addr) (rc0 : Nat), e = .returned (.slice rA0 (t).length rc0) ∧ Fr none_ w0 w' ∧ (Res.row rA0 (t).length rc0 32 4 (encNs t)).holds w' ∧ (∀ k, (Res.row rA0 (t).length rc0 32 4 (encNs t)).blk = some k → w0.heap.size ≤ k)) := by
  have hstart : ∀ k, Z k → imm Z w0 [] w0 k ∧ w0.heap[k]? = w0.heap[k]? := fun k hk => ⟨⟨hZ k hk, fun _ => hk, fun _ h => by cases h⟩, rfl⟩
  have hS3 : St w0 Z none_ w0 [] [dRow 4 tA t.length tc (encNs t)] := St.start w0 Z none_ _ (by
    intro d hd
    simp only [List.mem_cons, List.not_mem_nil, or_false] at hd
    rcases hd with rfl
    · exact Dat.mono _ _ _ _ _ (Nat.le_refl _) ht hstart
    )
  refine c_enter Tryd.func51 rfl Tryd.ntmps51 rfl (fun a1 hR2 => ?_)
  refine wp_seq_k (fun K4 hK5 => ?_)
  refine c_region ?_
  refine asg hR2 (fun a6 hR7 => ?_)
  refine wpList_nil (x_then_n (hK5 _ _ ?_))
  refine wp_seq_k (fun K8 hK9 => ?_)
  refine wp_seq_k (fun K10 hK11 => ?_)
  refine c_region ?_
  refine mv hR7 (fun a12 hR13 => ?_)
  refine r_eqlNil sv hR13 rfl rfl rfl rfl Tryd.underlying22 (by decide) (fun a14 hR15 => ?_)
  refine wpList_nil (x_then_n (hK11 _ _ ?_))
  rcases Bool.eq_false_or_eq_true (Option.isNone tA) with h16 | h16
  · skip
    have hR17 := hR15.setb (d := 4) (b := true) rfl h16
    refine wp_cond_true (hR17.ev rfl) ?_
    refine wp_seq_k (fun K18 hK19 => ?_)
    refine c_region ?_
    refine asg hR17 (fun a20 hR21 => ?_)
    refine wpList_nil (x_then_n (hK19 _ _ ?_))
    refine wp_ret ?_
    refine x_then_r ?_
    refine e_ret1 hR21 rfl rfl rfl ?_
    have he22 : t = [] := List.eq_nil_of_length_eq_zero (nil_len ht (by assumption))
    rw [he22]
    refine ⟨none, 0, ?_, hS3.fr, nil_row1, nil_row2⟩
    exact congrArg Ending.returned rfl
  · skip
    have hR23 := hR15.setb (d := 4) (b := false) rfl h16
    refine wp_cond_false (hR23.ev rfl) ?_
    refine wp_skip ?_
    refine x_then_n (hK9 _ _ ?_)
    refine wp_seq_k (fun K24 hK25 => ?_)
    refine c_region ?_
    refine m_buildSlice (ps := []) (cs := []) sv hR23 hS3 rfl rfl rfl Tryd.underlying22 zi32 rfl rfl (by kernel_rfl) rfl (by decide) (fun a26 w27 g28 hR29 hS30 => ?_)
    refine mv hR29 (fun a31 hR32 => ?_)
    refine m_appendF (f := encN) (i := 0) ([]) (t) sv hR32 hS30 rfl rfl rfl rfl rfl encN_len (encN_one _) Tryd.underlying22 zi32 rfl rfl (hS30.row (i := 0) rfl).2.news rfl (by first | omega | (simp only [List.length_cons, List.length_nil]; omega)) (by decide) (fun a33 w34 A35 c36 hc37 hR38 hS39 => ?_)
    have hl41 : (([]) ++ t : List Nd).length = t.length := by first | (simp only [List.length_append, List.length_take, List.length_cons, List.length_nil]; done) | (simp only [List.length_append, List.length_take, List.length_cons, List.length_nil]; omega)
    refine asg hR38 (fun a42 hR43 => ?_)
    refine wpList_nil (x_then_n (hK25 _ _ ?_))
    refine wp_ret ?_
    refine e_ret1 hR43 rfl rfl rfl ?_
    have he44 : t = ([]) ++ t := by simp
    rw [he44]
    refine ⟨A35, c36, ?_, hS39.fr, (hS39.res (i := 0) rfl), (hS39.fresh (i := 0) rfl)⟩
    exact congrArg Ending.returned rfl
end Go.Proofs.YtobgdeffhdefeaaDoor
