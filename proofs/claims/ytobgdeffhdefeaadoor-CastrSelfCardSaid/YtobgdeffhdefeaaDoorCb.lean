import Derived.Test.YtobgdeffhdefeaaDoorCa
/- Contracts of functions, one theorem each: what the call returns, and that nothing old is changed. Printed by gen.py. -/
namespace Go.Proofs.YtobgdeffhdefeaaDoor
open Go Go.RowKit
set_option linter.unusedSimpArgs false
set_option linter.unusedVariables false

set_option maxRecDepth 100000 in
set_option maxHeartbeats 8000000 in
theorem crule0_calls (w0 : World) (Z : Nat → Prop) (hZ : ∀ k, Z k → k < w0.heap.size) (aA : Option Addr) (ac : Nat) (a : List Nd) (bA : Option Addr) (bc : Nat) (b : List Nd) (tA : Option Addr) (tc : Nat) (t : List Nd) (hShp : Shapes w0 Z) (ha : (dRow 4 aA a.length ac (encNs a)).φ w0 Z) (hb : (dRow 4 bA b.length bc (encNs b)).φ w0 Z) (ht : (dRow 4 tA t.length tc (encNs t)).φ w0 Z) (hsa : sml a) (hsb : sml b) (hst : sml t) (hla : a.length ≤ 1000000) (hlb : b.length ≤ 1000000) (hlt : t.length ≤ 1000000) (hq : chk a = 0 → chk b = 0 → chk t = 0 → ¬ (nth t (t.length - 1)).K = 29 → ((nth a (a.length - 1)).K = 10 ∨ (nth a (a.length - 1)).K = 2 ∨ (nth a (a.length - 1)).K = 25) ∧ (nth b (b.length - 1)) = (nth a (a.length - 1))) :
    Calls Tryd.prog 36 [.slice aA a.length ac, .slice bA b.length bc, .slice tA t.length tc].toArray w0 (fun e w' => ∃ (rA0 : Option Addr) (rc0 : Nat), e = .returned (.tuple #[.slice rA0 ((if ¬ (if ¬ chk a = 0 then chk a else if ¬ chk b = 0 then chk b else chk t) = 0 then [] else if (nth t (t.length - 1)).K = 29 then [(⟨29, 0, 0, ⟨#[]⟩⟩ : Nd)] else t)).length rc0, .int .i64 ((if ¬ chk a = 0 then chk a else if ¬ chk b = 0 then chk b else chk t))]) ∧ Fr none_ w0 w' ∧ (dRow 4 rA0 (((if ¬ (if ¬ chk a = 0 then chk a else if ¬ chk b = 0 then chk b else chk t) = 0 then [] else if (nth t (t.length - 1)).K = 29 then [(⟨29, 0, 0, ⟨#[]⟩⟩ : Nd)] else t)).length) rc0 (encNs (if ¬ (if ¬ chk a = 0 then chk a else if ¬ chk b = 0 then chk b else chk t) = 0 then [] else if (nth t (t.length - 1)).K = 29 then [(⟨29, 0, 0, ⟨#[]⟩⟩ : Nd)] else t))).φ w' (nxt Z w0 w')) := by
  have hstart : ∀ k, Z k → imm Z w0 [] w0 k ∧ w0.heap[k]? = w0.heap[k]? := fun k hk => ⟨⟨hZ k hk, fun _ => hk, fun _ h => by cases h⟩, rfl⟩
  have hS3 : St w0 Z none_ w0 [] [dShapes, dRow 4 aA a.length ac (encNs a), dRow 4 bA b.length bc (encNs b), dRow 4 tA t.length tc (encNs t)] := St.start w0 Z none_ _ (by
    intro d hd
    simp only [List.mem_cons, List.not_mem_nil, or_false] at hd
    rcases hd with rfl | rfl | rfl | rfl
    · exact Dat.mono _ _ _ _ _ hShp hstart
    · exact Dat.mono _ _ _ _ _ ha hstart
    · exact Dat.mono _ _ _ _ _ hb hstart
    · exact Dat.mono _ _ _ _ _ ht hstart
    )
  refine c_enter Tryd.func36 rfl Tryd.ntmps36 rfl (fun a1 hR2 => ?_)
  refine wp_seq_k (fun K4 hK5 => ?_)
  refine c_region ?_
  refine r_assign (st_listV rfl) hR2 rfl rfl rfl (by decide) (fun a6 hR7 => ?_)
  refine r_assign (st_listV rfl) hR7 rfl rfl rfl (by decide) (fun a8 hR9 => ?_)
  refine wpList_nil ?_
  refine x_then_n (hK5 _ _ ?_)
  refine wp_seq_k (fun K10 hK11 => ?_)
  refine wp_seq_k (fun K12 hK13 => ?_)
  refine c_region ?_
  refine r_move (st_listV rfl) hR9 rfl rfl rfl (by decide) (fun a14 hR15 => ?_)
  refine r_move (st_listV rfl) hR15 rfl rfl rfl (by decide) (fun a16 hR17 => ?_)
  refine r_move (st_listV rfl) hR17 rfl rfl rfl (by decide) (fun a18 hR19 => ?_)
  have hS20 := hS3.data (dAll [((aA, ac, a) : Sl), ((bA, bc, b) : Sl), ((tA, tc, t) : Sl)]) (all_cons (hS3.get (i := 1) rfl) (all_cons (hS3.get (i := 2) rfl) (all_cons (hS3.get (i := 3) rfl) all_nil)))
  refine m_buildSlice (ps := [(0, .tmp 14), (1, .tmp 15), (2, .tmp 16)]) (cs := [.slice aA a.length ac, .slice bA b.length bc, .slice tA t.length tc]) (st_listV rfl) hR19 hS20 rfl rfl rfl Tryd.underlying39 zi22 rfl rfl (by kernel_rfl) rfl (by decide) (fun a21 w22 g23 hR24 hS25 => ?_)
  refine r_len (st_listV rfl) hR24 rfl rfl rfl rfl Tryd.underlying39 (by decide) (fun a26 hR27 => ?_)
  refine r_move (st_listV rfl) hR27 rfl rfl rfl (by decide) (fun a28 hR29 => ?_)
  refine wpList_nil ?_
  refine x_then_n (hK13 _ _ ?_)
  refine wp_block ?_
  refine wp_loop_rounds 4 (r_round ?_)
  refine wp_seq_k (fun K30 hK31 => ?_)
  refine c_region ?_
  have h32 : (0 : Int) < 3 := by decide
  refine r_lss (st_listV rfl) hR29 rfl rfl rfl rfl (by decide) (fun a33 hR34 => ?_)
  refine wpList_nil ?_
  refine x_then_n (hK31 _ _ ?_)
  refine wp_seq_k (fun K35 hK36 => ?_)
  have hR37 := hR34.setb (d := 20) (b := true) rfl (decide_eq_true h32)
  refine wp_cond_true (hR37.ev rfl) ?_
  refine wp_skip ?_
  refine x_then_n (hK36 _ _ ?_)
  refine wp_seq_k (fun K38 hK39 => ?_)
  refine wp_block ?_
  refine wp_seq_k (fun K40 hK41 => ?_)
  refine c_region ?_
  refine m_index (i := 0) (j := 0 * 1) (st_listV rfl) hR37 rfl rfl rfl rfl Tryd.underlying39 sz22 (by omega) (by simp) (own_ss (t := [((aA, ac, a) : Sl), ((bA, bc, b) : Sl), ((tA, tc, t) : Sl)]) (k := 0) (hS25.res (i := 0) rfl) (by simp)).some_ rfl (by decide) (fun a42 hR43 => ?_)
  refine m_loadE (st_listV rfl) hR43 rfl rfl rfl 0 (0 * 1) (own_ss (t := [((aA, ac, a) : Sl), ((bA, bc, b) : Sl), ((tA, tc, t) : Sl)]) (k := 0) (hS25.res (i := 0) rfl) (by simp)) rfl rfl Tryd.underlying22 rfl (by decide) (fun a44 hR45 => ?_)
  refine r_assign (st_listV rfl) hR45 rfl rfl rfl (by decide) (fun a46 hR47 => ?_)
  refine wpList_nil ?_
  refine x_then_n (hK41 _ _ ?_)
  refine wp_seq_k (fun K48 hK49 => ?_)
  refine c_region ?_
  refine r_move (st_listV rfl) hR47 rfl rfl rfl (by decide) (fun a50 hR51 => ?_)
  have hS52 : St w0 Z none_ w22 [.row (some ⟨g23, 0, none⟩) 3 3 22 1 (encSs ([((aA, ac, a) : Sl), ((bA, bc, b) : Sl), ((tA, tc, t) : Sl)]))] [dShapes, dRow 4 aA a.length ac (encNs a), dRow 4 bA b.length bc (encNs b), dRow 4 tA t.length tc (encNs t), dAll [((aA, ac, a) : Sl), ((bA, bc, b) : Sl), ((tA, tc, t) : Sl)]] := hS25
  refine k_call (xs := [.tmp 23]) (st_list rfl) hR51 rfl rfl rfl (by decide) ok44 (check_calls _ (imm Z w0 [.row (some ⟨g23, 0, none⟩) 3 3 22 1 (encSs ([((aA, ac, a) : Sl), ((bA, bc, b) : Sl), ((tA, tc, t) : Sl)]))] _) (fun _ h => h.1) aA ac a (hS52.get (i := 0) rfl) (hS52.get (i := 1) rfl) (by first | assumption | omega | (simp; done) | (simp; omega)) (by first | assumption | omega | (simp; done) | (simp; omega))) ?_
  rintro e59 w54 ⟨rfl, hf57⟩
  have hS60 := hS52.below hf57.below
  refine ⟨_, rfl, fun a53 hR55 => ?_⟩
  refine r_assign (st_listV rfl) hR55 rfl rfl rfl (by decide) (fun a61 hR62 => ?_)
  refine wpList_nil ?_
  refine x_then_n (hK49 _ _ ?_)
  refine wp_seq_k (fun K63 hK64 => ?_)
  refine c_region ?_
  refine r_move (st_listV rfl) hR62 rfl rfl rfl (by decide) (fun a65 hR66 => ?_)
  refine r_neq (st_listV rfl) hR66 rfl rfl rfl rfl (by decide) (fun a67 hR68 => ?_)
  refine wpList_nil ?_
  refine x_then_n (hK64 _ _ ?_)
  rcases Decidable.em (((chk a)) = 0) with h69 | h69
  · skip
    have hpa := chk_pos h69
    have hR70 := hR68.setb (d := 26) (b := false) rfl (by rw [(decide_eq_true h69)]; rfl)
    refine wp_cond_false (hR70.ev rfl) ?_
    refine wp_skip ?_
    refine x_block_n ?_
    refine x_then_n (hK39 _ _ ?_)
    refine c_region ?_
    refine r_add (z := 1) (st_listV rfl) hR70 rfl rfl rfl rfl (by decide) (by omega) (by omega) (by omega) (fun a71 hR72 => ?_)
    refine r_move (st_listV rfl) hR72 rfl rfl rfl (by decide) (fun a73 hR74 => ?_)
    refine wpList_nil ?_
    refine x_then_n (r_round ?_)
    refine wp_seq_k (fun K75 hK76 => ?_)
    refine c_region ?_
    have h77 : (1 : Int) < 3 := by decide
    refine r_lss (st_listV rfl) hR74 rfl rfl rfl rfl (by decide) (fun a78 hR79 => ?_)
    refine wpList_nil ?_
    refine x_then_n (hK76 _ _ ?_)
    refine wp_seq_k (fun K80 hK81 => ?_)
    have hR82 := hR79.setb (d := 20) (b := true) rfl (decide_eq_true h77)
    refine wp_cond_true (hR82.ev rfl) ?_
    refine wp_skip ?_
    refine x_then_n (hK81 _ _ ?_)
    refine wp_seq_k (fun K83 hK84 => ?_)
    refine wp_block ?_
    refine wp_seq_k (fun K85 hK86 => ?_)
    refine c_region ?_
    refine m_index (i := 1) (j := 1 * 1) (st_listV rfl) hR82 rfl rfl rfl rfl Tryd.underlying39 sz22 (by omega) (by simp) (own_ss (t := [((aA, ac, a) : Sl), ((bA, bc, b) : Sl), ((tA, tc, t) : Sl)]) (k := 1) (hS60.res (i := 0) rfl) (by simp)).some_ rfl (by decide) (fun a87 hR88 => ?_)
    refine m_loadE (st_listV rfl) hR88 rfl rfl rfl 0 (1 * 1) (own_ss (t := [((aA, ac, a) : Sl), ((bA, bc, b) : Sl), ((tA, tc, t) : Sl)]) (k := 1) (hS60.res (i := 0) rfl) (by simp)) rfl rfl Tryd.underlying22 rfl (by decide) (fun a89 hR90 => ?_)
    refine r_assign (st_listV rfl) hR90 rfl rfl rfl (by decide) (fun a91 hR92 => ?_)
    refine wpList_nil ?_
    refine x_then_n (hK86 _ _ ?_)
    refine wp_seq_k (fun K93 hK94 => ?_)
    refine c_region ?_
    refine r_move (st_listV rfl) hR92 rfl rfl rfl (by decide) (fun a95 hR96 => ?_)
    have hS97 : St w0 Z none_ w54 [.row (some ⟨g23, 0, none⟩) 3 3 22 1 (encSs ([((aA, ac, a) : Sl), ((bA, bc, b) : Sl), ((tA, tc, t) : Sl)]))] [dShapes, dRow 4 aA a.length ac (encNs a), dRow 4 bA b.length bc (encNs b), dRow 4 tA t.length tc (encNs t), dAll [((aA, ac, a) : Sl), ((bA, bc, b) : Sl), ((tA, tc, t) : Sl)]] := hS60
    refine k_call (xs := [.tmp 23]) (st_list rfl) hR96 rfl rfl rfl (by decide) ok44 (check_calls _ (imm Z w0 [.row (some ⟨g23, 0, none⟩) 3 3 22 1 (encSs ([((aA, ac, a) : Sl), ((bA, bc, b) : Sl), ((tA, tc, t) : Sl)]))] _) (fun _ h => h.1) bA bc b (hS97.get (i := 0) rfl) (hS97.get (i := 2) rfl) (by first | assumption | omega | (simp; done) | (simp; omega)) (by first | assumption | omega | (simp; done) | (simp; omega))) ?_
    rintro e104 w99 ⟨rfl, hf102⟩
    have hS105 := hS97.below hf102.below
    refine ⟨_, rfl, fun a98 hR100 => ?_⟩
    refine r_assign (st_listV rfl) hR100 rfl rfl rfl (by decide) (fun a106 hR107 => ?_)
    refine wpList_nil ?_
    refine x_then_n (hK94 _ _ ?_)
    refine wp_seq_k (fun K108 hK109 => ?_)
    refine c_region ?_
    refine r_move (st_listV rfl) hR107 rfl rfl rfl (by decide) (fun a110 hR111 => ?_)
    refine r_neq (st_listV rfl) hR111 rfl rfl rfl rfl (by decide) (fun a112 hR113 => ?_)
    refine wpList_nil ?_
    refine x_then_n (hK109 _ _ ?_)
    rcases Decidable.em (((chk b)) = 0) with h114 | h114
    · skip
      have hpb := chk_pos h114
      have hR115 := hR113.setb (d := 26) (b := false) rfl (by rw [(decide_eq_true h114)]; rfl)
      refine wp_cond_false (hR115.ev rfl) ?_
      refine wp_skip ?_
      refine x_block_n ?_
      refine x_then_n (hK84 _ _ ?_)
      refine c_region ?_
      refine r_add (z := 2) (st_listV rfl) hR115 rfl rfl rfl rfl (by decide) (by omega) (by omega) (by omega) (fun a116 hR117 => ?_)
      refine r_move (st_listV rfl) hR117 rfl rfl rfl (by decide) (fun a118 hR119 => ?_)
      refine wpList_nil ?_
      refine x_then_n (r_round ?_)
      refine wp_seq_k (fun K120 hK121 => ?_)
      refine c_region ?_
      have h122 : (2 : Int) < 3 := by decide
      refine r_lss (st_listV rfl) hR119 rfl rfl rfl rfl (by decide) (fun a123 hR124 => ?_)
      refine wpList_nil ?_
      refine x_then_n (hK121 _ _ ?_)
      refine wp_seq_k (fun K125 hK126 => ?_)
      have hR127 := hR124.setb (d := 20) (b := true) rfl (decide_eq_true h122)
      refine wp_cond_true (hR127.ev rfl) ?_
      refine wp_skip ?_
      refine x_then_n (hK126 _ _ ?_)
      refine wp_seq_k (fun K128 hK129 => ?_)
      refine wp_block ?_
      refine wp_seq_k (fun K130 hK131 => ?_)
      refine c_region ?_
      refine m_index (i := 2) (j := 2 * 1) (st_listV rfl) hR127 rfl rfl rfl rfl Tryd.underlying39 sz22 (by omega) (by simp) (own_ss (t := [((aA, ac, a) : Sl), ((bA, bc, b) : Sl), ((tA, tc, t) : Sl)]) (k := 2) (hS105.res (i := 0) rfl) (by simp)).some_ rfl (by decide) (fun a132 hR133 => ?_)
      refine m_loadE (st_listV rfl) hR133 rfl rfl rfl 0 (2 * 1) (own_ss (t := [((aA, ac, a) : Sl), ((bA, bc, b) : Sl), ((tA, tc, t) : Sl)]) (k := 2) (hS105.res (i := 0) rfl) (by simp)) rfl rfl Tryd.underlying22 rfl (by decide) (fun a134 hR135 => ?_)
      refine r_assign (st_listV rfl) hR135 rfl rfl rfl (by decide) (fun a136 hR137 => ?_)
      refine wpList_nil ?_
      refine x_then_n (hK131 _ _ ?_)
      refine wp_seq_k (fun K138 hK139 => ?_)
      refine c_region ?_
      refine r_move (st_listV rfl) hR137 rfl rfl rfl (by decide) (fun a140 hR141 => ?_)
      have hS142 : St w0 Z none_ w99 [.row (some ⟨g23, 0, none⟩) 3 3 22 1 (encSs ([((aA, ac, a) : Sl), ((bA, bc, b) : Sl), ((tA, tc, t) : Sl)]))] [dShapes, dRow 4 aA a.length ac (encNs a), dRow 4 bA b.length bc (encNs b), dRow 4 tA t.length tc (encNs t), dAll [((aA, ac, a) : Sl), ((bA, bc, b) : Sl), ((tA, tc, t) : Sl)]] := hS105
      refine k_call (xs := [.tmp 23]) (st_list rfl) hR141 rfl rfl rfl (by decide) ok44 (check_calls _ (imm Z w0 [.row (some ⟨g23, 0, none⟩) 3 3 22 1 (encSs ([((aA, ac, a) : Sl), ((bA, bc, b) : Sl), ((tA, tc, t) : Sl)]))] _) (fun _ h => h.1) tA tc t (hS142.get (i := 0) rfl) (hS142.get (i := 3) rfl) (by first | assumption | omega | (simp; done) | (simp; omega)) (by first | assumption | omega | (simp; done) | (simp; omega))) ?_
      rintro e149 w144 ⟨rfl, hf147⟩
      have hS150 := hS142.below hf147.below
      refine ⟨_, rfl, fun a143 hR145 => ?_⟩
      refine r_assign (st_listV rfl) hR145 rfl rfl rfl (by decide) (fun a151 hR152 => ?_)
      refine wpList_nil ?_
      refine x_then_n (hK139 _ _ ?_)
      refine wp_seq_k (fun K153 hK154 => ?_)
      refine c_region ?_
      refine r_move (st_listV rfl) hR152 rfl rfl rfl (by decide) (fun a155 hR156 => ?_)
      refine r_neq (st_listV rfl) hR156 rfl rfl rfl rfl (by decide) (fun a157 hR158 => ?_)
      refine wpList_nil ?_
      refine x_then_n (hK154 _ _ ?_)
      rcases Decidable.em (((chk t)) = 0) with h159 | h159
      · skip
        have hpt := chk_pos h159
        have hR160 := hR158.setb (d := 26) (b := false) rfl (by rw [(decide_eq_true h159)]; rfl)
        refine wp_cond_false (hR160.ev rfl) ?_
        refine wp_skip ?_
        refine x_block_n ?_
        refine x_then_n (hK129 _ _ ?_)
        refine c_region ?_
        refine r_add (z := 3) (st_listV rfl) hR160 rfl rfl rfl rfl (by decide) (by omega) (by omega) (by omega) (fun a161 hR162 => ?_)
        refine r_move (st_listV rfl) hR162 rfl rfl rfl (by decide) (fun a163 hR164 => ?_)
        refine wpList_nil ?_
        refine x_then_n (r_round ?_)
        refine wp_seq_k (fun K165 hK166 => ?_)
        refine c_region ?_
        have h167 : ¬ (3 : Int) < 3 := by decide
        refine r_lss (st_listV rfl) hR164 rfl rfl rfl rfl (by decide) (fun a168 hR169 => ?_)
        refine wpList_nil ?_
        refine x_then_n (hK166 _ _ ?_)
        refine wp_seq_k (fun K170 hK171 => ?_)
        have hR172 := hR169.setb (d := 20) (b := false) rfl (decide_eq_false h167)
        refine wp_cond_false (hR172.ev rfl) ?_
        refine wp_exit ?_
        refine x_then_e ?_
        refine x_then_e ?_
        refine x_block_eq ?_
        refine x_then_n (hK11 _ _ ?_)
        refine wp_seq_k (fun K173 hK174 => ?_)
        refine c_region ?_
        refine r_move (st_listV rfl) hR172 rfl rfl rfl (by decide) (fun a175 hR176 => ?_)
        refine r_move (st_listV rfl) hR176 rfl rfl rfl (by decide) (fun a177 hR178 => ?_)
        refine r_move (st_listV rfl) hR178 rfl rfl rfl (by decide) (fun a179 hR180 => ?_)
        refine r_move (st_listV rfl) hR180 rfl rfl rfl (by decide) (fun a181 hR182 => ?_)
        have hS183 : St w0 Z none_ w144 [.row (some ⟨g23, 0, none⟩) 3 3 22 1 (encSs ([((aA, ac, a) : Sl), ((bA, bc, b) : Sl), ((tA, tc, t) : Sl)]))] [dShapes, dRow 4 aA a.length ac (encNs a), dRow 4 bA b.length bc (encNs b), dRow 4 tA t.length tc (encNs t), dAll [((aA, ac, a) : Sl), ((bA, bc, b) : Sl), ((tA, tc, t) : Sl)]] := hS150
        refine k_call (xs := [.tmp 32]) (st_list rfl) hR182 rfl rfl rfl (by decide) ok58 (croot_calls _ (imm Z w0 [.row (some ⟨g23, 0, none⟩) 3 3 22 1 (encSs ([((aA, ac, a) : Sl), ((bA, bc, b) : Sl), ((tA, tc, t) : Sl)]))] _) (fun _ h => h.1) aA ac a (hS183.get (i := 1) rfl) (by first | assumption | omega | (simp; done) | (simp; omega)) (by first | assumption | omega | (simp; done) | (simp; omega))) ?_
        rintro e190 w185 ⟨rfl, hf188⟩
        have hS191 := hS183.below hf188.below
        refine ⟨_, rfl, fun a184 hR186 => ?_⟩
        refine m_build (ps := [(1, .tmp 29), (2, .tmp 30), (3, .tmp 31), (4, .tmp 33)]) (v := .agg #[.int .i64 0, .slice aA a.length ac, .slice bA b.length bc, .slice tA t.length tc, .int .i64 (((nth a (a.length - 1)).K)), .int .i64 (((nth a (a.length - 1)).N)), .int .i64 (((nth a (a.length - 1)).M)), .string ((nth a (a.length - 1)).S)]) (st_listV rfl) hR186 rfl rfl rfl (fun _ => by kernel_rfl) (by decide) (fun a192 hR193 => ?_)
        refine m_box (cs := [.int .i64 0, .slice aA a.length ac, .slice bA b.length bc, .slice tA t.length tc, .int .i64 (((nth a (a.length - 1)).K)), .int .i64 (((nth a (a.length - 1)).N)), .int .i64 (((nth a (a.length - 1)).M)), .string ((nth a (a.length - 1)).S)]) (st_listV rfl) hR193 hS191 rfl rfl rfl rfl (by decide) (fun a194 w195 g196 hR197 hS198 => ?_)
        refine r_assign (st_listV rfl) hR197 rfl rfl rfl (by decide) (fun a199 hR200 => ?_)
        refine wpList_nil ?_
        refine x_then_n (hK174 _ _ ?_)
        refine wp_seq_k (fun K201 hK202 => ?_)
        refine wp_seq_k (fun K203 hK204 => ?_)
        refine c_region ?_
        have hS205 : St w0 Z none_ w195 [.row (some ⟨g23, 0, none⟩) 3 3 22 1 (encSs ([((aA, ac, a) : Sl), ((bA, bc, b) : Sl), ((tA, tc, t) : Sl)])), .box g196 74 [.int .i64 0, .slice aA a.length ac, .slice bA b.length bc, .slice tA t.length tc, .int .i64 (((nth a (a.length - 1)).K)), .int .i64 (((nth a (a.length - 1)).N)), .int .i64 (((nth a (a.length - 1)).M)), .string ((nth a (a.length - 1)).S)]] [dShapes, dRow 4 aA a.length ac (encNs a), dRow 4 bA b.length bc (encNs b), dRow 4 tA t.length tc (encNs t), dAll [((aA, ac, a) : Sl), ((bA, bc, b) : Sl), ((tA, tc, t) : Sl)]] := hS198
        refine k_call (xs := []) (st_list rfl) hR200 rfl rfl rfl (by decide) ok59 (crules_calls _ (imm Z w0 [.row (some ⟨g23, 0, none⟩) 3 3 22 1 (encSs ([((aA, ac, a) : Sl), ((bA, bc, b) : Sl), ((tA, tc, t) : Sl)])), .box g196 74 [.int .i64 0, .slice aA a.length ac, .slice bA b.length bc, .slice tA t.length tc, .int .i64 (((nth a (a.length - 1)).K)), .int .i64 (((nth a (a.length - 1)).N)), .int .i64 (((nth a (a.length - 1)).M)), .string ((nth a (a.length - 1)).S)]] _) (fun _ h => h.1) ) ?_
        rintro e236 w207 ⟨q211, q213, q215, q217, q219, q221, q223, q225, q227, q229, q231, q233, rfl, hf210, hd212, hd214, hd216, hd218, hd220, hd222, hd224, hd226, hd228, hd230, hd232, hd234⟩
        have hS237 := hS205.below hf210.below
        have hS238 := hS237.data (dBox q211 [.int .i64 10]) (hd212.imp (fun hk => nxt_imm hS205 hk) id)
        have hS239 := hS238.data (dBox q213 [.func (.func 84) #[] #[]]) (hd214.imp (fun hk => nxt_imm hS205 hk) id)
        have hS240 := hS239.data (dBox q215 [.int .i64 2]) (hd216.imp (fun hk => nxt_imm hS205 hk) id)
        have hS241 := hS240.data (dBox q217 [.func (.func 84) #[] #[]]) (hd218.imp (fun hk => nxt_imm hS205 hk) id)
        have hS242 := hS241.data (dBox q219 [.int .i64 25]) (hd220.imp (fun hk => nxt_imm hS205 hk) id)
        have hS243 := hS242.data (dBox q221 [.func (.func 84) #[] #[]]) (hd222.imp (fun hk => nxt_imm hS205 hk) id)
        have hS244 := hS243.data (dBox q223 [.int .i64 3]) (hd224.imp (fun hk => nxt_imm hS205 hk) id)
        have hS245 := hS244.data (dBox q225 [.func (.func 86) #[] #[]]) (hd226.imp (fun hk => nxt_imm hS205 hk) id)
        have hS246 := hS245.data (dBox q227 [.int .i64 6]) (hd228.imp (fun hk => nxt_imm hS205 hk) id)
        have hS247 := hS246.data (dBox q229 [.func (.func 88) #[] #[]]) (hd230.imp (fun hk => nxt_imm hS205 hk) id)
        have hS248 := hS247.data (dBox q231 [.int .i64 22]) (hd232.imp (fun hk => nxt_imm hS205 hk) id)
        have hS249 := hS248.data (dBox q233 [.func (.func 90) #[] #[]]) (hd234.imp (fun hk => nxt_imm hS205 hk) id)
        refine ⟨_, rfl, fun a206 hR208 => ?_⟩
        refine r_move (st_listV rfl) hR208 rfl rfl rfl (by decide) (fun a250 hR251 => ?_)
        refine wpList_nil ?_
        refine x_then_n (hK204 _ _ ?_)
        refine wp_block ?_
        refine wp_loop_rounds 8 (r_round ?_)
        refine wp_seq_k (fun K252 hK253 => ?_)
        refine c_region ?_
        have h254 : (0 : Int) < 7 := by decide
        refine r_lss (st_listV rfl) hR251 rfl rfl rfl rfl (by decide) (fun a255 hR256 => ?_)
        refine wpList_nil ?_
        refine x_then_n (hK253 _ _ ?_)
        refine wp_seq_k (fun K257 hK258 => ?_)
        have hR259 := hR256.setb (d := 38) (b := true) rfl (decide_eq_true h254)
        refine wp_cond_true (hR259.ev rfl) ?_
        refine wp_skip ?_
        refine x_then_n (hK258 _ _ ?_)
        refine wp_seq_k (fun K260 hK261 => ?_)
        refine wp_block ?_
        refine wp_seq_k (fun K262 hK263 => ?_)
        refine c_region ?_
        refine r_indexV (v := .agg #[.func (.func 80) #[] #[], .func (.func 81) #[] #[]]) (st_listV rfl) hR259 rfl rfl rfl rfl (fun _ => by kernel_rfl) (by decide) (fun a264 hR265 => ?_)
        refine m_alloc (cs := [.nilFunc, .nilFunc]) (st_listV rfl) hR265 hS249 rfl rfl ze78 rfl (by decide) (fun a266 w267 g268 hR269 hS270 => ?_)
        refine m_store (i := 2) (cs' := [.func (.func 80) #[] #[], .func (.func 81) #[] #[]]) (st_list rfl) hR269 hS270 rfl rfl rfl rfl rfl sz78 rfl rfl rfl (fun a271 w272 hR273 hS274 => ?_)
        refine wpList_nil ?_
        refine x_then_n (hK263 _ _ ?_)
        refine wp_seq_k (fun K275 hK276 => ?_)
        refine c_region ?_
        refine m_field (j' := 0) (st_listV rfl) hR273 rfl rfl rfl Tryd.underlying78 rfl sz75 rfl rfl (by decide) (fun a277 hR278 => ?_)
        refine m_load (i := 2) (st_listV rfl) hR278 hS274 rfl rfl rfl rfl rfl Tryd.underlying75 rfl (by decide) (fun a279 hR280 => ?_)
        refine r_move (st_listV rfl) hR280 rfl rfl rfl (by decide) (fun a281 hR282 => ?_)
        have hS283 : St w0 Z none_ w272 [.row (some ⟨g23, 0, none⟩) 3 3 22 1 (encSs ([((aA, ac, a) : Sl), ((bA, bc, b) : Sl), ((tA, tc, t) : Sl)])), .box g196 74 [.int .i64 0, .slice aA a.length ac, .slice bA b.length bc, .slice tA t.length tc, .int .i64 (((nth a (a.length - 1)).K)), .int .i64 (((nth a (a.length - 1)).N)), .int .i64 (((nth a (a.length - 1)).M)), .string ((nth a (a.length - 1)).S)], .box g268 78 [.func (.func 80) #[] #[], .func (.func 81) #[] #[]]] [dShapes, dRow 4 aA a.length ac (encNs a), dRow 4 bA b.length bc (encNs b), dRow 4 tA t.length tc (encNs t), dAll [((aA, ac, a) : Sl), ((bA, bc, b) : Sl), ((tA, tc, t) : Sl)], dBox q211 [.int .i64 10], dBox q213 [.func (.func 84) #[] #[]], dBox q215 [.int .i64 2], dBox q217 [.func (.func 84) #[] #[]], dBox q219 [.int .i64 25], dBox q221 [.func (.func 84) #[] #[]], dBox q223 [.int .i64 3], dBox q225 [.func (.func 86) #[] #[]], dBox q227 [.int .i64 6], dBox q229 [.func (.func 88) #[] #[]], dBox q231 [.int .i64 22], dBox q233 [.func (.func 90) #[] #[]]] := hS274
        refine k_callV (xs := [.tmp 42]) (st_list rfl) hR282 rfl rfl rfl rfl (by decide) ok80 (crule1_calls _ (imm Z w0 [.row (some ⟨g23, 0, none⟩) 3 3 22 1 (encSs ([((aA, ac, a) : Sl), ((bA, bc, b) : Sl), ((tA, tc, t) : Sl)])), .box g196 74 [.int .i64 0, .slice aA a.length ac, .slice bA b.length bc, .slice tA t.length tc, .int .i64 (((nth a (a.length - 1)).K)), .int .i64 (((nth a (a.length - 1)).N)), .int .i64 (((nth a (a.length - 1)).M)), .string ((nth a (a.length - 1)).S)], .box g268 78 [.func (.func 80) #[] #[], .func (.func 81) #[] #[]]] _) (fun _ h => h.1) g196 0 aA ac a bA bc b tA tc t (nth a (a.length - 1)) (hS283.res (i := 1) rfl) (imm_box (i := 1) rfl) (hS283.get (i := 1) rfl) (hS283.get (i := 2) rfl) (hS283.get (i := 3) rfl) (by first | assumption | omega | (simp; done) | (simp; omega)) (by first | assumption | omega | (simp; done) | (simp; omega))) ?_
        rintro e290 w285 ⟨rfl, hf288, hb289⟩
        have hS291 := hS283.callM (i := 1) rfl hf288 hb289
        refine ⟨_, rfl, fun a284 hR286 => ?_⟩
        refine wpList_nil ?_
        refine x_then_n (hK276 _ _ ?_)
        rcases Bool.eq_false_or_eq_true (decide ((nth t (t.length - 1)).K = 29)) with h292 | h292
        · skip
          have h293 := of_decide_eq_true h292
          have hR294 := hR286.setb (d := 43) (b := true) rfl h292
          refine wp_cond_true (hR294.ev rfl) ?_
          refine wp_seq_k (fun K295 hK296 => ?_)
          obtain ⟨J297, hJ298, hS299⟩ := hS291.agree
          refine d_region2 (S := (fun x => (∀ k, J297 k → x.heap[k]? = w285.heap[k]?) ∧ (x.cell? ⟨g196, 1, none⟩ = some (.slice aA a.length ac)) ∧ (x.cell? ⟨g196, 2, none⟩ = some (.slice bA b.length bc)) ∧ (x.cell? ⟨g196, 3, none⟩ = some (.slice tA t.length tc)) ∧ (x.cell? ⟨g196, 4, none⟩ = some (.int .i64 (((nth a (a.length - 1)).K)))) ∧ (x.cell? ⟨g196, 5, none⟩ = some (.int .i64 (((nth a (a.length - 1)).N)))) ∧ (x.cell? ⟨g196, 6, none⟩ = some (.int .i64 (((nth a (a.length - 1)).M)))) ∧ (x.cell? ⟨g196, 7, none⟩ = some (.string ((nth a (a.length - 1)).S))) ∧ (x.cell? ⟨g268, 0, none⟩ = some (.func (.func 80) #[] #[])) ∧ (x.cell? ⟨g268, 1, none⟩ = some (.func (.func 81) #[] #[])) ∧ (True))) (n := 12) mixed rfl hS299 (pan_then (pan_block (pan_then (pan_then (pan_block (pan_then pan_body)))))) (fun Q302 hP303 hN304 w300 hS301 => ?_)
          have hSw305 : (∀ k, J297 k → w300.heap[k]? = w285.heap[k]?) ∧ (w300.cell? ⟨g196, 1, none⟩ = some (.slice aA a.length ac)) ∧ (w300.cell? ⟨g196, 2, none⟩ = some (.slice bA b.length bc)) ∧ (w300.cell? ⟨g196, 3, none⟩ = some (.slice tA t.length tc)) ∧ (w300.cell? ⟨g196, 4, none⟩ = some (.int .i64 (((nth a (a.length - 1)).K)))) ∧ (w300.cell? ⟨g196, 5, none⟩ = some (.int .i64 (((nth a (a.length - 1)).N)))) ∧ (w300.cell? ⟨g196, 6, none⟩ = some (.int .i64 (((nth a (a.length - 1)).M)))) ∧ (w300.cell? ⟨g196, 7, none⟩ = some (.string ((nth a (a.length - 1)).S))) ∧ (w300.cell? ⟨g268, 0, none⟩ = some (.func (.func 80) #[] #[])) ∧ (w300.cell? ⟨g268, 1, none⟩ = some (.func (.func 81) #[] #[])) ∧ (True) := ⟨fun k hk => (hS301.get (i := 17) rfl k hk).2, (box_cell (hS301.res (i := 1) rfl) rfl), (box_cell (hS301.res (i := 1) rfl) rfl), (box_cell (hS301.res (i := 1) rfl) rfl), (box_cell (hS301.res (i := 1) rfl) rfl), (box_cell (hS301.res (i := 1) rfl) rfl), (box_cell (hS301.res (i := 1) rfl) rfl), (box_cell (hS301.res (i := 1) rfl) rfl), (box_cell (hS301.res (i := 2) rfl) rfl), (box_cell (hS301.res (i := 2) rfl) rfl), trivial⟩
          refine d_take (i := 0) rfl (by kernel_rfl) (by kernel_rfl) (by kernel_rfl) (fun c a w h => hP303 c _ _ _ _ h) rfl (by decide) hR294 (want_n rfl) (fun x hx => r_move (st_yield hR294 rfl (by decide)) hR294 rfl rfl rfl (by decide) (fun _ h => ⟨h.get _ _ rfl, rfl⟩)) hSw305 (fun a306 hR307 => ?_)
          refine d_take (i := 1) rfl (by kernel_rfl) (by kernel_rfl) (by kernel_rfl) (fun c a w h => hP303 c _ _ _ _ h) rfl (by decide) hR307 (want_n rfl) (fun x hx => r_nilCheck (st_yield hR307 rfl (by decide)) hR307 rfl rfl rfl (by decide) (fun _ h => ⟨h.get _ _ rfl, rfl⟩)) hSw305 (fun a308 hR309 => ?_)
          refine d_take (i := 2) rfl (by kernel_rfl) (by kernel_rfl) (by kernel_rfl) (fun c a w h => hP303 c _ _ _ _ h) rfl (by decide) hR309 (want_n rfl) (fun x hx => m_field (j' := 0) (st_yield hR309 rfl (by decide)) hR309 rfl rfl rfl Tryd.underlying74 rfl sz72 rfl rfl (by decide) (fun _ h => ⟨h.get _ _ rfl, rfl⟩)) hSw305 (fun a310 hR311 => ?_)
          refine d_take (i := 3) rfl (by kernel_rfl) (by kernel_rfl) (by kernel_rfl) (fun c a w h => hP303 c _ _ _ _ h) rfl (by decide) hR311 (want_n rfl) (fun x hx => m_field (j' := 1) (st_yield hR311 rfl (by decide)) hR311 rfl rfl rfl Tryd.underlying78 rfl sz76 rfl rfl (by decide) (fun _ h => ⟨h.get _ _ rfl, rfl⟩)) hSw305 (fun a312 hR313 => ?_)
          refine d_take (i := 4) rfl (by kernel_rfl) (by kernel_rfl) (by kernel_rfl) (fun c a w h => hP303 c _ _ _ _ h) rfl (by decide) hR313 (want_n rfl) (fun x hx => m_loadC (st_yield hR313 rfl (by decide)) hR313 rfl rfl rfl hx.2.2.2.2.2.2.2.2.2.1 Tryd.underlying76 rfl (by decide) (fun _ h => ⟨h.get _ _ rfl, rfl⟩)) hSw305 (fun a314 hR315 => ?_)
          refine d_take (i := 5) rfl (by kernel_rfl) (by kernel_rfl) (by kernel_rfl) (fun c a w h => hP303 c _ _ _ _ h) rfl (by decide) hR315 (want_n rfl) (fun x hx => r_move (st_yield hR315 rfl (by decide)) hR315 rfl rfl rfl (by decide) (fun _ h => ⟨h.get _ _ rfl, rfl⟩)) hSw305 (fun a316 hR317 => ?_)
          refine d_one (i := 6) (by kernel_rfl) ?_
          have hS318 : St w0 Z none_ w300 [.row (some ⟨g23, 0, none⟩) 3 3 22 1 (encSs ([((aA, ac, a) : Sl), ((bA, bc, b) : Sl), ((tA, tc, t) : Sl)])), .box g196 74 [.int .i64 (0), .slice aA a.length ac, .slice bA b.length bc, .slice tA t.length tc, .int .i64 (((nth a (a.length - 1)).K)), .int .i64 (((nth a (a.length - 1)).N)), .int .i64 (((nth a (a.length - 1)).M)), .string ((nth a (a.length - 1)).S)], .box g268 78 [.func (.func 80) #[] #[], .func (.func 81) #[] #[]]] [dShapes, dRow 4 aA a.length ac (encNs a), dRow 4 bA b.length bc (encNs b), dRow 4 tA t.length tc (encNs t), dAll [((aA, ac, a) : Sl), ((bA, bc, b) : Sl), ((tA, tc, t) : Sl)], dBox q211 [.int .i64 10], dBox q213 [.func (.func 84) #[] #[]], dBox q215 [.int .i64 2], dBox q217 [.func (.func 84) #[] #[]], dBox q219 [.int .i64 25], dBox q221 [.func (.func 84) #[] #[]], dBox q223 [.int .i64 3], dBox q225 [.func (.func 86) #[] #[]], dBox q227 [.int .i64 6], dBox q229 [.func (.func 88) #[] #[]], dBox q231 [.int .i64 22], dBox q233 [.func (.func 90) #[] #[]], dAg w285 J297] := hS301
          refine k_callV (xs := [.tmp 49]) (st_op rfl (want_n rfl)) hR317 rfl rfl rfl rfl (by decide) ok81 (cdo1_calls _ (imm Z w0 [.row (some ⟨g23, 0, none⟩) 3 3 22 1 (encSs ([((aA, ac, a) : Sl), ((bA, bc, b) : Sl), ((tA, tc, t) : Sl)])), .box g196 74 [.int .i64 (0), .slice aA a.length ac, .slice bA b.length bc, .slice tA t.length tc, .int .i64 (((nth a (a.length - 1)).K)), .int .i64 (((nth a (a.length - 1)).N)), .int .i64 (((nth a (a.length - 1)).M)), .string ((nth a (a.length - 1)).S)], .box g268 78 [.func (.func 80) #[] #[], .func (.func 81) #[] #[]]] _) (fun _ h => h.1) g196 (0) aA ac a bA bc b tA tc t (nth a (a.length - 1)) (hS318.res (i := 1) rfl) (imm_box (i := 1) rfl) (hS318.get (i := 1) rfl) (hS318.get (i := 2) rfl) (hS318.get (i := 3) rfl)) ?_
          rintro e328 w320 ⟨A324, c325, rfl, hf323, hb327, hd326⟩
          have hS329 := hS318.callM (i := 1) rfl hf323 hb327
          have hS330 := hS329.data (dRow 4 A324 ((if (0) = 0 then [(⟨29, 0, 0, ⟨#[]⟩⟩ : Nd)] else []).length) c325 (encNs (if (0) = 0 then [(⟨29, 0, 0, ⟨#[]⟩⟩ : Nd)] else []))) ⟨hd326.1, hd326.2.mono (fun _ hk => ⟨imm_set (i := 1) rfl (nxt_imm hS318 hk), rfl⟩)⟩
          refine ⟨_, rfl, fun a319 hR321 => ?_⟩
          have hSw331 : (∀ k, J297 k → w320.heap[k]? = w285.heap[k]?) ∧ (w320.cell? ⟨g196, 1, none⟩ = some (.slice aA a.length ac)) ∧ (w320.cell? ⟨g196, 2, none⟩ = some (.slice bA b.length bc)) ∧ (w320.cell? ⟨g196, 3, none⟩ = some (.slice tA t.length tc)) ∧ (w320.cell? ⟨g196, 4, none⟩ = some (.int .i64 (((nth a (a.length - 1)).K)))) ∧ (w320.cell? ⟨g196, 5, none⟩ = some (.int .i64 (((nth a (a.length - 1)).N)))) ∧ (w320.cell? ⟨g196, 6, none⟩ = some (.int .i64 (((nth a (a.length - 1)).M)))) ∧ (w320.cell? ⟨g196, 7, none⟩ = some (.string ((nth a (a.length - 1)).S))) ∧ (w320.cell? ⟨g268, 0, none⟩ = some (.func (.func 80) #[] #[])) ∧ (w320.cell? ⟨g268, 1, none⟩ = some (.func (.func 81) #[] #[])) ∧ (True) := ⟨fun k hk => (hS330.get (i := 17) rfl k hk).2, (box_cell (hS330.res (i := 1) rfl) rfl), (box_cell (hS330.res (i := 1) rfl) rfl), (box_cell (hS330.res (i := 1) rfl) rfl), (box_cell (hS330.res (i := 1) rfl) rfl), (box_cell (hS330.res (i := 1) rfl) rfl), (box_cell (hS330.res (i := 1) rfl) rfl), (box_cell (hS330.res (i := 1) rfl) rfl), (box_cell (hS330.res (i := 2) rfl) rfl), (box_cell (hS330.res (i := 2) rfl) rfl), trivial⟩
          refine ⟨hSw331, ?_⟩
          refine d_one (i := 7) (by kernel_rfl) ?_
          have hS332 : St w0 Z none_ w320 [.row (some ⟨g23, 0, none⟩) 3 3 22 1 (encSs ([((aA, ac, a) : Sl), ((bA, bc, b) : Sl), ((tA, tc, t) : Sl)])), .box g196 74 [.int .i64 ((0)), .slice aA a.length ac, .slice bA b.length bc, .slice tA t.length tc, .int .i64 (((nth a (a.length - 1)).K)), .int .i64 (((nth a (a.length - 1)).N)), .int .i64 (((nth a (a.length - 1)).M)), .string ((nth a (a.length - 1)).S)], .box g268 78 [.func (.func 80) #[] #[], .func (.func 81) #[] #[]]] [dShapes, dRow 4 aA a.length ac (encNs a), dRow 4 bA b.length bc (encNs b), dRow 4 tA t.length tc (encNs t), dAll [((aA, ac, a) : Sl), ((bA, bc, b) : Sl), ((tA, tc, t) : Sl)], dBox q211 [.int .i64 10], dBox q213 [.func (.func 84) #[] #[]], dBox q215 [.int .i64 2], dBox q217 [.func (.func 84) #[] #[]], dBox q219 [.int .i64 25], dBox q221 [.func (.func 84) #[] #[]], dBox q223 [.int .i64 3], dBox q225 [.func (.func 86) #[] #[]], dBox q227 [.int .i64 6], dBox q229 [.func (.func 88) #[] #[]], dBox q231 [.int .i64 22], dBox q233 [.func (.func 90) #[] #[]], dAg w285 J297, dRow 4 A324 ((if (0) = 0 then [(⟨29, 0, 0, ⟨#[]⟩⟩ : Nd)] else []).length) c325 (encNs (if (0) = 0 then [(⟨29, 0, 0, ⟨#[]⟩⟩ : Nd)] else []))] := hS330
          refine k_call (xs := [.tmp 46, .tmp 50]) (st_op rfl (want_n rfl)) hR321 rfl rfl rfl (by decide) ok60 (done_calls _ (imm Z w0 [.row (some ⟨g23, 0, none⟩) 3 3 22 1 (encSs ([((aA, ac, a) : Sl), ((bA, bc, b) : Sl), ((tA, tc, t) : Sl)])), .box g196 74 [.int .i64 ((0)), .slice aA a.length ac, .slice bA b.length bc, .slice tA t.length tc, .int .i64 (((nth a (a.length - 1)).K)), .int .i64 (((nth a (a.length - 1)).N)), .int .i64 (((nth a (a.length - 1)).M)), .string ((nth a (a.length - 1)).S)], .box g268 78 [.func (.func 80) #[] #[], .func (.func 81) #[] #[]]] _) (fun _ h => h.1) g196 74 ((0)) ([.slice aA a.length ac, .slice bA b.length bc, .slice tA t.length tc, .int .i64 (((nth a (a.length - 1)).K)), .int .i64 (((nth a (a.length - 1)).N)), .int .i64 (((nth a (a.length - 1)).M)), .string ((nth a (a.length - 1)).S)]) A324 c325 (if (0) = 0 then [(⟨29, 0, 0, ⟨#[]⟩⟩ : Nd)] else []) (hS332.get (i := 0) rfl) (hS332.res (i := 1) rfl) (imm_box (i := 1) rfl) (hS332.get (i := 18) rfl) (by first | assumption | (rw [if_pos rfl]; exact sml_tick)) (by first | assumption | omega | (simp; done) | (simp; omega))) ?_
          rintro e342 w334 ⟨A338, c339, rfl, hf337, hb341, hd340⟩
          have hS343 := hS332.callM (i := 1) rfl hf337 hb341
          have hS344 := hS343.data (dRow 4 A338 ((if (if ((0)) = 0 then chk (if (0) = 0 then [(⟨29, 0, 0, ⟨#[]⟩⟩ : Nd)] else []) else ((0))) = 0 then (if (0) = 0 then [(⟨29, 0, 0, ⟨#[]⟩⟩ : Nd)] else []) else []).length) c339 (encNs (if (if ((0)) = 0 then chk (if (0) = 0 then [(⟨29, 0, 0, ⟨#[]⟩⟩ : Nd)] else []) else ((0))) = 0 then (if (0) = 0 then [(⟨29, 0, 0, ⟨#[]⟩⟩ : Nd)] else []) else []))) ⟨hd340.1, hd340.2.mono (fun _ hk => ⟨imm_set (i := 1) rfl (nxt_imm hS332 hk), rfl⟩)⟩
          refine ⟨_, rfl, fun a333 hR335 => ?_⟩
          have hSw345 : (∀ k, J297 k → w334.heap[k]? = w285.heap[k]?) ∧ (w334.cell? ⟨g196, 1, none⟩ = some (.slice aA a.length ac)) ∧ (w334.cell? ⟨g196, 2, none⟩ = some (.slice bA b.length bc)) ∧ (w334.cell? ⟨g196, 3, none⟩ = some (.slice tA t.length tc)) ∧ (w334.cell? ⟨g196, 4, none⟩ = some (.int .i64 (((nth a (a.length - 1)).K)))) ∧ (w334.cell? ⟨g196, 5, none⟩ = some (.int .i64 (((nth a (a.length - 1)).N)))) ∧ (w334.cell? ⟨g196, 6, none⟩ = some (.int .i64 (((nth a (a.length - 1)).M)))) ∧ (w334.cell? ⟨g196, 7, none⟩ = some (.string ((nth a (a.length - 1)).S))) ∧ (w334.cell? ⟨g268, 0, none⟩ = some (.func (.func 80) #[] #[])) ∧ (w334.cell? ⟨g268, 1, none⟩ = some (.func (.func 81) #[] #[])) ∧ (True) := ⟨fun k hk => (hS344.get (i := 17) rfl k hk).2, (box_cell (hS344.res (i := 1) rfl) rfl), (box_cell (hS344.res (i := 1) rfl) rfl), (box_cell (hS344.res (i := 1) rfl) rfl), (box_cell (hS344.res (i := 1) rfl) rfl), (box_cell (hS344.res (i := 1) rfl) rfl), (box_cell (hS344.res (i := 1) rfl) rfl), (box_cell (hS344.res (i := 1) rfl) rfl), (box_cell (hS344.res (i := 2) rfl) rfl), (box_cell (hS344.res (i := 2) rfl) rfl), trivial⟩
          refine ⟨hSw345, ?_⟩
          refine d_take (i := 8) rfl (by kernel_rfl) (by kernel_rfl) (by kernel_rfl) (fun c a w h => hP303 c _ _ _ _ h) rfl (by decide) hR335 (want_n rfl) (fun x hx => r_extract (st_yield hR335 rfl (by decide)) hR335 rfl rfl rfl rfl (by decide) (fun _ h => ⟨h.get _ _ rfl, rfl⟩)) hSw345 (fun a346 hR347 => ?_)
          refine d_take (i := 9) rfl (by kernel_rfl) (by kernel_rfl) (by kernel_rfl) (fun c a w h => hP303 c _ _ _ _ h) rfl (by decide) hR347 (want_n rfl) (fun x hx => r_extract (st_yield hR347 rfl (by decide)) hR347 rfl rfl rfl rfl (by decide) (fun _ h => ⟨h.get _ _ rfl, rfl⟩)) hSw345 (fun a348 hR349 => ?_)
          refine d_take (i := 10) rfl (by kernel_rfl) (by kernel_rfl) (by kernel_rfl) (fun c a w h => hP303 c _ _ _ _ h) rfl (by decide) hR349 (want_n rfl) (fun x hx => r_assign (st_yield hR349 rfl (by decide)) hR349 rfl rfl rfl (by decide) (fun _ h => ⟨h.get _ _ rfl, rfl⟩)) hSw345 (fun a350 hR351 => ?_)
          refine d_take (i := 11) rfl (by kernel_rfl) (by kernel_rfl) (by kernel_rfl) (fun c a w h => hP303 c _ _ _ _ h) rfl (by decide) hR351 (want_n rfl) (fun x hx => r_assign (st_yield hR351 rfl (by decide)) hR351 rfl rfl rfl (by decide) (fun _ h => ⟨h.get _ _ rfl, rfl⟩)) hSw345 (fun a352 hR353 => ?_)
          refine wpAnyH_done (by kernel_rfl) (hN304 _ _ ?_) _
          refine x_then_n (hK296 _ _ ?_)
          refine wp_ret ?_
          refine x_block_r ?_
          refine x_then_r ?_
          refine x_then_r ?_
          refine x_block_r ?_
          refine x_then_r ?_
          refine e_ret2 hR353 rfl rfl rfl ?_
          have he354 : (if ¬ (if ¬ chk a = 0 then chk a else if ¬ chk b = 0 then chk b else chk t) = 0 then [] else if (nth t (t.length - 1)).K = 29 then [(⟨29, 0, 0, ⟨#[]⟩⟩ : Nd)] else t) = (if (if ((0)) = 0 then chk (if (0) = 0 then [(⟨29, 0, 0, ⟨#[]⟩⟩ : Nd)] else []) else ((0))) = 0 then (if (0) = 0 then [(⟨29, 0, 0, ⟨#[]⟩⟩ : Nd)] else []) else []) := by simp [h69, h114, h159, h293, chk_tick]
          rw [he354]
          refine ⟨A338, c339, ?_, hS344.fr, ⟨by have := (hS344.row (i := 19) rfl).1; exact this, ((hS344.row (i := 19) rfl).2.mono (fun _ hk => ⟨imm_nxt hk, rfl⟩))⟩⟩
          exact ret_t2 rfl (ret_i (by (simp [h69, h114, h159, h293, chk_tick])))
        · skip
          have h355 := of_decide_eq_false h292
          have hR356 := hR286.setb (d := 43) (b := false) rfl h292
          refine wp_cond_false (hR356.ev rfl) ?_
          refine wp_skip ?_
          refine x_block_n ?_
          refine x_then_n (hK261 _ _ ?_)
          refine c_region ?_
          refine r_add (z := 1) (st_listV rfl) hR356 rfl rfl rfl rfl (by decide) (by omega) (by omega) (by omega) (fun a357 hR358 => ?_)
          refine r_move (st_listV rfl) hR358 rfl rfl rfl (by decide) (fun a359 hR360 => ?_)
          refine wpList_nil ?_
          refine x_then_n (r_round ?_)
          refine wp_seq_k (fun K361 hK362 => ?_)
          refine c_region ?_
          have h363 : (1 : Int) < 7 := by decide
          refine r_lss (st_listV rfl) hR360 rfl rfl rfl rfl (by decide) (fun a364 hR365 => ?_)
          refine wpList_nil ?_
          refine x_then_n (hK362 _ _ ?_)
          refine wp_seq_k (fun K366 hK367 => ?_)
          have hR368 := hR365.setb (d := 38) (b := true) rfl (decide_eq_true h363)
          refine wp_cond_true (hR368.ev rfl) ?_
          refine wp_skip ?_
          refine x_then_n (hK367 _ _ ?_)
          refine wp_seq_k (fun K369 hK370 => ?_)
          refine wp_block ?_
          refine wp_seq_k (fun K371 hK372 => ?_)
          refine c_region ?_
          refine r_indexV (v := .agg #[.func (.func 117) #[] #[.pointer (some ⟨q211, 0, none⟩), .pointer (some ⟨q213, 0, none⟩)], .func (.func 85) #[] #[]]) (st_listV rfl) hR368 rfl rfl rfl rfl (fun _ => by kernel_rfl) (by decide) (fun a373 hR374 => ?_)
          refine m_alloc (cs := [.nilFunc, .nilFunc]) (st_listV rfl) hR374 hS291 rfl rfl ze78 rfl (by decide) (fun a375 w376 g377 hR378 hS379 => ?_)
          refine m_store (i := 3) (cs' := [.func (.func 117) #[] #[.pointer (some ⟨q211, 0, none⟩), .pointer (some ⟨q213, 0, none⟩)], .func (.func 85) #[] #[]]) (st_list rfl) hR378 hS379 rfl rfl rfl rfl rfl sz78 rfl rfl rfl (fun a380 w381 hR382 hS383 => ?_)
          refine wpList_nil ?_
          refine x_then_n (hK372 _ _ ?_)
          refine wp_seq_k (fun K384 hK385 => ?_)
          refine c_region ?_
          refine m_field (j' := 0) (st_listV rfl) hR382 rfl rfl rfl Tryd.underlying78 rfl sz75 rfl rfl (by decide) (fun a386 hR387 => ?_)
          refine m_load (i := 3) (st_listV rfl) hR387 hS383 rfl rfl rfl rfl rfl Tryd.underlying75 rfl (by decide) (fun a388 hR389 => ?_)
          refine r_move (st_listV rfl) hR389 rfl rfl rfl (by decide) (fun a390 hR391 => ?_)
          have hS392 : St w0 Z none_ w381 [.row (some ⟨g23, 0, none⟩) 3 3 22 1 (encSs ([((aA, ac, a) : Sl), ((bA, bc, b) : Sl), ((tA, tc, t) : Sl)])), .box g196 74 [.int .i64 (0), .slice aA a.length ac, .slice bA b.length bc, .slice tA t.length tc, .int .i64 (((nth a (a.length - 1)).K)), .int .i64 (((nth a (a.length - 1)).N)), .int .i64 (((nth a (a.length - 1)).M)), .string ((nth a (a.length - 1)).S)], .box g268 78 [.func (.func 80) #[] #[], .func (.func 81) #[] #[]], .box g377 78 [.func (.func 117) #[] #[.pointer (some ⟨q211, 0, none⟩), .pointer (some ⟨q213, 0, none⟩)], .func (.func 85) #[] #[]]] [dShapes, dRow 4 aA a.length ac (encNs a), dRow 4 bA b.length bc (encNs b), dRow 4 tA t.length tc (encNs t), dAll [((aA, ac, a) : Sl), ((bA, bc, b) : Sl), ((tA, tc, t) : Sl)], dBox q211 [.int .i64 10], dBox q213 [.func (.func 84) #[] #[]], dBox q215 [.int .i64 2], dBox q217 [.func (.func 84) #[] #[]], dBox q219 [.int .i64 25], dBox q221 [.func (.func 84) #[] #[]], dBox q223 [.int .i64 3], dBox q225 [.func (.func 86) #[] #[]], dBox q227 [.int .i64 6], dBox q229 [.func (.func 88) #[] #[]], dBox q231 [.int .i64 22], dBox q233 [.func (.func 90) #[] #[]]] := hS383
          refine k_callV (xs := [.tmp 42]) (st_list rfl) hR391 rfl rfl rfl rfl (by decide) ok117 (ckind84_calls _ (imm Z w0 [.row (some ⟨g23, 0, none⟩) 3 3 22 1 (encSs ([((aA, ac, a) : Sl), ((bA, bc, b) : Sl), ((tA, tc, t) : Sl)])), .box g196 74 [.int .i64 (0), .slice aA a.length ac, .slice bA b.length bc, .slice tA t.length tc, .int .i64 (((nth a (a.length - 1)).K)), .int .i64 (((nth a (a.length - 1)).N)), .int .i64 (((nth a (a.length - 1)).M)), .string ((nth a (a.length - 1)).S)], .box g268 78 [.func (.func 80) #[] #[], .func (.func 81) #[] #[]], .box g377 78 [.func (.func 117) #[] #[.pointer (some ⟨q211, 0, none⟩), .pointer (some ⟨q213, 0, none⟩)], .func (.func 85) #[] #[]]] _) (fun _ h => h.1) g196 (0) aA ac a bA bc b tA tc t (nth a (a.length - 1)) q211 10 q213 (hS392.res (i := 1) rfl) (imm_box (i := 1) rfl) (hS392.get (i := 1) rfl) (hS392.get (i := 2) rfl) (hS392.get (i := 3) rfl) (hS392.get (i := 5) rfl) (hS392.get (i := 6) rfl) (by first | assumption | omega | (simp; done) | (simp; omega)) (by first | assumption | omega | (simp; done) | (simp; omega)) (by first | assumption | omega | (simp; done) | (simp; omega)) (by first | assumption | omega | (simp; done) | (simp; omega)) (by first | assumption | omega | (simp; done) | (simp; omega)) (by first | assumption | omega | (simp; done) | (simp; omega))) ?_
          rintro e399 w394 ⟨rfl, hf397, hb398⟩
          have hS400 := hS392.callM (i := 1) rfl hf397 hb398
          refine ⟨_, rfl, fun a393 hR395 => ?_⟩
          refine wpList_nil ?_
          refine x_then_n (hK385 _ _ ?_)
          rcases Bool.eq_false_or_eq_true ((decide ((nth a (a.length - 1)).K = 10) && decide (nth b (b.length - 1) = (nth a (a.length - 1)))) && true) with h401 | h401
          · skip
            have h402 := and_tl h401
            have h403 := and_tl h402
            have h404 := of_decide_eq_true h403
            have h405 := and_tr h402
            have h406 := of_decide_eq_true h405
            have h407 := and_tr h401
            have hR408 := hR395.setb (d := 43) (b := true) rfl h401
            refine wp_cond_true (hR408.ev rfl) ?_
            refine wp_seq_k (fun K409 hK410 => ?_)
            obtain ⟨J411, hJ412, hS413⟩ := hS400.agree
            refine d_region2 (S := (fun x => (∀ k, J411 k → x.heap[k]? = w394.heap[k]?) ∧ (x.cell? ⟨g196, 1, none⟩ = some (.slice aA a.length ac)) ∧ (x.cell? ⟨g196, 2, none⟩ = some (.slice bA b.length bc)) ∧ (x.cell? ⟨g196, 3, none⟩ = some (.slice tA t.length tc)) ∧ (x.cell? ⟨g196, 4, none⟩ = some (.int .i64 (((nth a (a.length - 1)).K)))) ∧ (x.cell? ⟨g196, 5, none⟩ = some (.int .i64 (((nth a (a.length - 1)).N)))) ∧ (x.cell? ⟨g196, 6, none⟩ = some (.int .i64 (((nth a (a.length - 1)).M)))) ∧ (x.cell? ⟨g196, 7, none⟩ = some (.string ((nth a (a.length - 1)).S))) ∧ (x.cell? ⟨g377, 0, none⟩ = some (.func (.func 117) #[] #[.pointer (some ⟨q211, 0, none⟩), .pointer (some ⟨q213, 0, none⟩)])) ∧ (x.cell? ⟨g377, 1, none⟩ = some (.func (.func 85) #[] #[])) ∧ (True))) (n := 12) mixed rfl hS413 (pan_then (pan_block (pan_then (pan_then (pan_block (pan_then pan_body)))))) (fun Q416 hP417 hN418 w414 hS415 => ?_)
            have hSw419 : (∀ k, J411 k → w414.heap[k]? = w394.heap[k]?) ∧ (w414.cell? ⟨g196, 1, none⟩ = some (.slice aA a.length ac)) ∧ (w414.cell? ⟨g196, 2, none⟩ = some (.slice bA b.length bc)) ∧ (w414.cell? ⟨g196, 3, none⟩ = some (.slice tA t.length tc)) ∧ (w414.cell? ⟨g196, 4, none⟩ = some (.int .i64 (((nth a (a.length - 1)).K)))) ∧ (w414.cell? ⟨g196, 5, none⟩ = some (.int .i64 (((nth a (a.length - 1)).N)))) ∧ (w414.cell? ⟨g196, 6, none⟩ = some (.int .i64 (((nth a (a.length - 1)).M)))) ∧ (w414.cell? ⟨g196, 7, none⟩ = some (.string ((nth a (a.length - 1)).S))) ∧ (w414.cell? ⟨g377, 0, none⟩ = some (.func (.func 117) #[] #[.pointer (some ⟨q211, 0, none⟩), .pointer (some ⟨q213, 0, none⟩)])) ∧ (w414.cell? ⟨g377, 1, none⟩ = some (.func (.func 85) #[] #[])) ∧ (True) := ⟨fun k hk => (hS415.get (i := 17) rfl k hk).2, (box_cell (hS415.res (i := 1) rfl) rfl), (box_cell (hS415.res (i := 1) rfl) rfl), (box_cell (hS415.res (i := 1) rfl) rfl), (box_cell (hS415.res (i := 1) rfl) rfl), (box_cell (hS415.res (i := 1) rfl) rfl), (box_cell (hS415.res (i := 1) rfl) rfl), (box_cell (hS415.res (i := 1) rfl) rfl), (box_cell (hS415.res (i := 3) rfl) rfl), (box_cell (hS415.res (i := 3) rfl) rfl), trivial⟩
            refine d_take (i := 0) rfl (by kernel_rfl) (by kernel_rfl) (by kernel_rfl) (fun c a w h => hP417 c _ _ _ _ h) rfl (by decide) hR408 (want_n rfl) (fun x hx => r_move (st_yield hR408 rfl (by decide)) hR408 rfl rfl rfl (by decide) (fun _ h => ⟨h.get _ _ rfl, rfl⟩)) hSw419 (fun a420 hR421 => ?_)
            refine d_take (i := 1) rfl (by kernel_rfl) (by kernel_rfl) (by kernel_rfl) (fun c a w h => hP417 c _ _ _ _ h) rfl (by decide) hR421 (want_n rfl) (fun x hx => r_nilCheck (st_yield hR421 rfl (by decide)) hR421 rfl rfl rfl (by decide) (fun _ h => ⟨h.get _ _ rfl, rfl⟩)) hSw419 (fun a422 hR423 => ?_)
            refine d_take (i := 2) rfl (by kernel_rfl) (by kernel_rfl) (by kernel_rfl) (fun c a w h => hP417 c _ _ _ _ h) rfl (by decide) hR423 (want_n rfl) (fun x hx => m_field (j' := 0) (st_yield hR423 rfl (by decide)) hR423 rfl rfl rfl Tryd.underlying74 rfl sz72 rfl rfl (by decide) (fun _ h => ⟨h.get _ _ rfl, rfl⟩)) hSw419 (fun a424 hR425 => ?_)
            refine d_take (i := 3) rfl (by kernel_rfl) (by kernel_rfl) (by kernel_rfl) (fun c a w h => hP417 c _ _ _ _ h) rfl (by decide) hR425 (want_n rfl) (fun x hx => m_field (j' := 1) (st_yield hR425 rfl (by decide)) hR425 rfl rfl rfl Tryd.underlying78 rfl sz76 rfl rfl (by decide) (fun _ h => ⟨h.get _ _ rfl, rfl⟩)) hSw419 (fun a426 hR427 => ?_)
            refine d_take (i := 4) rfl (by kernel_rfl) (by kernel_rfl) (by kernel_rfl) (fun c a w h => hP417 c _ _ _ _ h) rfl (by decide) hR427 (want_n rfl) (fun x hx => m_loadC (st_yield hR427 rfl (by decide)) hR427 rfl rfl rfl hx.2.2.2.2.2.2.2.2.2.1 Tryd.underlying76 rfl (by decide) (fun _ h => ⟨h.get _ _ rfl, rfl⟩)) hSw419 (fun a428 hR429 => ?_)
            refine d_take (i := 5) rfl (by kernel_rfl) (by kernel_rfl) (by kernel_rfl) (fun c a w h => hP417 c _ _ _ _ h) rfl (by decide) hR429 (want_n rfl) (fun x hx => r_move (st_yield hR429 rfl (by decide)) hR429 rfl rfl rfl (by decide) (fun _ h => ⟨h.get _ _ rfl, rfl⟩)) hSw419 (fun a430 hR431 => ?_)
            refine d_one (i := 6) (by kernel_rfl) ?_
            have hS432 : St w0 Z none_ w414 [.row (some ⟨g23, 0, none⟩) 3 3 22 1 (encSs ([((aA, ac, a) : Sl), ((bA, bc, b) : Sl), ((tA, tc, t) : Sl)])), .box g196 74 [.int .i64 ((0)), .slice aA a.length ac, .slice bA b.length bc, .slice tA t.length tc, .int .i64 (((nth a (a.length - 1)).K)), .int .i64 (((nth a (a.length - 1)).N)), .int .i64 (((nth a (a.length - 1)).M)), .string ((nth a (a.length - 1)).S)], .box g268 78 [.func (.func 80) #[] #[], .func (.func 81) #[] #[]], .box g377 78 [.func (.func 117) #[] #[.pointer (some ⟨q211, 0, none⟩), .pointer (some ⟨q213, 0, none⟩)], .func (.func 85) #[] #[]]] [dShapes, dRow 4 aA a.length ac (encNs a), dRow 4 bA b.length bc (encNs b), dRow 4 tA t.length tc (encNs t), dAll [((aA, ac, a) : Sl), ((bA, bc, b) : Sl), ((tA, tc, t) : Sl)], dBox q211 [.int .i64 10], dBox q213 [.func (.func 84) #[] #[]], dBox q215 [.int .i64 2], dBox q217 [.func (.func 84) #[] #[]], dBox q219 [.int .i64 25], dBox q221 [.func (.func 84) #[] #[]], dBox q223 [.int .i64 3], dBox q225 [.func (.func 86) #[] #[]], dBox q227 [.int .i64 6], dBox q229 [.func (.func 88) #[] #[]], dBox q231 [.int .i64 22], dBox q233 [.func (.func 90) #[] #[]], dAg w394 J411] := hS415
            refine k_callV (xs := [.tmp 49]) (st_op rfl (want_n rfl)) hR431 rfl rfl rfl rfl (by decide) ok85 (citself_calls _ (imm Z w0 [.row (some ⟨g23, 0, none⟩) 3 3 22 1 (encSs ([((aA, ac, a) : Sl), ((bA, bc, b) : Sl), ((tA, tc, t) : Sl)])), .box g196 74 [.int .i64 ((0)), .slice aA a.length ac, .slice bA b.length bc, .slice tA t.length tc, .int .i64 (((nth a (a.length - 1)).K)), .int .i64 (((nth a (a.length - 1)).N)), .int .i64 (((nth a (a.length - 1)).M)), .string ((nth a (a.length - 1)).S)], .box g268 78 [.func (.func 80) #[] #[], .func (.func 81) #[] #[]], .box g377 78 [.func (.func 117) #[] #[.pointer (some ⟨q211, 0, none⟩), .pointer (some ⟨q213, 0, none⟩)], .func (.func 85) #[] #[]]] _) (fun _ h => h.1) g196 ((0)) aA ac a bA bc b tA tc t (nth a (a.length - 1)) (hS432.res (i := 1) rfl) (imm_box (i := 1) rfl) (hS432.get (i := 1) rfl) (hS432.get (i := 2) rfl) (hS432.get (i := 3) rfl)) ?_
            rintro e442 w434 ⟨A438, c439, rfl, hf437, hb441, hd440⟩
            have hS443 := hS432.callM (i := 1) rfl hf437 hb441
            have hS444 := hS443.data (dRow 4 A438 t.length c439 (encNs t)) ⟨hd440.1, hd440.2.mono (fun _ hk => ⟨imm_set (i := 1) rfl (nxt_imm hS432 hk), rfl⟩)⟩
            refine ⟨_, rfl, fun a433 hR435 => ?_⟩
            have hSw445 : (∀ k, J411 k → w434.heap[k]? = w394.heap[k]?) ∧ (w434.cell? ⟨g196, 1, none⟩ = some (.slice aA a.length ac)) ∧ (w434.cell? ⟨g196, 2, none⟩ = some (.slice bA b.length bc)) ∧ (w434.cell? ⟨g196, 3, none⟩ = some (.slice tA t.length tc)) ∧ (w434.cell? ⟨g196, 4, none⟩ = some (.int .i64 (((nth a (a.length - 1)).K)))) ∧ (w434.cell? ⟨g196, 5, none⟩ = some (.int .i64 (((nth a (a.length - 1)).N)))) ∧ (w434.cell? ⟨g196, 6, none⟩ = some (.int .i64 (((nth a (a.length - 1)).M)))) ∧ (w434.cell? ⟨g196, 7, none⟩ = some (.string ((nth a (a.length - 1)).S))) ∧ (w434.cell? ⟨g377, 0, none⟩ = some (.func (.func 117) #[] #[.pointer (some ⟨q211, 0, none⟩), .pointer (some ⟨q213, 0, none⟩)])) ∧ (w434.cell? ⟨g377, 1, none⟩ = some (.func (.func 85) #[] #[])) ∧ (True) := ⟨fun k hk => (hS444.get (i := 17) rfl k hk).2, (box_cell (hS444.res (i := 1) rfl) rfl), (box_cell (hS444.res (i := 1) rfl) rfl), (box_cell (hS444.res (i := 1) rfl) rfl), (box_cell (hS444.res (i := 1) rfl) rfl), (box_cell (hS444.res (i := 1) rfl) rfl), (box_cell (hS444.res (i := 1) rfl) rfl), (box_cell (hS444.res (i := 1) rfl) rfl), (box_cell (hS444.res (i := 3) rfl) rfl), (box_cell (hS444.res (i := 3) rfl) rfl), trivial⟩
            refine ⟨hSw445, ?_⟩
            refine d_one (i := 7) (by kernel_rfl) ?_
            have hS446 : St w0 Z none_ w434 [.row (some ⟨g23, 0, none⟩) 3 3 22 1 (encSs ([((aA, ac, a) : Sl), ((bA, bc, b) : Sl), ((tA, tc, t) : Sl)])), .box g196 74 [.int .i64 (((0))), .slice aA a.length ac, .slice bA b.length bc, .slice tA t.length tc, .int .i64 (((nth a (a.length - 1)).K)), .int .i64 (((nth a (a.length - 1)).N)), .int .i64 (((nth a (a.length - 1)).M)), .string ((nth a (a.length - 1)).S)], .box g268 78 [.func (.func 80) #[] #[], .func (.func 81) #[] #[]], .box g377 78 [.func (.func 117) #[] #[.pointer (some ⟨q211, 0, none⟩), .pointer (some ⟨q213, 0, none⟩)], .func (.func 85) #[] #[]]] [dShapes, dRow 4 aA a.length ac (encNs a), dRow 4 bA b.length bc (encNs b), dRow 4 tA t.length tc (encNs t), dAll [((aA, ac, a) : Sl), ((bA, bc, b) : Sl), ((tA, tc, t) : Sl)], dBox q211 [.int .i64 10], dBox q213 [.func (.func 84) #[] #[]], dBox q215 [.int .i64 2], dBox q217 [.func (.func 84) #[] #[]], dBox q219 [.int .i64 25], dBox q221 [.func (.func 84) #[] #[]], dBox q223 [.int .i64 3], dBox q225 [.func (.func 86) #[] #[]], dBox q227 [.int .i64 6], dBox q229 [.func (.func 88) #[] #[]], dBox q231 [.int .i64 22], dBox q233 [.func (.func 90) #[] #[]], dAg w394 J411, dRow 4 A438 t.length c439 (encNs t)] := hS444
            refine k_call (xs := [.tmp 46, .tmp 50]) (st_op rfl (want_n rfl)) hR435 rfl rfl rfl (by decide) ok60 (done_calls _ (imm Z w0 [.row (some ⟨g23, 0, none⟩) 3 3 22 1 (encSs ([((aA, ac, a) : Sl), ((bA, bc, b) : Sl), ((tA, tc, t) : Sl)])), .box g196 74 [.int .i64 (((0))), .slice aA a.length ac, .slice bA b.length bc, .slice tA t.length tc, .int .i64 (((nth a (a.length - 1)).K)), .int .i64 (((nth a (a.length - 1)).N)), .int .i64 (((nth a (a.length - 1)).M)), .string ((nth a (a.length - 1)).S)], .box g268 78 [.func (.func 80) #[] #[], .func (.func 81) #[] #[]], .box g377 78 [.func (.func 117) #[] #[.pointer (some ⟨q211, 0, none⟩), .pointer (some ⟨q213, 0, none⟩)], .func (.func 85) #[] #[]]] _) (fun _ h => h.1) g196 74 (((0))) ([.slice aA a.length ac, .slice bA b.length bc, .slice tA t.length tc, .int .i64 (((nth a (a.length - 1)).K)), .int .i64 (((nth a (a.length - 1)).N)), .int .i64 (((nth a (a.length - 1)).M)), .string ((nth a (a.length - 1)).S)]) A438 c439 t (hS446.get (i := 0) rfl) (hS446.res (i := 1) rfl) (imm_box (i := 1) rfl) (hS446.get (i := 18) rfl) (by first | assumption | (rw [if_pos rfl]; exact sml_tick)) (by first | assumption | omega | (simp; done) | (simp; omega))) ?_
            rintro e456 w448 ⟨A452, c453, rfl, hf451, hb455, hd454⟩
            have hS457 := hS446.callM (i := 1) rfl hf451 hb455
            have hS458 := hS457.data (dRow 4 A452 ((if (if (((0))) = 0 then chk t else (((0)))) = 0 then t else []).length) c453 (encNs (if (if (((0))) = 0 then chk t else (((0)))) = 0 then t else []))) ⟨hd454.1, hd454.2.mono (fun _ hk => ⟨imm_set (i := 1) rfl (nxt_imm hS446 hk), rfl⟩)⟩
            refine ⟨_, rfl, fun a447 hR449 => ?_⟩
            have hSw459 : (∀ k, J411 k → w448.heap[k]? = w394.heap[k]?) ∧ (w448.cell? ⟨g196, 1, none⟩ = some (.slice aA a.length ac)) ∧ (w448.cell? ⟨g196, 2, none⟩ = some (.slice bA b.length bc)) ∧ (w448.cell? ⟨g196, 3, none⟩ = some (.slice tA t.length tc)) ∧ (w448.cell? ⟨g196, 4, none⟩ = some (.int .i64 (((nth a (a.length - 1)).K)))) ∧ (w448.cell? ⟨g196, 5, none⟩ = some (.int .i64 (((nth a (a.length - 1)).N)))) ∧ (w448.cell? ⟨g196, 6, none⟩ = some (.int .i64 (((nth a (a.length - 1)).M)))) ∧ (w448.cell? ⟨g196, 7, none⟩ = some (.string ((nth a (a.length - 1)).S))) ∧ (w448.cell? ⟨g377, 0, none⟩ = some (.func (.func 117) #[] #[.pointer (some ⟨q211, 0, none⟩), .pointer (some ⟨q213, 0, none⟩)])) ∧ (w448.cell? ⟨g377, 1, none⟩ = some (.func (.func 85) #[] #[])) ∧ (True) := ⟨fun k hk => (hS458.get (i := 17) rfl k hk).2, (box_cell (hS458.res (i := 1) rfl) rfl), (box_cell (hS458.res (i := 1) rfl) rfl), (box_cell (hS458.res (i := 1) rfl) rfl), (box_cell (hS458.res (i := 1) rfl) rfl), (box_cell (hS458.res (i := 1) rfl) rfl), (box_cell (hS458.res (i := 1) rfl) rfl), (box_cell (hS458.res (i := 1) rfl) rfl), (box_cell (hS458.res (i := 3) rfl) rfl), (box_cell (hS458.res (i := 3) rfl) rfl), trivial⟩
            refine ⟨hSw459, ?_⟩
            refine d_take (i := 8) rfl (by kernel_rfl) (by kernel_rfl) (by kernel_rfl) (fun c a w h => hP417 c _ _ _ _ h) rfl (by decide) hR449 (want_n rfl) (fun x hx => r_extract (st_yield hR449 rfl (by decide)) hR449 rfl rfl rfl rfl (by decide) (fun _ h => ⟨h.get _ _ rfl, rfl⟩)) hSw459 (fun a460 hR461 => ?_)
            refine d_take (i := 9) rfl (by kernel_rfl) (by kernel_rfl) (by kernel_rfl) (fun c a w h => hP417 c _ _ _ _ h) rfl (by decide) hR461 (want_n rfl) (fun x hx => r_extract (st_yield hR461 rfl (by decide)) hR461 rfl rfl rfl rfl (by decide) (fun _ h => ⟨h.get _ _ rfl, rfl⟩)) hSw459 (fun a462 hR463 => ?_)
            refine d_take (i := 10) rfl (by kernel_rfl) (by kernel_rfl) (by kernel_rfl) (fun c a w h => hP417 c _ _ _ _ h) rfl (by decide) hR463 (want_n rfl) (fun x hx => r_assign (st_yield hR463 rfl (by decide)) hR463 rfl rfl rfl (by decide) (fun _ h => ⟨h.get _ _ rfl, rfl⟩)) hSw459 (fun a464 hR465 => ?_)
            refine d_take (i := 11) rfl (by kernel_rfl) (by kernel_rfl) (by kernel_rfl) (fun c a w h => hP417 c _ _ _ _ h) rfl (by decide) hR465 (want_n rfl) (fun x hx => r_assign (st_yield hR465 rfl (by decide)) hR465 rfl rfl rfl (by decide) (fun _ h => ⟨h.get _ _ rfl, rfl⟩)) hSw459 (fun a466 hR467 => ?_)
            refine wpAnyH_done (by kernel_rfl) (hN418 _ _ ?_) _
            refine x_then_n (hK410 _ _ ?_)
            refine wp_ret ?_
            refine x_block_r ?_
            refine x_then_r ?_
            refine x_then_r ?_
            refine x_block_r ?_
            refine x_then_r ?_
            refine e_ret2 hR467 rfl rfl rfl ?_
            have he468 : (if ¬ (if ¬ chk a = 0 then chk a else if ¬ chk b = 0 then chk b else chk t) = 0 then [] else if (nth t (t.length - 1)).K = 29 then [(⟨29, 0, 0, ⟨#[]⟩⟩ : Nd)] else t) = (if (if (((0))) = 0 then chk t else (((0)))) = 0 then t else []) := by simp [h69, h114, h159, h355, chk_tick]
            rw [he468]
            refine ⟨A452, c453, ?_, hS458.fr, ⟨by have := (hS458.row (i := 19) rfl).1; exact this, ((hS458.row (i := 19) rfl).2.mono (fun _ hk => ⟨imm_nxt hk, rfl⟩))⟩⟩
            exact ret_t2 rfl (ret_i (by (simp [h69, h114, h159, h355, chk_tick])))
          · skip
            have hq469 := h401
            try simp only [Bool.or_eq_true, Bool.and_eq_true, Bool.not_eq_true', Bool.not_eq_false', decide_eq_true_eq, decide_eq_false_iff_not, Bool.or_eq_false_iff, Bool.and_eq_false_iff] at hq469
            have hR470 := hR395.setb (d := 43) (b := false) rfl h401
            refine wp_cond_false (hR470.ev rfl) ?_
            refine wp_skip ?_
            refine x_block_n ?_
            refine x_then_n (hK370 _ _ ?_)
            refine c_region ?_
            refine r_add (z := 2) (st_listV rfl) hR470 rfl rfl rfl rfl (by decide) (by omega) (by omega) (by omega) (fun a471 hR472 => ?_)
            refine r_move (st_listV rfl) hR472 rfl rfl rfl (by decide) (fun a473 hR474 => ?_)
            refine wpList_nil ?_
            refine x_then_n (r_round ?_)
            refine wp_seq_k (fun K475 hK476 => ?_)
            refine c_region ?_
            have h477 : (2 : Int) < 7 := by decide
            refine r_lss (st_listV rfl) hR474 rfl rfl rfl rfl (by decide) (fun a478 hR479 => ?_)
            refine wpList_nil ?_
            refine x_then_n (hK476 _ _ ?_)
            refine wp_seq_k (fun K480 hK481 => ?_)
            have hR482 := hR479.setb (d := 38) (b := true) rfl (decide_eq_true h477)
            refine wp_cond_true (hR482.ev rfl) ?_
            refine wp_skip ?_
            refine x_then_n (hK481 _ _ ?_)
            refine wp_seq_k (fun K483 hK484 => ?_)
            refine wp_block ?_
            refine wp_seq_k (fun K485 hK486 => ?_)
            refine c_region ?_
            refine r_indexV (v := .agg #[.func (.func 117) #[] #[.pointer (some ⟨q215, 0, none⟩), .pointer (some ⟨q217, 0, none⟩)], .func (.func 85) #[] #[]]) (st_listV rfl) hR482 rfl rfl rfl rfl (fun _ => by kernel_rfl) (by decide) (fun a487 hR488 => ?_)
            refine m_alloc (cs := [.nilFunc, .nilFunc]) (st_listV rfl) hR488 hS400 rfl rfl ze78 rfl (by decide) (fun a489 w490 g491 hR492 hS493 => ?_)
            refine m_store (i := 4) (cs' := [.func (.func 117) #[] #[.pointer (some ⟨q215, 0, none⟩), .pointer (some ⟨q217, 0, none⟩)], .func (.func 85) #[] #[]]) (st_list rfl) hR492 hS493 rfl rfl rfl rfl rfl sz78 rfl rfl rfl (fun a494 w495 hR496 hS497 => ?_)
            refine wpList_nil ?_
            refine x_then_n (hK486 _ _ ?_)
            refine wp_seq_k (fun K498 hK499 => ?_)
            refine c_region ?_
            refine m_field (j' := 0) (st_listV rfl) hR496 rfl rfl rfl Tryd.underlying78 rfl sz75 rfl rfl (by decide) (fun a500 hR501 => ?_)
            refine m_load (i := 4) (st_listV rfl) hR501 hS497 rfl rfl rfl rfl rfl Tryd.underlying75 rfl (by decide) (fun a502 hR503 => ?_)
            refine r_move (st_listV rfl) hR503 rfl rfl rfl (by decide) (fun a504 hR505 => ?_)
            have hS506 : St w0 Z none_ w495 [.row (some ⟨g23, 0, none⟩) 3 3 22 1 (encSs ([((aA, ac, a) : Sl), ((bA, bc, b) : Sl), ((tA, tc, t) : Sl)])), .box g196 74 [.int .i64 ((0)), .slice aA a.length ac, .slice bA b.length bc, .slice tA t.length tc, .int .i64 (((nth a (a.length - 1)).K)), .int .i64 (((nth a (a.length - 1)).N)), .int .i64 (((nth a (a.length - 1)).M)), .string ((nth a (a.length - 1)).S)], .box g268 78 [.func (.func 80) #[] #[], .func (.func 81) #[] #[]], .box g377 78 [.func (.func 117) #[] #[.pointer (some ⟨q211, 0, none⟩), .pointer (some ⟨q213, 0, none⟩)], .func (.func 85) #[] #[]], .box g491 78 [.func (.func 117) #[] #[.pointer (some ⟨q215, 0, none⟩), .pointer (some ⟨q217, 0, none⟩)], .func (.func 85) #[] #[]]] [dShapes, dRow 4 aA a.length ac (encNs a), dRow 4 bA b.length bc (encNs b), dRow 4 tA t.length tc (encNs t), dAll [((aA, ac, a) : Sl), ((bA, bc, b) : Sl), ((tA, tc, t) : Sl)], dBox q211 [.int .i64 10], dBox q213 [.func (.func 84) #[] #[]], dBox q215 [.int .i64 2], dBox q217 [.func (.func 84) #[] #[]], dBox q219 [.int .i64 25], dBox q221 [.func (.func 84) #[] #[]], dBox q223 [.int .i64 3], dBox q225 [.func (.func 86) #[] #[]], dBox q227 [.int .i64 6], dBox q229 [.func (.func 88) #[] #[]], dBox q231 [.int .i64 22], dBox q233 [.func (.func 90) #[] #[]]] := hS497
            refine k_callV (xs := [.tmp 42]) (st_list rfl) hR505 rfl rfl rfl rfl (by decide) ok117 (ckind84_calls _ (imm Z w0 [.row (some ⟨g23, 0, none⟩) 3 3 22 1 (encSs ([((aA, ac, a) : Sl), ((bA, bc, b) : Sl), ((tA, tc, t) : Sl)])), .box g196 74 [.int .i64 ((0)), .slice aA a.length ac, .slice bA b.length bc, .slice tA t.length tc, .int .i64 (((nth a (a.length - 1)).K)), .int .i64 (((nth a (a.length - 1)).N)), .int .i64 (((nth a (a.length - 1)).M)), .string ((nth a (a.length - 1)).S)], .box g268 78 [.func (.func 80) #[] #[], .func (.func 81) #[] #[]], .box g377 78 [.func (.func 117) #[] #[.pointer (some ⟨q211, 0, none⟩), .pointer (some ⟨q213, 0, none⟩)], .func (.func 85) #[] #[]], .box g491 78 [.func (.func 117) #[] #[.pointer (some ⟨q215, 0, none⟩), .pointer (some ⟨q217, 0, none⟩)], .func (.func 85) #[] #[]]] _) (fun _ h => h.1) g196 ((0)) aA ac a bA bc b tA tc t (nth a (a.length - 1)) q215 2 q217 (hS506.res (i := 1) rfl) (imm_box (i := 1) rfl) (hS506.get (i := 1) rfl) (hS506.get (i := 2) rfl) (hS506.get (i := 3) rfl) (hS506.get (i := 7) rfl) (hS506.get (i := 8) rfl) (by first | assumption | omega | (simp; done) | (simp; omega)) (by first | assumption | omega | (simp; done) | (simp; omega)) (by first | assumption | omega | (simp; done) | (simp; omega)) (by first | assumption | omega | (simp; done) | (simp; omega)) (by first | assumption | omega | (simp; done) | (simp; omega)) (by first | assumption | omega | (simp; done) | (simp; omega))) ?_
            rintro e513 w508 ⟨rfl, hf511, hb512⟩
            have hS514 := hS506.callM (i := 1) rfl hf511 hb512
            refine ⟨_, rfl, fun a507 hR509 => ?_⟩
            refine wpList_nil ?_
            refine x_then_n (hK499 _ _ ?_)
            rcases Bool.eq_false_or_eq_true ((decide ((nth a (a.length - 1)).K = 2) && decide (nth b (b.length - 1) = (nth a (a.length - 1)))) && true) with h515 | h515
            · skip
              have h516 := and_tl h515
              have h517 := and_tl h516
              have h518 := of_decide_eq_true h517
              have h519 := and_tr h516
              have h520 := of_decide_eq_true h519
              have h521 := and_tr h515
              have hR522 := hR509.setb (d := 43) (b := true) rfl h515
              refine wp_cond_true (hR522.ev rfl) ?_
              refine wp_seq_k (fun K523 hK524 => ?_)
              obtain ⟨J525, hJ526, hS527⟩ := hS514.agree
              refine d_region2 (S := (fun x => (∀ k, J525 k → x.heap[k]? = w508.heap[k]?) ∧ (x.cell? ⟨g196, 1, none⟩ = some (.slice aA a.length ac)) ∧ (x.cell? ⟨g196, 2, none⟩ = some (.slice bA b.length bc)) ∧ (x.cell? ⟨g196, 3, none⟩ = some (.slice tA t.length tc)) ∧ (x.cell? ⟨g196, 4, none⟩ = some (.int .i64 (((nth a (a.length - 1)).K)))) ∧ (x.cell? ⟨g196, 5, none⟩ = some (.int .i64 (((nth a (a.length - 1)).N)))) ∧ (x.cell? ⟨g196, 6, none⟩ = some (.int .i64 (((nth a (a.length - 1)).M)))) ∧ (x.cell? ⟨g196, 7, none⟩ = some (.string ((nth a (a.length - 1)).S))) ∧ (x.cell? ⟨g491, 0, none⟩ = some (.func (.func 117) #[] #[.pointer (some ⟨q215, 0, none⟩), .pointer (some ⟨q217, 0, none⟩)])) ∧ (x.cell? ⟨g491, 1, none⟩ = some (.func (.func 85) #[] #[])) ∧ (True))) (n := 12) mixed rfl hS527 (pan_then (pan_block (pan_then (pan_then (pan_block (pan_then pan_body)))))) (fun Q530 hP531 hN532 w528 hS529 => ?_)
              have hSw533 : (∀ k, J525 k → w528.heap[k]? = w508.heap[k]?) ∧ (w528.cell? ⟨g196, 1, none⟩ = some (.slice aA a.length ac)) ∧ (w528.cell? ⟨g196, 2, none⟩ = some (.slice bA b.length bc)) ∧ (w528.cell? ⟨g196, 3, none⟩ = some (.slice tA t.length tc)) ∧ (w528.cell? ⟨g196, 4, none⟩ = some (.int .i64 (((nth a (a.length - 1)).K)))) ∧ (w528.cell? ⟨g196, 5, none⟩ = some (.int .i64 (((nth a (a.length - 1)).N)))) ∧ (w528.cell? ⟨g196, 6, none⟩ = some (.int .i64 (((nth a (a.length - 1)).M)))) ∧ (w528.cell? ⟨g196, 7, none⟩ = some (.string ((nth a (a.length - 1)).S))) ∧ (w528.cell? ⟨g491, 0, none⟩ = some (.func (.func 117) #[] #[.pointer (some ⟨q215, 0, none⟩), .pointer (some ⟨q217, 0, none⟩)])) ∧ (w528.cell? ⟨g491, 1, none⟩ = some (.func (.func 85) #[] #[])) ∧ (True) := ⟨fun k hk => (hS529.get (i := 17) rfl k hk).2, (box_cell (hS529.res (i := 1) rfl) rfl), (box_cell (hS529.res (i := 1) rfl) rfl), (box_cell (hS529.res (i := 1) rfl) rfl), (box_cell (hS529.res (i := 1) rfl) rfl), (box_cell (hS529.res (i := 1) rfl) rfl), (box_cell (hS529.res (i := 1) rfl) rfl), (box_cell (hS529.res (i := 1) rfl) rfl), (box_cell (hS529.res (i := 4) rfl) rfl), (box_cell (hS529.res (i := 4) rfl) rfl), trivial⟩
              refine d_take (i := 0) rfl (by kernel_rfl) (by kernel_rfl) (by kernel_rfl) (fun c a w h => hP531 c _ _ _ _ h) rfl (by decide) hR522 (want_n rfl) (fun x hx => r_move (st_yield hR522 rfl (by decide)) hR522 rfl rfl rfl (by decide) (fun _ h => ⟨h.get _ _ rfl, rfl⟩)) hSw533 (fun a534 hR535 => ?_)
              refine d_take (i := 1) rfl (by kernel_rfl) (by kernel_rfl) (by kernel_rfl) (fun c a w h => hP531 c _ _ _ _ h) rfl (by decide) hR535 (want_n rfl) (fun x hx => r_nilCheck (st_yield hR535 rfl (by decide)) hR535 rfl rfl rfl (by decide) (fun _ h => ⟨h.get _ _ rfl, rfl⟩)) hSw533 (fun a536 hR537 => ?_)
              refine d_take (i := 2) rfl (by kernel_rfl) (by kernel_rfl) (by kernel_rfl) (fun c a w h => hP531 c _ _ _ _ h) rfl (by decide) hR537 (want_n rfl) (fun x hx => m_field (j' := 0) (st_yield hR537 rfl (by decide)) hR537 rfl rfl rfl Tryd.underlying74 rfl sz72 rfl rfl (by decide) (fun _ h => ⟨h.get _ _ rfl, rfl⟩)) hSw533 (fun a538 hR539 => ?_)
              refine d_take (i := 3) rfl (by kernel_rfl) (by kernel_rfl) (by kernel_rfl) (fun c a w h => hP531 c _ _ _ _ h) rfl (by decide) hR539 (want_n rfl) (fun x hx => m_field (j' := 1) (st_yield hR539 rfl (by decide)) hR539 rfl rfl rfl Tryd.underlying78 rfl sz76 rfl rfl (by decide) (fun _ h => ⟨h.get _ _ rfl, rfl⟩)) hSw533 (fun a540 hR541 => ?_)
              refine d_take (i := 4) rfl (by kernel_rfl) (by kernel_rfl) (by kernel_rfl) (fun c a w h => hP531 c _ _ _ _ h) rfl (by decide) hR541 (want_n rfl) (fun x hx => m_loadC (st_yield hR541 rfl (by decide)) hR541 rfl rfl rfl hx.2.2.2.2.2.2.2.2.2.1 Tryd.underlying76 rfl (by decide) (fun _ h => ⟨h.get _ _ rfl, rfl⟩)) hSw533 (fun a542 hR543 => ?_)
              refine d_take (i := 5) rfl (by kernel_rfl) (by kernel_rfl) (by kernel_rfl) (fun c a w h => hP531 c _ _ _ _ h) rfl (by decide) hR543 (want_n rfl) (fun x hx => r_move (st_yield hR543 rfl (by decide)) hR543 rfl rfl rfl (by decide) (fun _ h => ⟨h.get _ _ rfl, rfl⟩)) hSw533 (fun a544 hR545 => ?_)
              refine d_one (i := 6) (by kernel_rfl) ?_
              have hS546 : St w0 Z none_ w528 [.row (some ⟨g23, 0, none⟩) 3 3 22 1 (encSs ([((aA, ac, a) : Sl), ((bA, bc, b) : Sl), ((tA, tc, t) : Sl)])), .box g196 74 [.int .i64 (((0))), .slice aA a.length ac, .slice bA b.length bc, .slice tA t.length tc, .int .i64 (((nth a (a.length - 1)).K)), .int .i64 (((nth a (a.length - 1)).N)), .int .i64 (((nth a (a.length - 1)).M)), .string ((nth a (a.length - 1)).S)], .box g268 78 [.func (.func 80) #[] #[], .func (.func 81) #[] #[]], .box g377 78 [.func (.func 117) #[] #[.pointer (some ⟨q211, 0, none⟩), .pointer (some ⟨q213, 0, none⟩)], .func (.func 85) #[] #[]], .box g491 78 [.func (.func 117) #[] #[.pointer (some ⟨q215, 0, none⟩), .pointer (some ⟨q217, 0, none⟩)], .func (.func 85) #[] #[]]] [dShapes, dRow 4 aA a.length ac (encNs a), dRow 4 bA b.length bc (encNs b), dRow 4 tA t.length tc (encNs t), dAll [((aA, ac, a) : Sl), ((bA, bc, b) : Sl), ((tA, tc, t) : Sl)], dBox q211 [.int .i64 10], dBox q213 [.func (.func 84) #[] #[]], dBox q215 [.int .i64 2], dBox q217 [.func (.func 84) #[] #[]], dBox q219 [.int .i64 25], dBox q221 [.func (.func 84) #[] #[]], dBox q223 [.int .i64 3], dBox q225 [.func (.func 86) #[] #[]], dBox q227 [.int .i64 6], dBox q229 [.func (.func 88) #[] #[]], dBox q231 [.int .i64 22], dBox q233 [.func (.func 90) #[] #[]], dAg w508 J525] := hS529
              refine k_callV (xs := [.tmp 49]) (st_op rfl (want_n rfl)) hR545 rfl rfl rfl rfl (by decide) ok85 (citself_calls _ (imm Z w0 [.row (some ⟨g23, 0, none⟩) 3 3 22 1 (encSs ([((aA, ac, a) : Sl), ((bA, bc, b) : Sl), ((tA, tc, t) : Sl)])), .box g196 74 [.int .i64 (((0))), .slice aA a.length ac, .slice bA b.length bc, .slice tA t.length tc, .int .i64 (((nth a (a.length - 1)).K)), .int .i64 (((nth a (a.length - 1)).N)), .int .i64 (((nth a (a.length - 1)).M)), .string ((nth a (a.length - 1)).S)], .box g268 78 [.func (.func 80) #[] #[], .func (.func 81) #[] #[]], .box g377 78 [.func (.func 117) #[] #[.pointer (some ⟨q211, 0, none⟩), .pointer (some ⟨q213, 0, none⟩)], .func (.func 85) #[] #[]], .box g491 78 [.func (.func 117) #[] #[.pointer (some ⟨q215, 0, none⟩), .pointer (some ⟨q217, 0, none⟩)], .func (.func 85) #[] #[]]] _) (fun _ h => h.1) g196 (((0))) aA ac a bA bc b tA tc t (nth a (a.length - 1)) (hS546.res (i := 1) rfl) (imm_box (i := 1) rfl) (hS546.get (i := 1) rfl) (hS546.get (i := 2) rfl) (hS546.get (i := 3) rfl)) ?_
              rintro e556 w548 ⟨A552, c553, rfl, hf551, hb555, hd554⟩
              have hS557 := hS546.callM (i := 1) rfl hf551 hb555
              have hS558 := hS557.data (dRow 4 A552 t.length c553 (encNs t)) ⟨hd554.1, hd554.2.mono (fun _ hk => ⟨imm_set (i := 1) rfl (nxt_imm hS546 hk), rfl⟩)⟩
              refine ⟨_, rfl, fun a547 hR549 => ?_⟩
              have hSw559 : (∀ k, J525 k → w548.heap[k]? = w508.heap[k]?) ∧ (w548.cell? ⟨g196, 1, none⟩ = some (.slice aA a.length ac)) ∧ (w548.cell? ⟨g196, 2, none⟩ = some (.slice bA b.length bc)) ∧ (w548.cell? ⟨g196, 3, none⟩ = some (.slice tA t.length tc)) ∧ (w548.cell? ⟨g196, 4, none⟩ = some (.int .i64 (((nth a (a.length - 1)).K)))) ∧ (w548.cell? ⟨g196, 5, none⟩ = some (.int .i64 (((nth a (a.length - 1)).N)))) ∧ (w548.cell? ⟨g196, 6, none⟩ = some (.int .i64 (((nth a (a.length - 1)).M)))) ∧ (w548.cell? ⟨g196, 7, none⟩ = some (.string ((nth a (a.length - 1)).S))) ∧ (w548.cell? ⟨g491, 0, none⟩ = some (.func (.func 117) #[] #[.pointer (some ⟨q215, 0, none⟩), .pointer (some ⟨q217, 0, none⟩)])) ∧ (w548.cell? ⟨g491, 1, none⟩ = some (.func (.func 85) #[] #[])) ∧ (True) := ⟨fun k hk => (hS558.get (i := 17) rfl k hk).2, (box_cell (hS558.res (i := 1) rfl) rfl), (box_cell (hS558.res (i := 1) rfl) rfl), (box_cell (hS558.res (i := 1) rfl) rfl), (box_cell (hS558.res (i := 1) rfl) rfl), (box_cell (hS558.res (i := 1) rfl) rfl), (box_cell (hS558.res (i := 1) rfl) rfl), (box_cell (hS558.res (i := 1) rfl) rfl), (box_cell (hS558.res (i := 4) rfl) rfl), (box_cell (hS558.res (i := 4) rfl) rfl), trivial⟩
              refine ⟨hSw559, ?_⟩
              refine d_one (i := 7) (by kernel_rfl) ?_
              have hS560 : St w0 Z none_ w548 [.row (some ⟨g23, 0, none⟩) 3 3 22 1 (encSs ([((aA, ac, a) : Sl), ((bA, bc, b) : Sl), ((tA, tc, t) : Sl)])), .box g196 74 [.int .i64 ((((0)))), .slice aA a.length ac, .slice bA b.length bc, .slice tA t.length tc, .int .i64 (((nth a (a.length - 1)).K)), .int .i64 (((nth a (a.length - 1)).N)), .int .i64 (((nth a (a.length - 1)).M)), .string ((nth a (a.length - 1)).S)], .box g268 78 [.func (.func 80) #[] #[], .func (.func 81) #[] #[]], .box g377 78 [.func (.func 117) #[] #[.pointer (some ⟨q211, 0, none⟩), .pointer (some ⟨q213, 0, none⟩)], .func (.func 85) #[] #[]], .box g491 78 [.func (.func 117) #[] #[.pointer (some ⟨q215, 0, none⟩), .pointer (some ⟨q217, 0, none⟩)], .func (.func 85) #[] #[]]] [dShapes, dRow 4 aA a.length ac (encNs a), dRow 4 bA b.length bc (encNs b), dRow 4 tA t.length tc (encNs t), dAll [((aA, ac, a) : Sl), ((bA, bc, b) : Sl), ((tA, tc, t) : Sl)], dBox q211 [.int .i64 10], dBox q213 [.func (.func 84) #[] #[]], dBox q215 [.int .i64 2], dBox q217 [.func (.func 84) #[] #[]], dBox q219 [.int .i64 25], dBox q221 [.func (.func 84) #[] #[]], dBox q223 [.int .i64 3], dBox q225 [.func (.func 86) #[] #[]], dBox q227 [.int .i64 6], dBox q229 [.func (.func 88) #[] #[]], dBox q231 [.int .i64 22], dBox q233 [.func (.func 90) #[] #[]], dAg w508 J525, dRow 4 A552 t.length c553 (encNs t)] := hS558
              refine k_call (xs := [.tmp 46, .tmp 50]) (st_op rfl (want_n rfl)) hR549 rfl rfl rfl (by decide) ok60 (done_calls _ (imm Z w0 [.row (some ⟨g23, 0, none⟩) 3 3 22 1 (encSs ([((aA, ac, a) : Sl), ((bA, bc, b) : Sl), ((tA, tc, t) : Sl)])), .box g196 74 [.int .i64 ((((0)))), .slice aA a.length ac, .slice bA b.length bc, .slice tA t.length tc, .int .i64 (((nth a (a.length - 1)).K)), .int .i64 (((nth a (a.length - 1)).N)), .int .i64 (((nth a (a.length - 1)).M)), .string ((nth a (a.length - 1)).S)], .box g268 78 [.func (.func 80) #[] #[], .func (.func 81) #[] #[]], .box g377 78 [.func (.func 117) #[] #[.pointer (some ⟨q211, 0, none⟩), .pointer (some ⟨q213, 0, none⟩)], .func (.func 85) #[] #[]], .box g491 78 [.func (.func 117) #[] #[.pointer (some ⟨q215, 0, none⟩), .pointer (some ⟨q217, 0, none⟩)], .func (.func 85) #[] #[]]] _) (fun _ h => h.1) g196 74 ((((0)))) ([.slice aA a.length ac, .slice bA b.length bc, .slice tA t.length tc, .int .i64 (((nth a (a.length - 1)).K)), .int .i64 (((nth a (a.length - 1)).N)), .int .i64 (((nth a (a.length - 1)).M)), .string ((nth a (a.length - 1)).S)]) A552 c553 t (hS560.get (i := 0) rfl) (hS560.res (i := 1) rfl) (imm_box (i := 1) rfl) (hS560.get (i := 18) rfl) (by first | assumption | (rw [if_pos rfl]; exact sml_tick)) (by first | assumption | omega | (simp; done) | (simp; omega))) ?_
              rintro e570 w562 ⟨A566, c567, rfl, hf565, hb569, hd568⟩
              have hS571 := hS560.callM (i := 1) rfl hf565 hb569
              have hS572 := hS571.data (dRow 4 A566 ((if (if ((((0)))) = 0 then chk t else ((((0))))) = 0 then t else []).length) c567 (encNs (if (if ((((0)))) = 0 then chk t else ((((0))))) = 0 then t else []))) ⟨hd568.1, hd568.2.mono (fun _ hk => ⟨imm_set (i := 1) rfl (nxt_imm hS560 hk), rfl⟩)⟩
              refine ⟨_, rfl, fun a561 hR563 => ?_⟩
              have hSw573 : (∀ k, J525 k → w562.heap[k]? = w508.heap[k]?) ∧ (w562.cell? ⟨g196, 1, none⟩ = some (.slice aA a.length ac)) ∧ (w562.cell? ⟨g196, 2, none⟩ = some (.slice bA b.length bc)) ∧ (w562.cell? ⟨g196, 3, none⟩ = some (.slice tA t.length tc)) ∧ (w562.cell? ⟨g196, 4, none⟩ = some (.int .i64 (((nth a (a.length - 1)).K)))) ∧ (w562.cell? ⟨g196, 5, none⟩ = some (.int .i64 (((nth a (a.length - 1)).N)))) ∧ (w562.cell? ⟨g196, 6, none⟩ = some (.int .i64 (((nth a (a.length - 1)).M)))) ∧ (w562.cell? ⟨g196, 7, none⟩ = some (.string ((nth a (a.length - 1)).S))) ∧ (w562.cell? ⟨g491, 0, none⟩ = some (.func (.func 117) #[] #[.pointer (some ⟨q215, 0, none⟩), .pointer (some ⟨q217, 0, none⟩)])) ∧ (w562.cell? ⟨g491, 1, none⟩ = some (.func (.func 85) #[] #[])) ∧ (True) := ⟨fun k hk => (hS572.get (i := 17) rfl k hk).2, (box_cell (hS572.res (i := 1) rfl) rfl), (box_cell (hS572.res (i := 1) rfl) rfl), (box_cell (hS572.res (i := 1) rfl) rfl), (box_cell (hS572.res (i := 1) rfl) rfl), (box_cell (hS572.res (i := 1) rfl) rfl), (box_cell (hS572.res (i := 1) rfl) rfl), (box_cell (hS572.res (i := 1) rfl) rfl), (box_cell (hS572.res (i := 4) rfl) rfl), (box_cell (hS572.res (i := 4) rfl) rfl), trivial⟩
              refine ⟨hSw573, ?_⟩
              refine d_take (i := 8) rfl (by kernel_rfl) (by kernel_rfl) (by kernel_rfl) (fun c a w h => hP531 c _ _ _ _ h) rfl (by decide) hR563 (want_n rfl) (fun x hx => r_extract (st_yield hR563 rfl (by decide)) hR563 rfl rfl rfl rfl (by decide) (fun _ h => ⟨h.get _ _ rfl, rfl⟩)) hSw573 (fun a574 hR575 => ?_)
              refine d_take (i := 9) rfl (by kernel_rfl) (by kernel_rfl) (by kernel_rfl) (fun c a w h => hP531 c _ _ _ _ h) rfl (by decide) hR575 (want_n rfl) (fun x hx => r_extract (st_yield hR575 rfl (by decide)) hR575 rfl rfl rfl rfl (by decide) (fun _ h => ⟨h.get _ _ rfl, rfl⟩)) hSw573 (fun a576 hR577 => ?_)
              refine d_take (i := 10) rfl (by kernel_rfl) (by kernel_rfl) (by kernel_rfl) (fun c a w h => hP531 c _ _ _ _ h) rfl (by decide) hR577 (want_n rfl) (fun x hx => r_assign (st_yield hR577 rfl (by decide)) hR577 rfl rfl rfl (by decide) (fun _ h => ⟨h.get _ _ rfl, rfl⟩)) hSw573 (fun a578 hR579 => ?_)
              refine d_take (i := 11) rfl (by kernel_rfl) (by kernel_rfl) (by kernel_rfl) (fun c a w h => hP531 c _ _ _ _ h) rfl (by decide) hR579 (want_n rfl) (fun x hx => r_assign (st_yield hR579 rfl (by decide)) hR579 rfl rfl rfl (by decide) (fun _ h => ⟨h.get _ _ rfl, rfl⟩)) hSw573 (fun a580 hR581 => ?_)
              refine wpAnyH_done (by kernel_rfl) (hN532 _ _ ?_) _
              refine x_then_n (hK524 _ _ ?_)
              refine wp_ret ?_
              refine x_block_r ?_
              refine x_then_r ?_
              refine x_then_r ?_
              refine x_block_r ?_
              refine x_then_r ?_
              refine e_ret2 hR581 rfl rfl rfl ?_
              have he582 : (if ¬ (if ¬ chk a = 0 then chk a else if ¬ chk b = 0 then chk b else chk t) = 0 then [] else if (nth t (t.length - 1)).K = 29 then [(⟨29, 0, 0, ⟨#[]⟩⟩ : Nd)] else t) = (if (if ((((0)))) = 0 then chk t else ((((0))))) = 0 then t else []) := by simp [h69, h114, h159, h355, chk_tick]
              rw [he582]
              refine ⟨A566, c567, ?_, hS572.fr, ⟨by have := (hS572.row (i := 19) rfl).1; exact this, ((hS572.row (i := 19) rfl).2.mono (fun _ hk => ⟨imm_nxt hk, rfl⟩))⟩⟩
              exact ret_t2 rfl (ret_i (by (simp [h69, h114, h159, h355, chk_tick])))
            · skip
              have hq583 := h515
              try simp only [Bool.or_eq_true, Bool.and_eq_true, Bool.not_eq_true', Bool.not_eq_false', decide_eq_true_eq, decide_eq_false_iff_not, Bool.or_eq_false_iff, Bool.and_eq_false_iff] at hq583
              have hR584 := hR509.setb (d := 43) (b := false) rfl h515
              refine wp_cond_false (hR584.ev rfl) ?_
              refine wp_skip ?_
              refine x_block_n ?_
              refine x_then_n (hK484 _ _ ?_)
              refine c_region ?_
              refine r_add (z := 3) (st_listV rfl) hR584 rfl rfl rfl rfl (by decide) (by omega) (by omega) (by omega) (fun a585 hR586 => ?_)
              refine r_move (st_listV rfl) hR586 rfl rfl rfl (by decide) (fun a587 hR588 => ?_)
              refine wpList_nil ?_
              refine x_then_n (r_round ?_)
              refine wp_seq_k (fun K589 hK590 => ?_)
              refine c_region ?_
              have h591 : (3 : Int) < 7 := by decide
              refine r_lss (st_listV rfl) hR588 rfl rfl rfl rfl (by decide) (fun a592 hR593 => ?_)
              refine wpList_nil ?_
              refine x_then_n (hK590 _ _ ?_)
              refine wp_seq_k (fun K594 hK595 => ?_)
              have hR596 := hR593.setb (d := 38) (b := true) rfl (decide_eq_true h591)
              refine wp_cond_true (hR596.ev rfl) ?_
              refine wp_skip ?_
              refine x_then_n (hK595 _ _ ?_)
              refine wp_seq_k (fun K597 hK598 => ?_)
              refine wp_block ?_
              refine wp_seq_k (fun K599 hK600 => ?_)
              refine c_region ?_
              refine r_indexV (v := .agg #[.func (.func 117) #[] #[.pointer (some ⟨q219, 0, none⟩), .pointer (some ⟨q221, 0, none⟩)], .func (.func 85) #[] #[]]) (st_listV rfl) hR596 rfl rfl rfl rfl (fun _ => by kernel_rfl) (by decide) (fun a601 hR602 => ?_)
              refine m_alloc (cs := [.nilFunc, .nilFunc]) (st_listV rfl) hR602 hS514 rfl rfl ze78 rfl (by decide) (fun a603 w604 g605 hR606 hS607 => ?_)
              refine m_store (i := 5) (cs' := [.func (.func 117) #[] #[.pointer (some ⟨q219, 0, none⟩), .pointer (some ⟨q221, 0, none⟩)], .func (.func 85) #[] #[]]) (st_list rfl) hR606 hS607 rfl rfl rfl rfl rfl sz78 rfl rfl rfl (fun a608 w609 hR610 hS611 => ?_)
              refine wpList_nil ?_
              refine x_then_n (hK600 _ _ ?_)
              refine wp_seq_k (fun K612 hK613 => ?_)
              refine c_region ?_
              refine m_field (j' := 0) (st_listV rfl) hR610 rfl rfl rfl Tryd.underlying78 rfl sz75 rfl rfl (by decide) (fun a614 hR615 => ?_)
              refine m_load (i := 5) (st_listV rfl) hR615 hS611 rfl rfl rfl rfl rfl Tryd.underlying75 rfl (by decide) (fun a616 hR617 => ?_)
              refine r_move (st_listV rfl) hR617 rfl rfl rfl (by decide) (fun a618 hR619 => ?_)
              have hS620 : St w0 Z none_ w609 [.row (some ⟨g23, 0, none⟩) 3 3 22 1 (encSs ([((aA, ac, a) : Sl), ((bA, bc, b) : Sl), ((tA, tc, t) : Sl)])), .box g196 74 [.int .i64 (((0))), .slice aA a.length ac, .slice bA b.length bc, .slice tA t.length tc, .int .i64 (((nth a (a.length - 1)).K)), .int .i64 (((nth a (a.length - 1)).N)), .int .i64 (((nth a (a.length - 1)).M)), .string ((nth a (a.length - 1)).S)], .box g268 78 [.func (.func 80) #[] #[], .func (.func 81) #[] #[]], .box g377 78 [.func (.func 117) #[] #[.pointer (some ⟨q211, 0, none⟩), .pointer (some ⟨q213, 0, none⟩)], .func (.func 85) #[] #[]], .box g491 78 [.func (.func 117) #[] #[.pointer (some ⟨q215, 0, none⟩), .pointer (some ⟨q217, 0, none⟩)], .func (.func 85) #[] #[]], .box g605 78 [.func (.func 117) #[] #[.pointer (some ⟨q219, 0, none⟩), .pointer (some ⟨q221, 0, none⟩)], .func (.func 85) #[] #[]]] [dShapes, dRow 4 aA a.length ac (encNs a), dRow 4 bA b.length bc (encNs b), dRow 4 tA t.length tc (encNs t), dAll [((aA, ac, a) : Sl), ((bA, bc, b) : Sl), ((tA, tc, t) : Sl)], dBox q211 [.int .i64 10], dBox q213 [.func (.func 84) #[] #[]], dBox q215 [.int .i64 2], dBox q217 [.func (.func 84) #[] #[]], dBox q219 [.int .i64 25], dBox q221 [.func (.func 84) #[] #[]], dBox q223 [.int .i64 3], dBox q225 [.func (.func 86) #[] #[]], dBox q227 [.int .i64 6], dBox q229 [.func (.func 88) #[] #[]], dBox q231 [.int .i64 22], dBox q233 [.func (.func 90) #[] #[]]] := hS611
              refine k_callV (xs := [.tmp 42]) (st_list rfl) hR619 rfl rfl rfl rfl (by decide) ok117 (ckind84_calls _ (imm Z w0 [.row (some ⟨g23, 0, none⟩) 3 3 22 1 (encSs ([((aA, ac, a) : Sl), ((bA, bc, b) : Sl), ((tA, tc, t) : Sl)])), .box g196 74 [.int .i64 (((0))), .slice aA a.length ac, .slice bA b.length bc, .slice tA t.length tc, .int .i64 (((nth a (a.length - 1)).K)), .int .i64 (((nth a (a.length - 1)).N)), .int .i64 (((nth a (a.length - 1)).M)), .string ((nth a (a.length - 1)).S)], .box g268 78 [.func (.func 80) #[] #[], .func (.func 81) #[] #[]], .box g377 78 [.func (.func 117) #[] #[.pointer (some ⟨q211, 0, none⟩), .pointer (some ⟨q213, 0, none⟩)], .func (.func 85) #[] #[]], .box g491 78 [.func (.func 117) #[] #[.pointer (some ⟨q215, 0, none⟩), .pointer (some ⟨q217, 0, none⟩)], .func (.func 85) #[] #[]], .box g605 78 [.func (.func 117) #[] #[.pointer (some ⟨q219, 0, none⟩), .pointer (some ⟨q221, 0, none⟩)], .func (.func 85) #[] #[]]] _) (fun _ h => h.1) g196 (((0))) aA ac a bA bc b tA tc t (nth a (a.length - 1)) q219 25 q221 (hS620.res (i := 1) rfl) (imm_box (i := 1) rfl) (hS620.get (i := 1) rfl) (hS620.get (i := 2) rfl) (hS620.get (i := 3) rfl) (hS620.get (i := 9) rfl) (hS620.get (i := 10) rfl) (by first | assumption | omega | (simp; done) | (simp; omega)) (by first | assumption | omega | (simp; done) | (simp; omega)) (by first | assumption | omega | (simp; done) | (simp; omega)) (by first | assumption | omega | (simp; done) | (simp; omega)) (by first | assumption | omega | (simp; done) | (simp; omega)) (by first | assumption | omega | (simp; done) | (simp; omega))) ?_
              rintro e627 w622 ⟨rfl, hf625, hb626⟩
              have hS628 := hS620.callM (i := 1) rfl hf625 hb626
              refine ⟨_, rfl, fun a621 hR623 => ?_⟩
              refine wpList_nil ?_
              refine x_then_n (hK613 _ _ ?_)
              rcases Bool.eq_false_or_eq_true ((decide ((nth a (a.length - 1)).K = 25) && decide (nth b (b.length - 1) = (nth a (a.length - 1)))) && true) with h629 | h629
              · skip
                have h630 := and_tl h629
                have h631 := and_tl h630
                have h632 := of_decide_eq_true h631
                have h633 := and_tr h630
                have h634 := of_decide_eq_true h633
                have h635 := and_tr h629
                have hR636 := hR623.setb (d := 43) (b := true) rfl h629
                refine wp_cond_true (hR636.ev rfl) ?_
                refine wp_seq_k (fun K637 hK638 => ?_)
                obtain ⟨J639, hJ640, hS641⟩ := hS628.agree
                refine d_region2 (S := (fun x => (∀ k, J639 k → x.heap[k]? = w622.heap[k]?) ∧ (x.cell? ⟨g196, 1, none⟩ = some (.slice aA a.length ac)) ∧ (x.cell? ⟨g196, 2, none⟩ = some (.slice bA b.length bc)) ∧ (x.cell? ⟨g196, 3, none⟩ = some (.slice tA t.length tc)) ∧ (x.cell? ⟨g196, 4, none⟩ = some (.int .i64 (((nth a (a.length - 1)).K)))) ∧ (x.cell? ⟨g196, 5, none⟩ = some (.int .i64 (((nth a (a.length - 1)).N)))) ∧ (x.cell? ⟨g196, 6, none⟩ = some (.int .i64 (((nth a (a.length - 1)).M)))) ∧ (x.cell? ⟨g196, 7, none⟩ = some (.string ((nth a (a.length - 1)).S))) ∧ (x.cell? ⟨g605, 0, none⟩ = some (.func (.func 117) #[] #[.pointer (some ⟨q219, 0, none⟩), .pointer (some ⟨q221, 0, none⟩)])) ∧ (x.cell? ⟨g605, 1, none⟩ = some (.func (.func 85) #[] #[])) ∧ (True))) (n := 12) mixed rfl hS641 (pan_then (pan_block (pan_then (pan_then (pan_block (pan_then pan_body)))))) (fun Q644 hP645 hN646 w642 hS643 => ?_)
                have hSw647 : (∀ k, J639 k → w642.heap[k]? = w622.heap[k]?) ∧ (w642.cell? ⟨g196, 1, none⟩ = some (.slice aA a.length ac)) ∧ (w642.cell? ⟨g196, 2, none⟩ = some (.slice bA b.length bc)) ∧ (w642.cell? ⟨g196, 3, none⟩ = some (.slice tA t.length tc)) ∧ (w642.cell? ⟨g196, 4, none⟩ = some (.int .i64 (((nth a (a.length - 1)).K)))) ∧ (w642.cell? ⟨g196, 5, none⟩ = some (.int .i64 (((nth a (a.length - 1)).N)))) ∧ (w642.cell? ⟨g196, 6, none⟩ = some (.int .i64 (((nth a (a.length - 1)).M)))) ∧ (w642.cell? ⟨g196, 7, none⟩ = some (.string ((nth a (a.length - 1)).S))) ∧ (w642.cell? ⟨g605, 0, none⟩ = some (.func (.func 117) #[] #[.pointer (some ⟨q219, 0, none⟩), .pointer (some ⟨q221, 0, none⟩)])) ∧ (w642.cell? ⟨g605, 1, none⟩ = some (.func (.func 85) #[] #[])) ∧ (True) := ⟨fun k hk => (hS643.get (i := 17) rfl k hk).2, (box_cell (hS643.res (i := 1) rfl) rfl), (box_cell (hS643.res (i := 1) rfl) rfl), (box_cell (hS643.res (i := 1) rfl) rfl), (box_cell (hS643.res (i := 1) rfl) rfl), (box_cell (hS643.res (i := 1) rfl) rfl), (box_cell (hS643.res (i := 1) rfl) rfl), (box_cell (hS643.res (i := 1) rfl) rfl), (box_cell (hS643.res (i := 5) rfl) rfl), (box_cell (hS643.res (i := 5) rfl) rfl), trivial⟩
                refine d_take (i := 0) rfl (by kernel_rfl) (by kernel_rfl) (by kernel_rfl) (fun c a w h => hP645 c _ _ _ _ h) rfl (by decide) hR636 (want_n rfl) (fun x hx => r_move (st_yield hR636 rfl (by decide)) hR636 rfl rfl rfl (by decide) (fun _ h => ⟨h.get _ _ rfl, rfl⟩)) hSw647 (fun a648 hR649 => ?_)
                refine d_take (i := 1) rfl (by kernel_rfl) (by kernel_rfl) (by kernel_rfl) (fun c a w h => hP645 c _ _ _ _ h) rfl (by decide) hR649 (want_n rfl) (fun x hx => r_nilCheck (st_yield hR649 rfl (by decide)) hR649 rfl rfl rfl (by decide) (fun _ h => ⟨h.get _ _ rfl, rfl⟩)) hSw647 (fun a650 hR651 => ?_)
                refine d_take (i := 2) rfl (by kernel_rfl) (by kernel_rfl) (by kernel_rfl) (fun c a w h => hP645 c _ _ _ _ h) rfl (by decide) hR651 (want_n rfl) (fun x hx => m_field (j' := 0) (st_yield hR651 rfl (by decide)) hR651 rfl rfl rfl Tryd.underlying74 rfl sz72 rfl rfl (by decide) (fun _ h => ⟨h.get _ _ rfl, rfl⟩)) hSw647 (fun a652 hR653 => ?_)
                refine d_take (i := 3) rfl (by kernel_rfl) (by kernel_rfl) (by kernel_rfl) (fun c a w h => hP645 c _ _ _ _ h) rfl (by decide) hR653 (want_n rfl) (fun x hx => m_field (j' := 1) (st_yield hR653 rfl (by decide)) hR653 rfl rfl rfl Tryd.underlying78 rfl sz76 rfl rfl (by decide) (fun _ h => ⟨h.get _ _ rfl, rfl⟩)) hSw647 (fun a654 hR655 => ?_)
                refine d_take (i := 4) rfl (by kernel_rfl) (by kernel_rfl) (by kernel_rfl) (fun c a w h => hP645 c _ _ _ _ h) rfl (by decide) hR655 (want_n rfl) (fun x hx => m_loadC (st_yield hR655 rfl (by decide)) hR655 rfl rfl rfl hx.2.2.2.2.2.2.2.2.2.1 Tryd.underlying76 rfl (by decide) (fun _ h => ⟨h.get _ _ rfl, rfl⟩)) hSw647 (fun a656 hR657 => ?_)
                refine d_take (i := 5) rfl (by kernel_rfl) (by kernel_rfl) (by kernel_rfl) (fun c a w h => hP645 c _ _ _ _ h) rfl (by decide) hR657 (want_n rfl) (fun x hx => r_move (st_yield hR657 rfl (by decide)) hR657 rfl rfl rfl (by decide) (fun _ h => ⟨h.get _ _ rfl, rfl⟩)) hSw647 (fun a658 hR659 => ?_)
                refine d_one (i := 6) (by kernel_rfl) ?_
                have hS660 : St w0 Z none_ w642 [.row (some ⟨g23, 0, none⟩) 3 3 22 1 (encSs ([((aA, ac, a) : Sl), ((bA, bc, b) : Sl), ((tA, tc, t) : Sl)])), .box g196 74 [.int .i64 ((((0)))), .slice aA a.length ac, .slice bA b.length bc, .slice tA t.length tc, .int .i64 (((nth a (a.length - 1)).K)), .int .i64 (((nth a (a.length - 1)).N)), .int .i64 (((nth a (a.length - 1)).M)), .string ((nth a (a.length - 1)).S)], .box g268 78 [.func (.func 80) #[] #[], .func (.func 81) #[] #[]], .box g377 78 [.func (.func 117) #[] #[.pointer (some ⟨q211, 0, none⟩), .pointer (some ⟨q213, 0, none⟩)], .func (.func 85) #[] #[]], .box g491 78 [.func (.func 117) #[] #[.pointer (some ⟨q215, 0, none⟩), .pointer (some ⟨q217, 0, none⟩)], .func (.func 85) #[] #[]], .box g605 78 [.func (.func 117) #[] #[.pointer (some ⟨q219, 0, none⟩), .pointer (some ⟨q221, 0, none⟩)], .func (.func 85) #[] #[]]] [dShapes, dRow 4 aA a.length ac (encNs a), dRow 4 bA b.length bc (encNs b), dRow 4 tA t.length tc (encNs t), dAll [((aA, ac, a) : Sl), ((bA, bc, b) : Sl), ((tA, tc, t) : Sl)], dBox q211 [.int .i64 10], dBox q213 [.func (.func 84) #[] #[]], dBox q215 [.int .i64 2], dBox q217 [.func (.func 84) #[] #[]], dBox q219 [.int .i64 25], dBox q221 [.func (.func 84) #[] #[]], dBox q223 [.int .i64 3], dBox q225 [.func (.func 86) #[] #[]], dBox q227 [.int .i64 6], dBox q229 [.func (.func 88) #[] #[]], dBox q231 [.int .i64 22], dBox q233 [.func (.func 90) #[] #[]], dAg w622 J639] := hS643
                refine k_callV (xs := [.tmp 49]) (st_op rfl (want_n rfl)) hR659 rfl rfl rfl rfl (by decide) ok85 (citself_calls _ (imm Z w0 [.row (some ⟨g23, 0, none⟩) 3 3 22 1 (encSs ([((aA, ac, a) : Sl), ((bA, bc, b) : Sl), ((tA, tc, t) : Sl)])), .box g196 74 [.int .i64 ((((0)))), .slice aA a.length ac, .slice bA b.length bc, .slice tA t.length tc, .int .i64 (((nth a (a.length - 1)).K)), .int .i64 (((nth a (a.length - 1)).N)), .int .i64 (((nth a (a.length - 1)).M)), .string ((nth a (a.length - 1)).S)], .box g268 78 [.func (.func 80) #[] #[], .func (.func 81) #[] #[]], .box g377 78 [.func (.func 117) #[] #[.pointer (some ⟨q211, 0, none⟩), .pointer (some ⟨q213, 0, none⟩)], .func (.func 85) #[] #[]], .box g491 78 [.func (.func 117) #[] #[.pointer (some ⟨q215, 0, none⟩), .pointer (some ⟨q217, 0, none⟩)], .func (.func 85) #[] #[]], .box g605 78 [.func (.func 117) #[] #[.pointer (some ⟨q219, 0, none⟩), .pointer (some ⟨q221, 0, none⟩)], .func (.func 85) #[] #[]]] _) (fun _ h => h.1) g196 ((((0)))) aA ac a bA bc b tA tc t (nth a (a.length - 1)) (hS660.res (i := 1) rfl) (imm_box (i := 1) rfl) (hS660.get (i := 1) rfl) (hS660.get (i := 2) rfl) (hS660.get (i := 3) rfl)) ?_
                rintro e670 w662 ⟨A666, c667, rfl, hf665, hb669, hd668⟩
                have hS671 := hS660.callM (i := 1) rfl hf665 hb669
                have hS672 := hS671.data (dRow 4 A666 t.length c667 (encNs t)) ⟨hd668.1, hd668.2.mono (fun _ hk => ⟨imm_set (i := 1) rfl (nxt_imm hS660 hk), rfl⟩)⟩
                refine ⟨_, rfl, fun a661 hR663 => ?_⟩
                have hSw673 : (∀ k, J639 k → w662.heap[k]? = w622.heap[k]?) ∧ (w662.cell? ⟨g196, 1, none⟩ = some (.slice aA a.length ac)) ∧ (w662.cell? ⟨g196, 2, none⟩ = some (.slice bA b.length bc)) ∧ (w662.cell? ⟨g196, 3, none⟩ = some (.slice tA t.length tc)) ∧ (w662.cell? ⟨g196, 4, none⟩ = some (.int .i64 (((nth a (a.length - 1)).K)))) ∧ (w662.cell? ⟨g196, 5, none⟩ = some (.int .i64 (((nth a (a.length - 1)).N)))) ∧ (w662.cell? ⟨g196, 6, none⟩ = some (.int .i64 (((nth a (a.length - 1)).M)))) ∧ (w662.cell? ⟨g196, 7, none⟩ = some (.string ((nth a (a.length - 1)).S))) ∧ (w662.cell? ⟨g605, 0, none⟩ = some (.func (.func 117) #[] #[.pointer (some ⟨q219, 0, none⟩), .pointer (some ⟨q221, 0, none⟩)])) ∧ (w662.cell? ⟨g605, 1, none⟩ = some (.func (.func 85) #[] #[])) ∧ (True) := ⟨fun k hk => (hS672.get (i := 17) rfl k hk).2, (box_cell (hS672.res (i := 1) rfl) rfl), (box_cell (hS672.res (i := 1) rfl) rfl), (box_cell (hS672.res (i := 1) rfl) rfl), (box_cell (hS672.res (i := 1) rfl) rfl), (box_cell (hS672.res (i := 1) rfl) rfl), (box_cell (hS672.res (i := 1) rfl) rfl), (box_cell (hS672.res (i := 1) rfl) rfl), (box_cell (hS672.res (i := 5) rfl) rfl), (box_cell (hS672.res (i := 5) rfl) rfl), trivial⟩
                refine ⟨hSw673, ?_⟩
                refine d_one (i := 7) (by kernel_rfl) ?_
                have hS674 : St w0 Z none_ w662 [.row (some ⟨g23, 0, none⟩) 3 3 22 1 (encSs ([((aA, ac, a) : Sl), ((bA, bc, b) : Sl), ((tA, tc, t) : Sl)])), .box g196 74 [.int .i64 (((((0))))), .slice aA a.length ac, .slice bA b.length bc, .slice tA t.length tc, .int .i64 (((nth a (a.length - 1)).K)), .int .i64 (((nth a (a.length - 1)).N)), .int .i64 (((nth a (a.length - 1)).M)), .string ((nth a (a.length - 1)).S)], .box g268 78 [.func (.func 80) #[] #[], .func (.func 81) #[] #[]], .box g377 78 [.func (.func 117) #[] #[.pointer (some ⟨q211, 0, none⟩), .pointer (some ⟨q213, 0, none⟩)], .func (.func 85) #[] #[]], .box g491 78 [.func (.func 117) #[] #[.pointer (some ⟨q215, 0, none⟩), .pointer (some ⟨q217, 0, none⟩)], .func (.func 85) #[] #[]], .box g605 78 [.func (.func 117) #[] #[.pointer (some ⟨q219, 0, none⟩), .pointer (some ⟨q221, 0, none⟩)], .func (.func 85) #[] #[]]] [dShapes, dRow 4 aA a.length ac (encNs a), dRow 4 bA b.length bc (encNs b), dRow 4 tA t.length tc (encNs t), dAll [((aA, ac, a) : Sl), ((bA, bc, b) : Sl), ((tA, tc, t) : Sl)], dBox q211 [.int .i64 10], dBox q213 [.func (.func 84) #[] #[]], dBox q215 [.int .i64 2], dBox q217 [.func (.func 84) #[] #[]], dBox q219 [.int .i64 25], dBox q221 [.func (.func 84) #[] #[]], dBox q223 [.int .i64 3], dBox q225 [.func (.func 86) #[] #[]], dBox q227 [.int .i64 6], dBox q229 [.func (.func 88) #[] #[]], dBox q231 [.int .i64 22], dBox q233 [.func (.func 90) #[] #[]], dAg w622 J639, dRow 4 A666 t.length c667 (encNs t)] := hS672
                refine k_call (xs := [.tmp 46, .tmp 50]) (st_op rfl (want_n rfl)) hR663 rfl rfl rfl (by decide) ok60 (done_calls _ (imm Z w0 [.row (some ⟨g23, 0, none⟩) 3 3 22 1 (encSs ([((aA, ac, a) : Sl), ((bA, bc, b) : Sl), ((tA, tc, t) : Sl)])), .box g196 74 [.int .i64 (((((0))))), .slice aA a.length ac, .slice bA b.length bc, .slice tA t.length tc, .int .i64 (((nth a (a.length - 1)).K)), .int .i64 (((nth a (a.length - 1)).N)), .int .i64 (((nth a (a.length - 1)).M)), .string ((nth a (a.length - 1)).S)], .box g268 78 [.func (.func 80) #[] #[], .func (.func 81) #[] #[]], .box g377 78 [.func (.func 117) #[] #[.pointer (some ⟨q211, 0, none⟩), .pointer (some ⟨q213, 0, none⟩)], .func (.func 85) #[] #[]], .box g491 78 [.func (.func 117) #[] #[.pointer (some ⟨q215, 0, none⟩), .pointer (some ⟨q217, 0, none⟩)], .func (.func 85) #[] #[]], .box g605 78 [.func (.func 117) #[] #[.pointer (some ⟨q219, 0, none⟩), .pointer (some ⟨q221, 0, none⟩)], .func (.func 85) #[] #[]]] _) (fun _ h => h.1) g196 74 (((((0))))) ([.slice aA a.length ac, .slice bA b.length bc, .slice tA t.length tc, .int .i64 (((nth a (a.length - 1)).K)), .int .i64 (((nth a (a.length - 1)).N)), .int .i64 (((nth a (a.length - 1)).M)), .string ((nth a (a.length - 1)).S)]) A666 c667 t (hS674.get (i := 0) rfl) (hS674.res (i := 1) rfl) (imm_box (i := 1) rfl) (hS674.get (i := 18) rfl) (by first | assumption | (rw [if_pos rfl]; exact sml_tick)) (by first | assumption | omega | (simp; done) | (simp; omega))) ?_
                rintro e684 w676 ⟨A680, c681, rfl, hf679, hb683, hd682⟩
                have hS685 := hS674.callM (i := 1) rfl hf679 hb683
                have hS686 := hS685.data (dRow 4 A680 ((if (if (((((0))))) = 0 then chk t else (((((0)))))) = 0 then t else []).length) c681 (encNs (if (if (((((0))))) = 0 then chk t else (((((0)))))) = 0 then t else []))) ⟨hd682.1, hd682.2.mono (fun _ hk => ⟨imm_set (i := 1) rfl (nxt_imm hS674 hk), rfl⟩)⟩
                refine ⟨_, rfl, fun a675 hR677 => ?_⟩
                have hSw687 : (∀ k, J639 k → w676.heap[k]? = w622.heap[k]?) ∧ (w676.cell? ⟨g196, 1, none⟩ = some (.slice aA a.length ac)) ∧ (w676.cell? ⟨g196, 2, none⟩ = some (.slice bA b.length bc)) ∧ (w676.cell? ⟨g196, 3, none⟩ = some (.slice tA t.length tc)) ∧ (w676.cell? ⟨g196, 4, none⟩ = some (.int .i64 (((nth a (a.length - 1)).K)))) ∧ (w676.cell? ⟨g196, 5, none⟩ = some (.int .i64 (((nth a (a.length - 1)).N)))) ∧ (w676.cell? ⟨g196, 6, none⟩ = some (.int .i64 (((nth a (a.length - 1)).M)))) ∧ (w676.cell? ⟨g196, 7, none⟩ = some (.string ((nth a (a.length - 1)).S))) ∧ (w676.cell? ⟨g605, 0, none⟩ = some (.func (.func 117) #[] #[.pointer (some ⟨q219, 0, none⟩), .pointer (some ⟨q221, 0, none⟩)])) ∧ (w676.cell? ⟨g605, 1, none⟩ = some (.func (.func 85) #[] #[])) ∧ (True) := ⟨fun k hk => (hS686.get (i := 17) rfl k hk).2, (box_cell (hS686.res (i := 1) rfl) rfl), (box_cell (hS686.res (i := 1) rfl) rfl), (box_cell (hS686.res (i := 1) rfl) rfl), (box_cell (hS686.res (i := 1) rfl) rfl), (box_cell (hS686.res (i := 1) rfl) rfl), (box_cell (hS686.res (i := 1) rfl) rfl), (box_cell (hS686.res (i := 1) rfl) rfl), (box_cell (hS686.res (i := 5) rfl) rfl), (box_cell (hS686.res (i := 5) rfl) rfl), trivial⟩
                refine ⟨hSw687, ?_⟩
                refine d_take (i := 8) rfl (by kernel_rfl) (by kernel_rfl) (by kernel_rfl) (fun c a w h => hP645 c _ _ _ _ h) rfl (by decide) hR677 (want_n rfl) (fun x hx => r_extract (st_yield hR677 rfl (by decide)) hR677 rfl rfl rfl rfl (by decide) (fun _ h => ⟨h.get _ _ rfl, rfl⟩)) hSw687 (fun a688 hR689 => ?_)
                refine d_take (i := 9) rfl (by kernel_rfl) (by kernel_rfl) (by kernel_rfl) (fun c a w h => hP645 c _ _ _ _ h) rfl (by decide) hR689 (want_n rfl) (fun x hx => r_extract (st_yield hR689 rfl (by decide)) hR689 rfl rfl rfl rfl (by decide) (fun _ h => ⟨h.get _ _ rfl, rfl⟩)) hSw687 (fun a690 hR691 => ?_)
                refine d_take (i := 10) rfl (by kernel_rfl) (by kernel_rfl) (by kernel_rfl) (fun c a w h => hP645 c _ _ _ _ h) rfl (by decide) hR691 (want_n rfl) (fun x hx => r_assign (st_yield hR691 rfl (by decide)) hR691 rfl rfl rfl (by decide) (fun _ h => ⟨h.get _ _ rfl, rfl⟩)) hSw687 (fun a692 hR693 => ?_)
                refine d_take (i := 11) rfl (by kernel_rfl) (by kernel_rfl) (by kernel_rfl) (fun c a w h => hP645 c _ _ _ _ h) rfl (by decide) hR693 (want_n rfl) (fun x hx => r_assign (st_yield hR693 rfl (by decide)) hR693 rfl rfl rfl (by decide) (fun _ h => ⟨h.get _ _ rfl, rfl⟩)) hSw687 (fun a694 hR695 => ?_)
                refine wpAnyH_done (by kernel_rfl) (hN646 _ _ ?_) _
                refine x_then_n (hK638 _ _ ?_)
                refine wp_ret ?_
                refine x_block_r ?_
                refine x_then_r ?_
                refine x_then_r ?_
                refine x_block_r ?_
                refine x_then_r ?_
                refine e_ret2 hR695 rfl rfl rfl ?_
                have he696 : (if ¬ (if ¬ chk a = 0 then chk a else if ¬ chk b = 0 then chk b else chk t) = 0 then [] else if (nth t (t.length - 1)).K = 29 then [(⟨29, 0, 0, ⟨#[]⟩⟩ : Nd)] else t) = (if (if (((((0))))) = 0 then chk t else (((((0)))))) = 0 then t else []) := by simp [h69, h114, h159, h355, chk_tick]
                rw [he696]
                refine ⟨A680, c681, ?_, hS686.fr, ⟨by have := (hS686.row (i := 19) rfl).1; exact this, ((hS686.row (i := 19) rfl).2.mono (fun _ hk => ⟨imm_nxt hk, rfl⟩))⟩⟩
                exact ret_t2 rfl (ret_i (by (simp [h69, h114, h159, h355, chk_tick])))
              · skip
                have hq697 := h629
                try simp only [Bool.or_eq_true, Bool.and_eq_true, Bool.not_eq_true', Bool.not_eq_false', decide_eq_true_eq, decide_eq_false_iff_not, Bool.or_eq_false_iff, Bool.and_eq_false_iff] at hq697
                exfalso; obtain ⟨z1, z2⟩ := hq h69 h114 h159 h355; have y0 := h401; have y1 := h515; have y2 := h629; simp [z2] at *; omega
      · skip
        have hR698 := hR158.setb (d := 26) (b := true) rfl (by rw [(decide_eq_false h159)]; rfl)
        refine wp_cond_true (hR698.ev rfl) ?_
        refine wp_seq_k (fun K699 hK700 => ?_)
        refine c_region ?_
        refine r_move (st_listV rfl) hR698 rfl rfl rfl (by decide) (fun a701 hR702 => ?_)
        refine r_assign (st_listV rfl) hR702 rfl rfl rfl (by decide) (fun a703 hR704 => ?_)
        refine r_assign (st_listV rfl) hR704 rfl rfl rfl (by decide) (fun a705 hR706 => ?_)
        refine wpList_nil ?_
        refine x_then_n (hK700 _ _ ?_)
        refine wp_ret ?_
        refine x_block_r ?_
        refine x_then_r ?_
        refine x_then_r ?_
        refine x_block_r ?_
        refine x_then_r ?_
        refine e_ret2 hR706 rfl rfl rfl ?_
        have he707 : (if ¬ (if ¬ chk a = 0 then chk a else if ¬ chk b = 0 then chk b else chk t) = 0 then [] else if (nth t (t.length - 1)).K = 29 then [(⟨29, 0, 0, ⟨#[]⟩⟩ : Nd)] else t) = [] := by simp [h69, h114, h159, chk_tick]
        rw [he707]
        refine ⟨none, 0, ?_, hS150.fr, ⟨Nat.le_refl _, RowI.nil _ _ _ _⟩⟩
        exact ret_t2 rfl (ret_i (by (simp [h69, h114, h159, chk_tick])))
    · skip
      have hR708 := hR113.setb (d := 26) (b := true) rfl (by rw [(decide_eq_false h114)]; rfl)
      refine wp_cond_true (hR708.ev rfl) ?_
      refine wp_seq_k (fun K709 hK710 => ?_)
      refine c_region ?_
      refine r_move (st_listV rfl) hR708 rfl rfl rfl (by decide) (fun a711 hR712 => ?_)
      refine r_assign (st_listV rfl) hR712 rfl rfl rfl (by decide) (fun a713 hR714 => ?_)
      refine r_assign (st_listV rfl) hR714 rfl rfl rfl (by decide) (fun a715 hR716 => ?_)
      refine wpList_nil ?_
      refine x_then_n (hK710 _ _ ?_)
      refine wp_ret ?_
      refine x_block_r ?_
      refine x_then_r ?_
      refine x_then_r ?_
      refine x_block_r ?_
      refine x_then_r ?_
      refine e_ret2 hR716 rfl rfl rfl ?_
      have he717 : (if ¬ (if ¬ chk a = 0 then chk a else if ¬ chk b = 0 then chk b else chk t) = 0 then [] else if (nth t (t.length - 1)).K = 29 then [(⟨29, 0, 0, ⟨#[]⟩⟩ : Nd)] else t) = [] := by simp [h69, h114, chk_tick]
      rw [he717]
      refine ⟨none, 0, ?_, hS105.fr, ⟨Nat.le_refl _, RowI.nil _ _ _ _⟩⟩
      exact ret_t2 rfl (ret_i (by (simp [h69, h114, chk_tick])))
  · skip
    have hR718 := hR68.setb (d := 26) (b := true) rfl (by rw [(decide_eq_false h69)]; rfl)
    refine wp_cond_true (hR718.ev rfl) ?_
    refine wp_seq_k (fun K719 hK720 => ?_)
    refine c_region ?_
    refine r_move (st_listV rfl) hR718 rfl rfl rfl (by decide) (fun a721 hR722 => ?_)
    refine r_assign (st_listV rfl) hR722 rfl rfl rfl (by decide) (fun a723 hR724 => ?_)
    refine r_assign (st_listV rfl) hR724 rfl rfl rfl (by decide) (fun a725 hR726 => ?_)
    refine wpList_nil ?_
    refine x_then_n (hK720 _ _ ?_)
    refine wp_ret ?_
    refine x_block_r ?_
    refine x_then_r ?_
    refine x_then_r ?_
    refine x_block_r ?_
    refine x_then_r ?_
    refine e_ret2 hR726 rfl rfl rfl ?_
    have he727 : (if ¬ (if ¬ chk a = 0 then chk a else if ¬ chk b = 0 then chk b else chk t) = 0 then [] else if (nth t (t.length - 1)).K = 29 then [(⟨29, 0, 0, ⟨#[]⟩⟩ : Nd)] else t) = [] := by simp [h69, chk_tick]
    rw [he727]
    refine ⟨none, 0, ?_, hS60.fr, ⟨Nat.le_refl _, RowI.nil _ _ _ _⟩⟩
    exact ret_t2 rfl (ret_i (by (simp [h69, chk_tick])))
end Go.Proofs.YtobgdeffhdefeaaDoor
