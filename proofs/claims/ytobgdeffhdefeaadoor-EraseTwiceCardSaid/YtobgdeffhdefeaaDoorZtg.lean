import Derived.Test.YtobgdeffhdefeaaDoorZtf
import Derived.Test.YtobgdeffhdefeaaDoorCards
import Derived.Test.YtobgdeffhdefeaaDoorTie
import Derived.ProofKit
import Derived.OpenShut
import Derived.ReadAgain
import Derived.Deep.DeepHandedRow
import Derived.Deep.Slices
import Derived.Lib.LaidTab
import Derived.Deep.DeepWitnessRowRef
/- Contracts of functions, one theorem each: what the call returns, and that nothing old is changed. Printed by gen.py. -/
namespace Go.Proofs.YtobgdeffhdefeaaDoor
open Go Go.RowKit
set_option linter.unusedSimpArgs false
set_option linter.unusedVariables false

set_option maxRecDepth 100000 in
set_option maxHeartbeats 1000000 in
theorem rwhole_calls (w0 : World) (Z : Nat → Prop) (hZ : ∀ k, Z k → k < w0.heap.size) (tA : Option Addr) (tc : Nat) (t : List Nd) (ht : (dRow 4 tA t.length tc (encNs t)).φ w0 Z) (hl : t.length ≤ 1000000) (hsm : sml t) :
    Calls Tryd.prog 46 [.slice tA t.length tc].toArray w0 (fun e w' => e = .returned (.bool (measB t)) ∧ Fr none_ w0 w') := by
  have hstart : ∀ k, Z k → imm Z w0 [] w0 k ∧ w0.heap[k]? = w0.heap[k]? := fun k hk => ⟨⟨hZ k hk, fun _ => hk, fun _ h => by cases h⟩, rfl⟩
  have hS3 : St w0 Z none_ w0 [] [dRow 4 tA t.length tc (encNs t)] := St.start w0 Z none_ _ (by
    intro d hd
    simp only [List.mem_cons, List.not_mem_nil, or_false] at hd
    rcases hd with rfl
    · exact Dat.mono _ _ _ _ _ (Nat.le_refl _) ht hstart
    )
  refine c_enter Tryd.func46 rfl Tryd.ntmps46 rfl (fun a1 hR2 => ?_)
  refine wp_seq_k (fun K4 hK5 => ?_)
  refine c_region ?_
  refine r_assign (st_listV rfl) hR2 rfl rfl rfl (by decide) (fun a6 hR7 => ?_)
  refine wpList_nil ?_
  refine x_then_n (hK5 _ _ ?_)
  refine wp_seq_k (fun K8 hK9 => ?_)
  refine c_region ?_
  refine r_assign (st_listV rfl) hR7 rfl rfl rfl (by decide) (fun a10 hR11 => ?_)
  refine wpList_nil ?_
  refine x_then_n (hK9 _ _ ?_)
  refine wp_seq_k (fun K12 hK13 => ?_)
  refine wp_seq_k (fun K14 hK15 => ?_)
  refine c_region ?_
  refine r_assign (st_listV rfl) hR11 rfl rfl rfl (by decide) (fun a16 hR17 => ?_)
  refine wpList_nil ?_
  refine x_then_n (hK15 _ _ ?_)
  refine wp_block ?_
  refine wp_loop_ghost (fun gn ga gw => ∃ k : Nat, ∃ st : List T, (Reg ga 36 [(1000000, .bool false), (0, .slice tA t.length tc), (4, .int .i64 ((k : Nat) : Int)), (3, .int .i64 ((st.length : Nat) : Int))]) ∧ (St w0 Z none_ gw [] [dRow 4 tA t.length tc (encNs t)]) ∧ (k ≤ t.length) ∧ (scanT [] (t.take k) = some st) ∧ (t.length - k) = gn) _ ⟨0, [], (Reg.cons hR17 (Reg.cons hR17 (Reg.cons hR17 (Reg.cons hR17 (hR17.nil) rfl) rfl) rfl) rfl), hS3, by omega, rfl, rfl⟩ ?_
  rintro r18 a19 w20 ⟨k, st, hR21, hS22, hk, hsc, hn23⟩
  have hfl := scan_flats hsc hk
  have hsl := flats_len_ge st
  have hbl := bindL_le (nth t k)
  refine wp_seq_k (fun K24 hK25 => ?_)
  refine wp_seq_k (fun K26 hK27 => ?_)
  refine c_region ?_
  refine r_move (st_listV rfl) hR21 rfl rfl rfl (by decide) (fun a28 hR29 => ?_)
  refine r_move (st_listV rfl) hR29 rfl rfl rfl (by decide) (fun a30 hR31 => ?_)
  refine r_len (st_listV rfl) hR31 rfl rfl rfl rfl Tryd.underlying22 (by decide) (fun a32 hR33 => ?_)
  refine r_lss (st_listV rfl) hR33 rfl rfl rfl rfl (by decide) (fun a34 hR35 => ?_)
  refine wpList_nil ?_
  refine x_then_n (hK27 _ _ ?_)
  rcases Decidable.em (((k : Nat) : Int) < ((t.length : Nat) : Int)) with h36 | h36
  · skip
    have hR37 := hR35.setb (d := 10) (b := true) rfl (decide_eq_true h36)
    refine wp_cond_true (hR37.ev rfl) ?_
    refine wp_skip ?_
    refine x_then_n (hK25 _ _ ?_)
    refine wp_seq_k (fun K38 hK39 => ?_)
    refine wp_block ?_
    refine wp_seq_k (fun K40 hK41 => ?_)
    refine c_region ?_
    refine r_move (st_listV rfl) hR37 rfl rfl rfl (by decide) (fun a42 hR43 => ?_)
    refine r_move (st_listV rfl) hR43 rfl rfl rfl (by decide) (fun a44 hR45 => ?_)
    refine m_index (i := k) (j := k * 4) (st_listV rfl) hR45 rfl rfl rfl rfl Tryd.underlying22 sz32 (by omega) (by omega) (nds_elem (t := t) (k := k) (hS22.row (i := 0) rfl).2 (by omega)).some_ rfl (by decide) (fun a46 hR47 => ?_)
    refine m_loadEN (st_listV rfl) hR47 rfl rfl rfl (nds_elem (t := t) (k := k) (hS22.row (i := 0) rfl).2 (by omega)) Tryd.underlying32 rfl sz32 (by decide) (fun a48 hR49 => ?_)
    have hS50 : St w0 Z none_ w20 [] [dRow 4 tA t.length tc (encNs t)] := hS22
    refine k_call (xs := [.tmp 17]) (st_list rfl) hR49 rfl rfl rfl (by decide) ok56 (rbinds_calls _ (imm Z w0 [] _) (fun _ h => h.1) (nth t k) (hsm _ (by omega))) ?_
    rintro e60 w52 ⟨A56, c57, rfl, hf55, hd58⟩
    have hS61 := hS50.below hf55.below
    have hS62 := hS61.data (dRow 1 A56 ((bindL (nth t k)).length) c57 (encIs (bindL (nth t k)))) ⟨hd58.1, hd58.2.mono (fun _ hk => ⟨nxt_imm hS50 hk, rfl⟩)⟩
    refine ⟨_, rfl, fun a51 hR53 => ?_⟩
    refine r_move (st_listV rfl) hR53 rfl rfl rfl (by decide) (fun a63 hR64 => ?_)
    refine r_extract (st_listV rfl) hR64 rfl rfl rfl rfl (by decide) (fun a65 hR66 => ?_)
    refine r_extract (st_listV rfl) hR66 rfl rfl rfl rfl (by decide) (fun a67 hR68 => ?_)
    refine r_assign (st_listV rfl) hR68 rfl rfl rfl (by decide) (fun a69 hR70 => ?_)
    refine r_assign (st_listV rfl) hR70 rfl rfl rfl (by decide) (fun a71 hR72 => ?_)
    refine wpList_nil ?_
    refine x_then_n (hK41 _ _ ?_)
    refine wp_seq_k (fun K73 hK74 => ?_)
    refine wp_seq_k (fun K75 hK76 => ?_)
    refine c_region ?_
    refine r_move (st_listV rfl) hR72 rfl rfl rfl (by decide) (fun a77 hR78 => ?_)
    refine r_not (st_listV rfl) hR78 rfl rfl rfl (by decide) (fun a79 hR80 => ?_)
    refine r_move (st_listV rfl) hR80 rfl rfl rfl (by decide) (fun a81 hR82 => ?_)
    refine l_join (fun ga gw => Reg ga 36 [(0, .slice tA t.length tc), (3, .int .i64 ((st.length : Nat) : Int)), (4, .int .i64 ((k : Nat) : Int)), (5, .slice A56 ((bindL (nth t k)).length) c57), (28, .bool ((!(right (nth t k))) || (decide (((st.length : Nat) : Int) < (((bindL (nth t k)).length : Nat) : Int))))), (1000000, .bool false)] ∧ St w0 Z none_ gw [] [dRow 4 tA t.length tc (encNs t), dRow 1 A56 ((bindL (nth t k)).length) c57 (encIs (bindL (nth t k)))]) 5 ?_ ?_
    · skip
      rcases Bool.eq_false_or_eq_true (right (nth t k)) with h83 | h83
      · skip
        have hR84 := hR82.setb (d := 23) (b := false) rfl (by rw [h83]; rfl)
        refine r_move (st_listV_w (want_t hR84 rfl rfl rfl (by decide) rfl)) hR84 rfl rfl rfl (by decide) (fun a85 hR86 => ?_)
        refine r_len (st_listV_w (want_t hR86 rfl rfl rfl (by decide) rfl)) hR86 rfl rfl rfl rfl Tryd.underlying66 (by decide) (fun a87 hR88 => ?_)
        refine r_move (st_listV_w (want_t hR88 rfl rfl rfl (by decide) rfl)) hR88 rfl rfl rfl (by decide) (fun a89 hR90 => ?_)
        refine r_gtr (st_listV_w (want_t hR90 rfl rfl rfl (by decide) rfl)) hR90 rfl rfl rfl rfl (by decide) (fun a91 hR92 => ?_)
        refine r_pick_f (st_listV rfl) hR92 rfl rfl rfl rfl (by decide) (fun a93 hR94 => ?_)
        refine wpList_nil ?_
        exact x_then_n ⟨(Reg.cons hR94 (Reg.cons hR94 (Reg.cons hR94 (Reg.cons hR94 (Reg.consb hR94 (Reg.cons hR94 (hR94.nil) rfl) rfl (by first | rfl | (simp only [h83, Bool.true_and, Bool.and_true, Bool.false_and, Bool.and_false, Bool.true_or, Bool.or_true, Bool.false_or, Bool.or_false, Bool.not_true, Bool.not_false, if_true, ite_true, ite_false, Bool.false_eq_true]; done) | (simp [h83]; done) | (simp [h83]; omega))) rfl) rfl) rfl) rfl), hS62⟩
      · skip
        have hR95 := hR82.setb (d := 23) (b := true) rfl (by rw [h83]; rfl)
        refine s_pass hR95 rfl (by decide) (want_f hR95 rfl rfl rfl (by decide) rfl rfl) (fun a96 hR97 => ?_)
        refine s_pass hR97 rfl (by decide) (want_f hR97 rfl rfl rfl (by decide) rfl rfl) (fun a98 hR99 => ?_)
        refine s_pass hR99 rfl (by decide) (want_f hR99 rfl rfl rfl (by decide) rfl rfl) (fun a100 hR101 => ?_)
        refine s_pass hR101 rfl (by decide) (want_f hR101 rfl rfl rfl (by decide) rfl rfl) (fun a102 hR103 => ?_)
        refine r_pick_t (st_listV rfl) hR103 rfl rfl rfl rfl (by decide) (fun a104 hR105 => ?_)
        refine wpList_nil ?_
        exact x_then_n ⟨(Reg.cons hR105 (Reg.cons hR105 (Reg.cons hR105 (Reg.cons hR105 (Reg.consb hR105 (Reg.cons hR105 (hR105.nil) rfl) rfl (by first | rfl | (simp only [h83, Bool.true_and, Bool.and_true, Bool.false_and, Bool.and_false, Bool.true_or, Bool.or_true, Bool.false_or, Bool.or_false, Bool.not_true, Bool.not_false, if_true, ite_true, ite_false, Bool.false_eq_true]; done) | (simp [h83]; done) | (simp [h83]; omega))) rfl) rfl) rfl) rfl), hS62⟩
    rintro a106 w107 ⟨hR108, hS109⟩
    refine wpList_nil ?_
    refine x_then_n (hK76 _ _ ?_)
    rcases Bool.eq_false_or_eq_true (((!(right (nth t k))) || (decide (((st.length : Nat) : Int) < (((bindL (nth t k)).length : Nat) : Int))))) with h110 | h110
    · skip
      have hq111 := h110
      try simp only [Bool.or_eq_true, Bool.and_eq_true, Bool.not_eq_true', Bool.not_eq_false', decide_eq_true_eq, decide_eq_false_iff_not, Bool.or_eq_false_iff, Bool.and_eq_false_iff] at hq111
      have hR112 := hR108.setb (d := 28) (b := true) rfl h110
      refine wp_cond_true (hR112.ev rfl) ?_
      refine wp_seq_k (fun K113 hK114 => ?_)
      refine c_region ?_
      refine r_assign (st_listV rfl) hR112 rfl rfl rfl (by decide) (fun a115 hR116 => ?_)
      refine wpList_nil ?_
      refine x_then_n (hK114 _ _ ?_)
      refine wp_ret ?_
      refine x_then_r ?_
      refine x_block_r ?_
      refine x_then_r ?_
      refine x_then_r ?_
      refine x_block_r ?_
      refine x_then_r ?_
      refine e_ret1 hR116 rfl rfl rfl ?_
      refine ⟨?_, hS109.fr⟩
      exact congrArg Ending.returned (ret_b (by exact (whole_no hsc (by omega) hq111).symm))
    · skip
      have h117 := or_fl h110
      have h118 := not_f h117
      have h119 := or_fr h110
      have h120 := of_decide_eq_false h119
      have hbm := bindL_many (n := nth t k) (by assumption)
      have hR121 := hR108.setb (d := 28) (b := false) rfl h110
      refine wp_cond_false (hR121.ev rfl) ?_
      refine wp_skip ?_
      refine x_then_n (hK74 _ _ ?_)
      refine c_region ?_
      refine r_move (st_listV rfl) hR121 rfl rfl rfl (by decide) (fun a122 hR123 => ?_)
      refine r_move (st_listV rfl) hR123 rfl rfl rfl (by decide) (fun a124 hR125 => ?_)
      refine r_len (st_listV rfl) hR125 rfl rfl rfl rfl Tryd.underlying66 (by decide) (fun a126 hR127 => ?_)
      refine r_sub (z := (((st.length : Nat) : Int) - (((bindL (nth t k)).length : Nat) : Int))) (st_listV rfl) hR127 rfl rfl rfl rfl (by decide) (by omega) (by omega) (by omega) (fun a128 hR129 => ?_)
      refine r_add (z := (((st.length : Nat) : Int) - (((bindL (nth t k)).length : Nat) : Int) + 1)) (st_listV rfl) hR129 rfl rfl rfl rfl (by decide) (by omega) (by omega) (by omega) (fun a130 hR131 => ?_)
      refine r_assign (st_listV rfl) hR131 rfl rfl rfl (by decide) (fun a132 hR133 => ?_)
      refine wpList_nil ?_
      refine x_block_n ?_
      refine x_then_n (hK39 _ _ ?_)
      refine c_region ?_
      refine r_move (st_listV rfl) hR133 rfl rfl rfl (by decide) (fun a134 hR135 => ?_)
      refine r_add (z := ((k + 1 : Nat) : Int)) (st_listV rfl) hR135 rfl rfl rfl rfl (by decide) (by omega) (by omega) (by omega) (fun a136 hR137 => ?_)
      refine r_assign (st_listV rfl) hR137 rfl rfl rfl (by decide) (fun a138 hR139 => ?_)
      refine wpList_nil ?_
      obtain ⟨st', hp, hpl⟩ := push_some (st := st) (n := nth t k) (by assumption) (by omega)
      have hS140 := hS109.forget 1
      exact ⟨_, by omega, k + 1, st', (Reg.cons hR139 (Reg.cons hR139 (Reg.cons hR139 (Reg.consi hR139 (hR139.nil) rfl (by rw [hpl]; omega)) rfl) rfl) rfl), hS140, by omega, (scan_step hsc (by omega)).trans hp, rfl⟩
  · skip
    have hR141 := hR35.setb (d := 10) (b := false) rfl (decide_eq_false h36)
    refine wp_cond_false (hR141.ev rfl) ?_
    refine wp_exit ?_
    refine x_then_e ?_
    refine x_then_e ?_
    refine x_block_eq ?_
    refine x_then_n (hK13 _ _ ?_)
    refine wp_seq_k (fun K142 hK143 => ?_)
    refine c_region ?_
    refine r_move (st_listV rfl) hR141 rfl rfl rfl (by decide) (fun a144 hR145 => ?_)
    refine r_eql (st_listV rfl) hR145 rfl rfl rfl rfl (by decide) (fun a146 hR147 => ?_)
    refine r_assign (st_listV rfl) hR147 rfl rfl rfl (by decide) (fun a148 hR149 => ?_)
    refine wpList_nil ?_
    refine x_then_n (hK143 _ _ ?_)
    refine wp_ret ?_
    refine e_ret1 hR149 rfl rfl rfl ?_
    refine ⟨?_, hS22.fr⟩
    exact congrArg Ending.returned (ret_b (by first | (rw [measB_end (by rw [← hsc, List.take_of_length_le (by omega)])]; done) | (rw [measB_end (by rw [← hsc, List.take_of_length_le (by omega)])]; simp; done)))

set_option maxRecDepth 100000 in
set_option maxHeartbeats 1000000 in
theorem rdeeper_calls (w0 : World) (Z : Nat → Prop) (hZ : ∀ k, Z k → k < w0.heap.size) (tA : Option Addr) (tc : Nat) (t : List Nd) (ht : (dRow 4 tA t.length tc (encNs t)).φ w0 Z) (hl : t.length ≤ 4000) (hsm : sml t) (hb : measB t = true) :
    Calls Tryd.prog 47 [.slice tA t.length tc].toArray w0 (fun e w' => e = .returned (.bool (deepB t)) ∧ Fr none_ w0 w') := by
  have hstart : ∀ k, Z k → imm Z w0 [] w0 k ∧ w0.heap[k]? = w0.heap[k]? := fun k hk => ⟨⟨hZ k hk, fun _ => hk, fun _ h => by cases h⟩, rfl⟩
  have hS3 : St w0 Z none_ w0 [] [dRow 4 tA t.length tc (encNs t)] := St.start w0 Z none_ _ (by
    intro d hd
    simp only [List.mem_cons, List.not_mem_nil, or_false] at hd
    rcases hd with rfl
    · exact Dat.mono _ _ _ _ _ (Nat.le_refl _) ht hstart
    )
  refine c_enter Tryd.func47 rfl Tryd.ntmps47 rfl (fun a1 hR2 => ?_)
  refine wp_seq_k (fun K4 hK5 => ?_)
  refine c_region ?_
  refine r_assign (st_listV rfl) hR2 rfl rfl rfl (by decide) (fun a6 hR7 => ?_)
  refine wpList_nil ?_
  refine x_then_n (hK5 _ _ ?_)
  refine wp_seq_k (fun K8 hK9 => ?_)
  refine c_region ?_
  refine m_buildSlice (ps := []) (cs := []) (st_listV rfl) hR7 hS3 rfl rfl rfl Tryd.underlying66 zi3 rfl rfl (by kernel_rfl) rfl (by decide) (fun a10 w11 g12 hR13 hS14 => ?_)
  refine r_assign (st_listV rfl) hR13 rfl rfl rfl (by decide) (fun a15 hR16 => ?_)
  refine wpList_nil ?_
  refine x_then_n (hK9 _ _ ?_)
  refine wp_seq_k (fun K17 hK18 => ?_)
  refine wp_seq_k (fun K19 hK20 => ?_)
  refine c_region ?_
  refine r_assign (st_listV rfl) hR16 rfl rfl rfl (by decide) (fun a21 hR22 => ?_)
  refine wpList_nil ?_
  refine x_then_n (hK20 _ _ ?_)
  refine wp_block ?_
  refine wp_loop_ghost (fun gn ga gw => ∃ k : Nat, ∃ st : List T, ∃ Al : Option Addr, ∃ cl : Nat, (Reg ga 51 [(1000000, .bool false), (0, .slice tA t.length tc), (4, .int .i64 ((k : Nat) : Int)), (3, .slice Al ((dl st).length) cl)]) ∧ (St w0 Z none_ gw [.row Al ((dl st).length) cl 3 1 (encIs (dl st))] [dRow 4 tA t.length tc (encNs t)]) ∧ (k ≤ t.length) ∧ (scanT [] (t.take k) = some st) ∧ (shallow st) ∧ (t.length - k) = gn) _ ⟨0, [], (some ⟨g12, 0, none⟩), 0, (Reg.cons hR22 (Reg.cons hR22 (Reg.cons hR22 (Reg.cons hR22 (hR22.nil) rfl) rfl) rfl) rfl), hS14, by omega, rfl, (fun _ h => by cases h), rfl⟩ ?_
  rintro r23 a24 w25 ⟨k, st, Al, cl, hR26, hS27, hk, hsc, hsh, hn28⟩
  have hfl := scan_flats hsc hk
  have hsl := flats_len_ge st
  have hdl := dl_length st
  refine wp_seq_k (fun K29 hK30 => ?_)
  refine wp_seq_k (fun K31 hK32 => ?_)
  refine c_region ?_
  refine r_move (st_listV rfl) hR26 rfl rfl rfl (by decide) (fun a33 hR34 => ?_)
  refine r_move (st_listV rfl) hR34 rfl rfl rfl (by decide) (fun a35 hR36 => ?_)
  refine r_len (st_listV rfl) hR36 rfl rfl rfl rfl Tryd.underlying22 (by decide) (fun a37 hR38 => ?_)
  refine r_lss (st_listV rfl) hR38 rfl rfl rfl rfl (by decide) (fun a39 hR40 => ?_)
  refine wpList_nil ?_
  refine x_then_n (hK32 _ _ ?_)
  rcases Decidable.em (((k : Nat) : Int) < ((t.length : Nat) : Int)) with h41 | h41
  · skip
    obtain ⟨hrk, hmk⟩ := measB_at hb hsc (by omega)
    have hbm := bindL_many hrk
    have hR42 := hR40.setb (d := 13) (b := true) rfl (decide_eq_true h41)
    refine wp_cond_true (hR42.ev rfl) ?_
    refine wp_skip ?_
    refine x_then_n (hK30 _ _ ?_)
    refine wp_seq_k (fun K43 hK44 => ?_)
    refine wp_block ?_
    refine wp_seq_k (fun K45 hK46 => ?_)
    refine c_region ?_
    refine r_move (st_listV rfl) hR42 rfl rfl rfl (by decide) (fun a47 hR48 => ?_)
    refine r_move (st_listV rfl) hR48 rfl rfl rfl (by decide) (fun a49 hR50 => ?_)
    refine m_index (i := k) (j := k * 4) (st_listV rfl) hR50 rfl rfl rfl rfl Tryd.underlying22 sz32 (by omega) (by omega) (nds_elem (t := t) (k := k) (hS27.row (i := 0) rfl).2 (by omega)).some_ rfl (by decide) (fun a51 hR52 => ?_)
    refine m_loadEN (st_listV rfl) hR52 rfl rfl rfl (nds_elem (t := t) (k := k) (hS27.row (i := 0) rfl).2 (by omega)) Tryd.underlying32 rfl sz32 (by decide) (fun a53 hR54 => ?_)
    have hS55 : St w0 Z none_ w25 [.row Al ((dl st).length) cl 3 1 (encIs (dl st))] [dRow 4 tA t.length tc (encNs t)] := hS27
    refine k_call (xs := [.tmp 20]) (st_list rfl) hR54 rfl rfl rfl (by decide) ok56 (rbinds_calls _ (imm Z w0 [.row Al ((dl st).length) cl 3 1 (encIs (dl st))] _) (fun _ h => h.1) (nth t k) (hsm _ (by omega))) ?_
    rintro e65 w57 ⟨A61, c62, rfl, hf60, hd63⟩
    have hS66 := hS55.below hf60.below
    have hS67 := hS66.data (dRow 1 A61 ((bindL (nth t k)).length) c62 (encIs (bindL (nth t k)))) ⟨hd63.1, hd63.2.mono (fun _ hk => ⟨nxt_imm hS55 hk, rfl⟩)⟩
    refine ⟨_, rfl, fun a56 hR58 => ?_⟩
    refine r_move (st_listV rfl) hR58 rfl rfl rfl (by decide) (fun a68 hR69 => ?_)
    refine r_extract (st_listV rfl) hR69 rfl rfl rfl rfl (by decide) (fun a70 hR71 => ?_)
    refine r_extract (st_listV rfl) hR71 rfl rfl rfl rfl (by decide) (fun a72 hR73 => ?_)
    refine r_assign (st_listV rfl) hR73 rfl rfl rfl (by decide) (fun a74 hR75 => ?_)
    refine r_assign (st_listV rfl) hR75 rfl rfl rfl (by decide) (fun a76 hR77 => ?_)
    refine wpList_nil ?_
    refine x_then_n (hK46 _ _ ?_)
    refine wp_seq_k (fun K78 hK79 => ?_)
    refine c_region ?_
    refine r_assign (st_listV rfl) hR77 rfl rfl rfl (by decide) (fun a80 hR81 => ?_)
    refine wpList_nil ?_
    refine x_then_n (hK79 _ _ ?_)
    refine wp_seq_k (fun K82 hK83 => ?_)
    refine wp_seq_k (fun K84 hK85 => ?_)
    refine c_region ?_
    refine r_assign (st_listV rfl) hR81 rfl rfl rfl (by decide) (fun a86 hR87 => ?_)
    refine wpList_nil ?_
    refine x_then_n (hK85 _ _ ?_)
    refine wp_block ?_
    refine wp_loop_ghost (fun gn ga gw => ∃ j : Nat, (Reg ga 51 [(1000000, .bool false), (0, .slice tA t.length tc), (4, .int .i64 ((k : Nat) : Int)), (5, .slice A61 ((bindL (nth t k)).length) c62), (8, .int .i64 ((j : Nat) : Int)), (7, .int .i64 ((maxB st j))), (3, .slice Al ((dl st).length - j) cl)]) ∧ (St w0 Z none_ gw [.row Al ((dl st).length) cl 3 1 (encIs (dl st))] [dRow 4 tA t.length tc (encNs t), dRow 1 A61 ((bindL (nth t k)).length) c62 (encIs (bindL (nth t k)))]) ∧ (j ≤ many (nth t k)) ∧ (many (nth t k) - j) = gn) _ ⟨0, (Reg.cons hR87 (Reg.cons hR87 (Reg.cons hR87 (Reg.cons hR87 (Reg.cons hR87 (Reg.consi hR87 (Reg.cons hR87 (hR87.nil) rfl) rfl (by rw [maxB_zero])) rfl) rfl) rfl) rfl) rfl), hS67, by omega, rfl⟩ ?_
    rintro r88 a89 w90 ⟨j, hR91, hS92, hj, hn93⟩
    have hmx := maxB_le (st := st) (j := j)
    refine wp_seq_k (fun K94 hK95 => ?_)
    refine wp_seq_k (fun K96 hK97 => ?_)
    refine c_region ?_
    refine r_move (st_listV rfl) hR91 rfl rfl rfl (by decide) (fun a98 hR99 => ?_)
    refine r_move (st_listV rfl) hR99 rfl rfl rfl (by decide) (fun a100 hR101 => ?_)
    refine r_len (st_listV rfl) hR101 rfl rfl rfl rfl Tryd.underlying66 (by decide) (fun a102 hR103 => ?_)
    refine r_lss (st_listV rfl) hR103 rfl rfl rfl rfl (by decide) (fun a104 hR105 => ?_)
    refine wpList_nil ?_
    refine x_then_n (hK97 _ _ ?_)
    rcases Decidable.em (((j : Nat) : Int) < (((bindL (nth t k)).length : Nat) : Int)) with h106 | h106
    · skip
      have hR107 := hR105.setb (d := 27) (b := true) rfl (decide_eq_true h106)
      refine wp_cond_true (hR107.ev rfl) ?_
      refine wp_skip ?_
      refine x_then_n (hK95 _ _ ?_)
      refine wp_seq_k (fun K108 hK109 => ?_)
      refine wp_block ?_
      refine wp_seq_k (fun K110 hK111 => ?_)
      refine c_region ?_
      refine r_move (st_listV rfl) hR107 rfl rfl rfl (by decide) (fun a112 hR113 => ?_)
      refine r_move (st_listV rfl) hR113 rfl rfl rfl (by decide) (fun a114 hR115 => ?_)
      refine r_move (st_listV rfl) hR115 rfl rfl rfl (by decide) (fun a116 hR117 => ?_)
      refine r_len (st_listV rfl) hR117 rfl rfl rfl rfl Tryd.underlying66 (by decide) (fun a118 hR119 => ?_)
      refine r_sub (z := ((((dl st).length - j : Nat) : Int) - 1)) (st_listV rfl) hR119 rfl rfl rfl rfl (by decide) (by omega) (by omega) (by omega) (fun a120 hR121 => ?_)
      refine m_index (i := ((dl st).length - j) - (1)) (j := (((dl st).length - j) - (1)) * 1) (st_listV rfl) hR121 rfl rfl rfl rfl Tryd.underlying66 sz3 (by omega) (by omega) (own_ints (t := dl st) (k := ((dl st).length - j) - (1)) (hS92.res (i := 0) rfl) (by omega)).some_ rfl (by decide) (fun a122 hR123 => ?_)
      refine m_loadE (st_listV rfl) hR123 rfl rfl rfl 0 ((((dl st).length - j) - (1)) * 1) (own_ints (t := dl st) (k := ((dl st).length - j) - (1)) (hS92.res (i := 0) rfl) (by omega)) rfl rfl Tryd.underlying3 rfl (by decide) (fun a124 hR125 => ?_)
      refine r_max (st_listV rfl) hR125 rfl rfl rfl rfl rfl (by decide) (fun a126 hR127 => ?_)
      refine r_assign (st_listV rfl) hR127 rfl rfl rfl (by decide) (fun a128 hR129 => ?_)
      refine wpList_nil ?_
      refine x_then_n (hK111 _ _ ?_)
      refine c_region ?_
      refine r_move (st_listV rfl) hR129 rfl rfl rfl (by decide) (fun a130 hR131 => ?_)
      refine r_move (st_listV rfl) hR131 rfl rfl rfl (by decide) (fun a132 hR133 => ?_)
      refine r_len (st_listV rfl) hR133 rfl rfl rfl rfl Tryd.underlying66 (by decide) (fun a134 hR135 => ?_)
      refine r_sub (z := ((((dl st).length - j : Nat) : Int) - 1)) (st_listV rfl) hR135 rfl rfl rfl rfl (by decide) (by omega) (by omega) (by omega) (fun a136 hR137 => ?_)
      have hcap140 := own_cap (hS92.res (i := 0) rfl)
      refine m_sliceP (q := ((dl st).length - j) - (1)) (st_listV rfl) hR137 rfl rfl rfl rfl (by omega) Tryd.underlying66 sz3 (by omega) (by decide) (fun a141 hR142 => ?_)
      refine r_assign (st_listV rfl) hR142 rfl rfl rfl (by decide) (fun a143 hR144 => ?_)
      refine wpList_nil ?_
      refine x_block_n ?_
      refine x_then_n (hK109 _ _ ?_)
      refine c_region ?_
      refine r_move (st_listV rfl) hR144 rfl rfl rfl (by decide) (fun a145 hR146 => ?_)
      refine r_add (z := ((j + 1 : Nat) : Int)) (st_listV rfl) hR146 rfl rfl rfl rfl (by decide) (by omega) (by omega) (by omega) (fun a147 hR148 => ?_)
      refine r_assign (st_listV rfl) hR148 rfl rfl rfl (by decide) (fun a149 hR150 => ?_)
      refine wpList_nil ?_
      exact ⟨_, by omega, j + 1, (Reg.cons hR150 (Reg.cons hR150 (Reg.cons hR150 (Reg.cons hR150 (Reg.cons hR150 (Reg.consi hR150 (Reg.cons hR150 (hR150.nil) rfl) rfl (by rw [dl_length]; exact (maxB_step (by omega)).symm)) rfl) rfl) rfl) rfl) rfl), hS92, by omega, rfl⟩
    · skip
      have hR151 := hR105.setb (d := 27) (b := false) rfl (decide_eq_false h106)
      refine wp_cond_false (hR151.ev rfl) ?_
      refine wp_exit ?_
      refine x_then_e ?_
      refine x_then_e ?_
      refine x_block_eq ?_
      refine x_then_n (hK83 _ _ ?_)
      refine wp_seq_k (fun K152 hK153 => ?_)
      refine wp_seq_k (fun K154 hK155 => ?_)
      refine c_region ?_
      refine r_move (st_listV rfl) hR151 rfl rfl rfl (by decide) (fun a156 hR157 => ?_)
      refine r_add (z := ((maxB st j) + 1)) (st_listV rfl) hR157 rfl rfl rfl rfl (by decide) (by omega) (by omega) (by omega) (fun a158 hR159 => ?_)
      refine r_gtr (st_listV rfl) hR159 rfl rfl rfl rfl (by decide) (fun a160 hR161 => ?_)
      refine wpList_nil ?_
      refine x_then_n (hK155 _ _ ?_)
      rcases Decidable.em (60 < ((maxB st j) + 1)) with h162 | h162
      · skip
        have hR163 := hR161.setb (d := 45) (b := true) rfl (decide_eq_true h162)
        refine wp_cond_true (hR163.ev rfl) ?_
        refine wp_seq_k (fun K164 hK165 => ?_)
        refine c_region ?_
        refine r_assign (st_listV rfl) hR163 rfl rfl rfl (by decide) (fun a166 hR167 => ?_)
        refine wpList_nil ?_
        refine x_then_n (hK165 _ _ ?_)
        refine wp_ret ?_
        refine x_then_r ?_
        refine x_block_r ?_
        refine x_then_r ?_
        refine x_then_r ?_
        refine x_block_r ?_
        refine x_then_r ?_
        refine e_ret1 hR167 rfl rfl rfl ?_
        refine ⟨?_, hS92.fr⟩
        exact congrArg Ending.returned (ret_b (by exact (deepB_true (k := k) hb hsc (by omega) hrk (by omega) (by rw [← show j = many (nth t k) by omega]; omega)).symm))
      · skip
        have hR168 := hR161.setb (d := 45) (b := false) rfl (decide_eq_false h162)
        refine wp_cond_false (hR168.ev rfl) ?_
        refine wp_skip ?_
        refine x_then_n (hK153 _ _ ?_)
        refine c_region ?_
        refine r_move (st_listV rfl) hR168 rfl rfl rfl (by decide) (fun a169 hR170 => ?_)
        refine r_move (st_listV rfl) hR170 rfl rfl rfl (by decide) (fun a171 hR172 => ?_)
        refine r_add (z := ((maxB st j) + 1)) (st_listV rfl) hR172 rfl rfl rfl rfl (by decide) (by omega) (by omega) (by omega) (fun a173 hR174 => ?_)
        refine m_buildSlice (ps := [(0, .tmp 48)]) (cs := [.int .i64 ((maxB st j) + 1)]) (st_listV rfl) hR174 hS92 rfl rfl rfl Tryd.underlying66 zi3 rfl rfl (by kernel_rfl) rfl (by decide) (fun a175 w176 g177 hR178 hS179 => ?_)
        refine m_appendC (f := encI) (i := 0) (dl st) ([((maxB st j) + 1)]) (st_listV rfl) hR178 hS179 rfl rfl rfl rfl rfl (by omega) encI_len (encI_one _) Tryd.underlying66 zi3 rfl rfl (own_lnews (f := encI) (hS179.res (i := 1) rfl)) rfl (by first | omega | (simp only [List.length_cons, List.length_nil]; omega)) (by decide) (fun a180 w181 A182 c183 hc184 hR185 hS186 => ?_)
        have hl188 : ((dl st).take ((dl st).length - j) ++ ([((maxB st j) + 1)]) : List Int).length = (dl st).length - j + 1 := by first | (simp only [List.length_append, List.length_take, List.length_cons, List.length_nil]; done) | (simp only [List.length_append, List.length_take, List.length_cons, List.length_nil]; omega)
        have hS189 := hS186.erase 1
        refine r_assign (st_listV rfl) hR185 rfl rfl rfl (by decide) (fun a190 hR191 => ?_)
        refine wpList_nil ?_
        refine x_block_n ?_
        refine x_then_n (hK44 _ _ ?_)
        refine c_region ?_
        refine r_move (st_listV rfl) hR191 rfl rfl rfl (by decide) (fun a192 hR193 => ?_)
        refine r_add (z := ((k + 1 : Nat) : Int)) (st_listV rfl) hR193 rfl rfl rfl rfl (by decide) (by omega) (by omega) (by omega) (fun a194 hR195 => ?_)
        refine r_assign (st_listV rfl) hR195 rfl rfl rfl (by decide) (fun a196 hR197 => ?_)
        refine wpList_nil ?_
        obtain ⟨st', hp, hpl⟩ := push_some (st := st) (n := nth t k) hrk (by omega)
        have hpd := (push_dl hp).1
        have hjq : j = many (nth t k) := by omega
        have he198 : (dl st).take ((dl st).length - j) ++ ([((maxB st j) + 1)]) = dl st' := by rw [hpd, hjq, dl_length]
        have hR199 := hR197
        have hS200 := hS189
        rw [he198] at hR199 hS200
        have hS201 := hS200.forget 1
        exact ⟨_, by omega, k + 1, st', A182, c183, (Reg.cons hR199 (Reg.cons hR199 (Reg.cons hR199 (Reg.cons hR199 (hR199.nil) rfl) rfl) rfl) rfl), hS201, by omega, (scan_step hsc (by omega)).trans hp, shallow_push hp hsh (by rw [← hjq]; omega), rfl⟩
  · skip
    have hR202 := hR40.setb (d := 13) (b := false) rfl (decide_eq_false h41)
    refine wp_cond_false (hR202.ev rfl) ?_
    refine wp_exit ?_
    refine x_then_e ?_
    refine x_then_e ?_
    refine x_block_eq ?_
    refine x_then_n (hK18 _ _ ?_)
    refine wp_seq_k (fun K203 hK204 => ?_)
    refine c_region ?_
    refine r_assign (st_listV rfl) hR202 rfl rfl rfl (by decide) (fun a205 hR206 => ?_)
    refine wpList_nil ?_
    refine x_then_n (hK204 _ _ ?_)
    refine wp_ret ?_
    refine e_ret1 hR206 rfl rfl rfl ?_
    refine ⟨?_, hS27.fr⟩
    exact congrArg Ending.returned (ret_b (by exact (deepB_false (by rw [← hsc, List.take_of_length_le (by omega)]) hsh).symm))

set_option maxRecDepth 100000 in
set_option maxHeartbeats 1000000 in
theorem rcheck_calls (w0 : World) (Z : Nat → Prop) (hZ : ∀ k, Z k → k < w0.heap.size) (tA : Option Addr) (tc : Nat) (t : List Nd) (ht : (dRow 4 tA t.length tc (encNs t)).φ w0 Z) (hl : t.length ≤ 1000000) (hsm : sml t) :
    Calls Tryd.prog 19 [.slice tA t.length tc].toArray w0 (fun e w' => e = .returned (.int .i64 (chk t)) ∧ Fr none_ w0 w') := by
  have hstart : ∀ k, Z k → imm Z w0 [] w0 k ∧ w0.heap[k]? = w0.heap[k]? := fun k hk => ⟨⟨hZ k hk, fun _ => hk, fun _ h => by cases h⟩, rfl⟩
  have hS3 : St w0 Z none_ w0 [] [dRow 4 tA t.length tc (encNs t)] := St.start w0 Z none_ _ (by
    intro d hd
    simp only [List.mem_cons, List.not_mem_nil, or_false] at hd
    rcases hd with rfl
    · exact Dat.mono _ _ _ _ _ (Nat.le_refl _) ht hstart
    )
  refine c_enter Tryd.func19 rfl Tryd.ntmps19 rfl (fun a1 hR2 => ?_)
  refine wp_seq_k (fun K4 hK5 => ?_)
  refine c_region ?_
  refine r_assign (st_listV rfl) hR2 rfl rfl rfl (by decide) (fun a6 hR7 => ?_)
  refine wpList_nil ?_
  refine x_then_n (hK5 _ _ ?_)
  refine wp_seq_k (fun K8 hK9 => ?_)
  refine wp_seq_k (fun K10 hK11 => ?_)
  refine c_region ?_
  refine r_move (st_listV rfl) hR7 rfl rfl rfl (by decide) (fun a12 hR13 => ?_)
  refine r_len (st_listV rfl) hR13 rfl rfl rfl rfl Tryd.underlying22 (by decide) (fun a14 hR15 => ?_)
  refine r_gtr (st_listV rfl) hR15 rfl rfl rfl rfl (by decide) (fun a16 hR17 => ?_)
  refine wpList_nil ?_
  refine x_then_n (hK11 _ _ ?_)
  rcases Decidable.em (4000 < ((t.length : Nat) : Int)) with h18 | h18
  · skip
    have hR19 := hR17.setb (d := 5) (b := true) rfl (decide_eq_true h18)
    refine wp_cond_true (hR19.ev rfl) ?_
    refine wp_seq_k (fun K20 hK21 => ?_)
    refine c_region ?_
    refine r_assign (st_listV rfl) hR19 rfl rfl rfl (by decide) (fun a22 hR23 => ?_)
    refine wpList_nil ?_
    refine x_then_n (hK21 _ _ ?_)
    refine wp_ret ?_
    refine x_then_r ?_
    refine e_ret1 hR23 rfl rfl rfl ?_
    refine ⟨?_, hS3.fr⟩
    exact congrArg Ending.returned (ret_i (by exact (chk_size (by omega)).symm))
  · skip
    have hR24 := hR17.setb (d := 5) (b := false) rfl (decide_eq_false h18)
    refine wp_cond_false (hR24.ev rfl) ?_
    refine wp_skip ?_
    refine x_then_n (hK9 _ _ ?_)
    refine wp_seq_k (fun K25 hK26 => ?_)
    refine wp_seq_k (fun K27 hK28 => ?_)
    refine c_region ?_
    refine r_move (st_listV rfl) hR24 rfl rfl rfl (by decide) (fun a29 hR30 => ?_)
    have hS31 : St w0 Z none_ w0 [] [dRow 4 tA t.length tc (encNs t)] := hS3
    refine k_call (xs := [.tmp 6]) (st_list rfl) hR30 rfl rfl rfl (by decide) ok46 (rwhole_calls _ (imm Z w0 [] _) (fun _ h => h.1) tA tc t (hS31.get (i := 0) rfl) (by first | assumption | omega | (simp; done) | (simp; omega)) (by first | assumption | omega | (simp; done) | (simp; omega))) ?_
    rintro e38 w33 ⟨rfl, hf36⟩
    have hS39 := hS31.below hf36.below
    refine ⟨_, rfl, fun a32 hR34 => ?_⟩
    refine r_not (st_listV rfl) hR34 rfl rfl rfl (by decide) (fun a40 hR41 => ?_)
    refine wpList_nil ?_
    refine x_then_n (hK28 _ _ ?_)
    rcases Bool.eq_false_or_eq_true (measB t) with h42 | h42
    · skip
      have hR43 := hR41.setb (d := 8) (b := false) rfl (by rw [h42]; rfl)
      refine wp_cond_false (hR43.ev rfl) ?_
      refine wp_skip ?_
      refine x_then_n (hK26 _ _ ?_)
      refine wp_seq_k (fun K44 hK45 => ?_)
      refine wp_seq_k (fun K46 hK47 => ?_)
      refine c_region ?_
      refine r_move (st_listV rfl) hR43 rfl rfl rfl (by decide) (fun a48 hR49 => ?_)
      have hS50 : St w0 Z none_ w33 [] [dRow 4 tA t.length tc (encNs t)] := hS39
      refine k_call (xs := [.tmp 9]) (st_list rfl) hR49 rfl rfl rfl (by decide) ok47 (rdeeper_calls _ (imm Z w0 [] _) (fun _ h => h.1) tA tc t (hS50.get (i := 0) rfl) (by first | assumption | omega | (simp; done) | (simp; omega)) (by first | assumption | omega | (simp; done) | (simp; omega)) (by first | assumption | omega | (simp; done) | (simp; omega))) ?_
      rintro e57 w52 ⟨rfl, hf55⟩
      have hS58 := hS50.below hf55.below
      refine ⟨_, rfl, fun a51 hR53 => ?_⟩
      refine wpList_nil ?_
      refine x_then_n (hK47 _ _ ?_)
      rcases Bool.eq_false_or_eq_true (deepB t) with h59 | h59
      · skip
        have hR60 := hR53.setb (d := 10) (b := true) rfl h59
        refine wp_cond_true (hR60.ev rfl) ?_
        refine wp_seq_k (fun K61 hK62 => ?_)
        refine c_region ?_
        refine r_assign (st_listV rfl) hR60 rfl rfl rfl (by decide) (fun a63 hR64 => ?_)
        refine wpList_nil ?_
        refine x_then_n (hK62 _ _ ?_)
        refine wp_ret ?_
        refine x_then_r ?_
        refine e_ret1 hR64 rfl rfl rfl ?_
        refine ⟨?_, hS58.fr⟩
        exact congrArg Ending.returned (ret_i (by (rw [chk_whole (by omega) (by assumption)]; simp [h18, h42, h59])))
      · skip
        have hR65 := hR53.setb (d := 10) (b := false) rfl h59
        refine wp_cond_false (hR65.ev rfl) ?_
        refine wp_skip ?_
        refine x_then_n (hK45 _ _ ?_)
        refine wp_seq_k (fun K66 hK67 => ?_)
        refine c_region ?_
        refine r_assign (st_listV rfl) hR65 rfl rfl rfl (by decide) (fun a68 hR69 => ?_)
        refine wpList_nil ?_
        refine x_then_n (hK67 _ _ ?_)
        refine wp_ret ?_
        refine e_ret1 hR69 rfl rfl rfl ?_
        refine ⟨?_, hS58.fr⟩
        exact congrArg Ending.returned (ret_i (by (rw [chk_whole (by omega) (by assumption)]; simp [h18, h42, h59])))
    · skip
      have hR70 := hR41.setb (d := 8) (b := true) rfl (by rw [h42]; rfl)
      refine wp_cond_true (hR70.ev rfl) ?_
      refine wp_seq_k (fun K71 hK72 => ?_)
      refine c_region ?_
      refine r_assign (st_listV rfl) hR70 rfl rfl rfl (by decide) (fun a73 hR74 => ?_)
      refine wpList_nil ?_
      refine x_then_n (hK72 _ _ ?_)
      refine wp_ret ?_
      refine x_then_r ?_
      refine e_ret1 hR74 rfl rfl rfl ?_
      refine ⟨?_, hS39.fr⟩
      exact congrArg Ending.returned (ret_i (by exact (chk_form (by omega) (by assumption)).symm))

set_option maxRecDepth 100000 in
set_option maxHeartbeats 1000000 in
theorem rroot_calls (w0 : World) (Z : Nat → Prop) (hZ : ∀ k, Z k → k < w0.heap.size) (tA : Option Addr) (tc : Nat) (t : List Nd) (ht : (dRow 4 tA t.length tc (encNs t)).φ w0 Z) (hl : t.length ≤ 1000000) (h0 : 0 < t.length) :
    Calls Tryd.prog 23 [.slice tA t.length tc].toArray w0 (fun e w' => e = .returned (.agg #[.int .i64 (((nth t (t.length - 1)).K)), .int .i64 (((nth t (t.length - 1)).N)), .int .i64 (((nth t (t.length - 1)).M)), .string ((nth t (t.length - 1)).S)]) ∧ Fr none_ w0 w') := by
  have hstart : ∀ k, Z k → imm Z w0 [] w0 k ∧ w0.heap[k]? = w0.heap[k]? := fun k hk => ⟨⟨hZ k hk, fun _ => hk, fun _ h => by cases h⟩, rfl⟩
  have hS3 : St w0 Z none_ w0 [] [dRow 4 tA t.length tc (encNs t)] := St.start w0 Z none_ _ (by
    intro d hd
    simp only [List.mem_cons, List.not_mem_nil, or_false] at hd
    rcases hd with rfl
    · exact Dat.mono _ _ _ _ _ (Nat.le_refl _) ht hstart
    )
  refine c_enter Tryd.func23 rfl Tryd.ntmps23 rfl (fun a1 hR2 => ?_)
  refine wp_seq_k (fun K4 hK5 => ?_)
  refine c_region ?_
  refine m_alloc (cs := [.int .i64 0, .int .i64 0, .int .i64 0, .string (⟨#[]⟩ : ByteArray)]) (st_listV rfl) hR2 hS3 rfl rfl ze32 rfl (by decide) (fun a6 w7 g8 hR9 hS10 => ?_)
  refine wpList_nil ?_
  refine x_then_n (hK5 _ _ ?_)
  refine wp_seq_k (fun K11 hK12 => ?_)
  refine c_region ?_
  refine r_move (st_listV rfl) hR9 rfl rfl rfl (by decide) (fun a13 hR14 => ?_)
  refine r_move (st_listV rfl) hR14 rfl rfl rfl (by decide) (fun a15 hR16 => ?_)
  refine r_len (st_listV rfl) hR16 rfl rfl rfl rfl Tryd.underlying22 (by decide) (fun a17 hR18 => ?_)
  refine r_sub (z := (((t.length : Nat) : Int) - 1)) (st_listV rfl) hR18 rfl rfl rfl rfl (by decide) (by omega) (by omega) (by omega) (fun a19 hR20 => ?_)
  refine m_index (i := (t.length) - (1)) (j := ((t.length) - (1)) * 4) (st_listV rfl) hR20 rfl rfl rfl rfl Tryd.underlying22 sz32 (by omega) (by omega) (nds_elem (t := t) (k := (t.length) - (1)) (hS10.row (i := 0) rfl).2 (by omega)).some_ rfl (by decide) (fun a21 hR22 => ?_)
  refine m_loadEN (st_listV rfl) hR22 rfl rfl rfl (nds_elem (t := t) (k := (t.length) - (1)) (hS10.row (i := 0) rfl).2 (by omega)) Tryd.underlying32 rfl sz32 (by decide) (fun a23 hR24 => ?_)
  refine m_store (i := 0) (cs' := [.int .i64 (((nth t ((t.length) - (1))).K)), .int .i64 (((nth t ((t.length) - (1))).N)), .int .i64 (((nth t ((t.length) - (1))).M)), .string ((nth t ((t.length) - (1))).S)]) (st_list rfl) hR24 hS10 rfl rfl rfl rfl rfl sz32 rfl rfl rfl (fun a25 w26 hR27 hS28 => ?_)
  refine wpList_nil ?_
  refine x_then_n (hK12 _ _ ?_)
  refine wp_ret ?_
  refine e_cell (i := 0) (vs := [.int .i64 (((nth t ((t.length) - (1))).K)), .int .i64 (((nth t ((t.length) - (1))).N)), .int .i64 (((nth t ((t.length) - (1))).M)), .string ((nth t ((t.length) - (1))).S)]) (.inl rfl) hR27 hS28 rfl rfl rfl rfl Tryd.underlying32 rfl sz32 ?_
  refine ⟨?_, hS28.fr⟩
  exact congrArg Ending.returned rfl

set_option maxRecDepth 100000 in
set_option maxHeartbeats 1000000 in
theorem rsame_calls (w0 : World) (Z : Nat → Prop) (hZ : ∀ k, Z k → k < w0.heap.size) (tA : Option Addr) (tc : Nat) (t : List Nd) (uA : Option Addr) (uc : Nat) (u : List Nd) (ht : (dRow 4 tA t.length tc (encNs t)).φ w0 Z) (hu : (dRow 4 uA u.length uc (encNs u)).φ w0 Z) (hl : t.length ≤ 1000000) :
    Calls Tryd.prog 30 [.slice tA t.length tc, .slice uA u.length uc].toArray w0 (fun e w' => e = .returned (.bool (decide (t = u))) ∧ Fr none_ w0 w') := by
  have hstart : ∀ k, Z k → imm Z w0 [] w0 k ∧ w0.heap[k]? = w0.heap[k]? := fun k hk => ⟨⟨hZ k hk, fun _ => hk, fun _ h => by cases h⟩, rfl⟩
  have hS3 : St w0 Z none_ w0 [] [dRow 4 tA t.length tc (encNs t), dRow 4 uA u.length uc (encNs u)] := St.start w0 Z none_ _ (by
    intro d hd
    simp only [List.mem_cons, List.not_mem_nil, or_false] at hd
    rcases hd with rfl | rfl
    · exact Dat.mono _ _ _ _ _ (Nat.le_refl _) ht hstart
    · exact Dat.mono _ _ _ _ _ (Nat.le_refl _) hu hstart
    )
  refine c_enter Tryd.func30 rfl Tryd.ntmps30 rfl (fun a1 hR2 => ?_)
  refine wp_seq_k (fun K4 hK5 => ?_)
  refine c_region ?_
  refine r_assign (st_listV rfl) hR2 rfl rfl rfl (by decide) (fun a6 hR7 => ?_)
  refine wpList_nil ?_
  refine x_then_n (hK5 _ _ ?_)
  refine wp_seq_k (fun K8 hK9 => ?_)
  refine wp_seq_k (fun K10 hK11 => ?_)
  refine c_region ?_
  refine r_move (st_listV rfl) hR7 rfl rfl rfl (by decide) (fun a12 hR13 => ?_)
  refine r_len (st_listV rfl) hR13 rfl rfl rfl rfl Tryd.underlying22 (by decide) (fun a14 hR15 => ?_)
  refine r_move (st_listV rfl) hR15 rfl rfl rfl (by decide) (fun a16 hR17 => ?_)
  refine r_len (st_listV rfl) hR17 rfl rfl rfl rfl Tryd.underlying22 (by decide) (fun a18 hR19 => ?_)
  refine r_neq (st_listV rfl) hR19 rfl rfl rfl rfl (by decide) (fun a20 hR21 => ?_)
  refine wpList_nil ?_
  refine x_then_n (hK11 _ _ ?_)
  rcases Decidable.em (((t.length : Nat) : Int) = ((u.length : Nat) : Int)) with h22 | h22
  · skip
    have hR23 := hR21.setb (d := 10) (b := false) rfl (by rw [(decide_eq_true h22)]; rfl)
    refine wp_cond_false (hR23.ev rfl) ?_
    refine wp_skip ?_
    refine x_then_n (hK9 _ _ ?_)
    refine wp_seq_k (fun K24 hK25 => ?_)
    refine wp_seq_k (fun K26 hK27 => ?_)
    refine c_region ?_
    refine r_assign (st_listV rfl) hR23 rfl rfl rfl (by decide) (fun a28 hR29 => ?_)
    refine wpList_nil ?_
    refine x_then_n (hK27 _ _ ?_)
    refine wp_block ?_
    refine wp_loop_ghost (fun gn ga gw => ∃ k : Nat, (Reg ga 26 [(1000000, .bool false), (0, .slice tA t.length tc), (1, .slice uA u.length uc), (5, .int .i64 ((k : Nat) : Int))]) ∧ (St w0 Z none_ gw [] [dRow 4 tA t.length tc (encNs t), dRow 4 uA u.length uc (encNs u)]) ∧ (k ≤ t.length) ∧ (t.take k = u.take k) ∧ (t.length - k) = gn) _ ⟨0, (Reg.cons hR29 (Reg.cons hR29 (Reg.cons hR29 (Reg.cons hR29 (hR29.nil) rfl) rfl) rfl) rfl), hS3, by omega, rfl, rfl⟩ ?_
    rintro r30 a31 w32 ⟨k, hR33, hS34, hk, hi, hn35⟩
    refine wp_seq_k (fun K36 hK37 => ?_)
    refine wp_seq_k (fun K38 hK39 => ?_)
    refine c_region ?_
    refine r_move (st_listV rfl) hR33 rfl rfl rfl (by decide) (fun a40 hR41 => ?_)
    refine r_move (st_listV rfl) hR41 rfl rfl rfl (by decide) (fun a42 hR43 => ?_)
    refine r_len (st_listV rfl) hR43 rfl rfl rfl rfl Tryd.underlying22 (by decide) (fun a44 hR45 => ?_)
    refine r_lss (st_listV rfl) hR45 rfl rfl rfl rfl (by decide) (fun a46 hR47 => ?_)
    refine wpList_nil ?_
    refine x_then_n (hK39 _ _ ?_)
    rcases Decidable.em (((k : Nat) : Int) < ((t.length : Nat) : Int)) with h48 | h48
    · skip
      have hR49 := hR47.setb (d := 14) (b := true) rfl (decide_eq_true h48)
      refine wp_cond_true (hR49.ev rfl) ?_
      refine wp_skip ?_
      refine x_then_n (hK37 _ _ ?_)
      refine wp_seq_k (fun K50 hK51 => ?_)
      refine wp_block ?_
      refine wp_seq_k (fun K52 hK53 => ?_)
      obtain ⟨J54, hJ55, hS56⟩ := hS34.agree
      refine d_region2 (S := (fun x => (w32.heap.size ≤ x.heap.size ∧ ∀ k, J54 k → x.heap[k]? = w32.heap[k]?) ∧ (True))) (n := 9) mixed rfl hS56 (pan_then (pan_block (pan_then (pan_then (pan_block (pan_then pan_body)))))) (fun Q59 hP60 hN61 w57 hS58 => ?_)
      have hSw62 : (w32.heap.size ≤ w57.heap.size ∧ ∀ k, J54 k → w57.heap[k]? = w32.heap[k]?) ∧ (True) := ⟨⟨(hS58.get (i := 2) rfl).1, fun k hk => ((hS58.get (i := 2) rfl).2 k hk).2⟩, trivial⟩
      refine d_take (i := 0) rfl (by kernel_rfl) (by kernel_rfl) (by kernel_rfl) (fun c a w h => hP60 c _ _ _ _ h) rfl (by decide) hR49 (want_n rfl) (fun x hx => r_move (st_yield hR49 rfl (by decide)) hR49 rfl rfl rfl (by decide) (fun _ h => ⟨h.get _ _ (by decide) rfl, rfl⟩)) hSw62 (fun a63 hR64 => ?_)
      refine d_take (i := 1) rfl (by kernel_rfl) (by kernel_rfl) (by kernel_rfl) (fun c a w h => hP60 c _ _ _ _ h) rfl (by decide) hR64 (want_n rfl) (fun x hx => r_move (st_yield hR64 rfl (by decide)) hR64 rfl rfl rfl (by decide) (fun _ h => ⟨h.get _ _ (by decide) rfl, rfl⟩)) hSw62 (fun a65 hR66 => ?_)
      refine d_take (i := 2) rfl (by kernel_rfl) (by kernel_rfl) (by kernel_rfl) (fun c a w h => hP60 c _ _ _ _ h) rfl (by decide) hR66 (want_n rfl) (fun x hx => m_index (i := k) (j := k * 4) (st_yield hR66 rfl (by decide)) hR66 rfl rfl rfl rfl Tryd.underlying22 sz32 (by omega) (by omega) (nds_elem (t := t) (k := k) (sdat (hJ55 0 _ rfl) hx.1).2 (by omega)).some_ rfl (by decide) (fun _ h => ⟨h.get _ _ (by decide) rfl, rfl⟩)) hSw62 (fun a67 hR68 => ?_)
      refine d_take (i := 3) rfl (by kernel_rfl) (by kernel_rfl) (by kernel_rfl) (fun c a w h => hP60 c _ _ _ _ h) rfl (by decide) hR68 (want_n rfl) (fun x hx => m_loadEN (st_yield hR68 rfl (by decide)) hR68 rfl rfl rfl (nds_elem (t := t) (k := k) (sdat (hJ55 0 _ rfl) hx.1).2 (by omega)) Tryd.underlying32 rfl sz32 (by decide) (fun _ h => ⟨h.get _ _ (by decide) rfl, rfl⟩)) hSw62 (fun a69 hR70 => ?_)
      refine d_take (i := 4) rfl (by kernel_rfl) (by kernel_rfl) (by kernel_rfl) (fun c a w h => hP60 c _ _ _ _ h) rfl (by decide) hR70 (want_n rfl) (fun x hx => r_move (st_yield hR70 rfl (by decide)) hR70 rfl rfl rfl (by decide) (fun _ h => ⟨h.get _ _ (by decide) rfl, rfl⟩)) hSw62 (fun a71 hR72 => ?_)
      refine d_take (i := 5) rfl (by kernel_rfl) (by kernel_rfl) (by kernel_rfl) (fun c a w h => hP60 c _ _ _ _ h) rfl (by decide) hR72 (want_n rfl) (fun x hx => r_move (st_yield hR72 rfl (by decide)) hR72 rfl rfl rfl (by decide) (fun _ h => ⟨h.get _ _ (by decide) rfl, rfl⟩)) hSw62 (fun a73 hR74 => ?_)
      refine d_take (i := 6) rfl (by kernel_rfl) (by kernel_rfl) (by kernel_rfl) (fun c a w h => hP60 c _ _ _ _ h) rfl (by decide) hR74 (want_n rfl) (fun x hx => m_index (i := k) (j := k * 4) (st_yield hR74 rfl (by decide)) hR74 rfl rfl rfl rfl Tryd.underlying22 sz32 (by omega) (by omega) (nds_elem (t := u) (k := k) (sdat (hJ55 1 _ rfl) hx.1).2 (by omega)).some_ rfl (by decide) (fun _ h => ⟨h.get _ _ (by decide) rfl, rfl⟩)) hSw62 (fun a75 hR76 => ?_)
      refine d_take (i := 7) rfl (by kernel_rfl) (by kernel_rfl) (by kernel_rfl) (fun c a w h => hP60 c _ _ _ _ h) rfl (by decide) hR76 (want_n rfl) (fun x hx => m_loadEN (st_yield hR76 rfl (by decide)) hR76 rfl rfl rfl (nds_elem (t := u) (k := k) (sdat (hJ55 1 _ rfl) hx.1).2 (by omega)) Tryd.underlying32 rfl sz32 (by decide) (fun _ h => ⟨h.get _ _ (by decide) rfl, rfl⟩)) hSw62 (fun a77 hR78 => ?_)
      refine d_take (i := 8) rfl (by kernel_rfl) (by kernel_rfl) (by kernel_rfl) (fun c a w h => hP60 c _ _ _ _ h) rfl (by decide) hR78 (want_n rfl) (fun x hx => r_neqN (m := (nth t k)) (n := (nth u k)) (st_yield hR78 rfl (by decide)) hR78 rfl rfl rfl rfl (by decide) (fun _ h => ⟨h.get _ _ (by decide) rfl, rfl⟩)) hSw62 (fun a79 hR80 => ?_)
      refine wpAnyH_done (by kernel_rfl) (hN61 _ _ ?_) _
      refine x_then_n (hK53 _ _ ?_)
      rcases Decidable.em ((nth t k) = (nth u k)) with h81 | h81
      · skip
        have hR82 := hR80.setb (d := 25) (b := false) rfl (by rw [(decide_eq_true h81)]; rfl)
        refine wp_cond_false (hR82.ev rfl) ?_
        refine wp_skip ?_
        refine x_block_n ?_
        refine x_then_n (hK51 _ _ ?_)
        refine c_region ?_
        refine r_move (st_listV rfl) hR82 rfl rfl rfl (by decide) (fun a83 hR84 => ?_)
        refine r_add (z := ((k + 1 : Nat) : Int)) (st_listV rfl) hR84 rfl rfl rfl rfl (by decide) (by omega) (by omega) (by omega) (fun a85 hR86 => ?_)
        refine r_assign (st_listV rfl) hR86 rfl rfl rfl (by decide) (fun a87 hR88 => ?_)
        refine wpList_nil ?_
        have hS89 := hS58.forget 2
        exact ⟨_, by omega, k + 1, (Reg.cons hR88 (Reg.cons hR88 (Reg.cons hR88 (Reg.cons hR88 (hR88.nil) rfl) rfl) rfl) rfl), hS89, by omega, same_step hi (by omega) (by omega) (by assumption), rfl⟩
      · skip
        have hR90 := hR80.setb (d := 25) (b := true) rfl (by rw [(decide_eq_false h81)]; rfl)
        refine wp_cond_true (hR90.ev rfl) ?_
        refine wp_seq_k (fun K91 hK92 => ?_)
        refine c_region ?_
        refine r_assign (st_listV rfl) hR90 rfl rfl rfl (by decide) (fun a93 hR94 => ?_)
        refine wpList_nil ?_
        refine x_then_n (hK92 _ _ ?_)
        refine wp_ret ?_
        refine x_block_r ?_
        refine x_then_r ?_
        refine x_then_r ?_
        refine x_block_r ?_
        refine x_then_r ?_
        refine e_ret1 hR94 rfl rfl rfl ?_
        refine ⟨?_, hS58.fr⟩
        exact congrArg Ending.returned (ret_b (by first | exact (same_len (by omega)).symm | exact (same_no (k := k) (by omega) (by omega) (by assumption)).symm | exact (same_end hi (by omega) (by omega)).symm))
    · skip
      have hR95 := hR47.setb (d := 14) (b := false) rfl (decide_eq_false h48)
      refine wp_cond_false (hR95.ev rfl) ?_
      refine wp_exit ?_
      refine x_then_e ?_
      refine x_then_e ?_
      refine x_block_eq ?_
      refine x_then_n (hK25 _ _ ?_)
      refine wp_seq_k (fun K96 hK97 => ?_)
      refine c_region ?_
      refine r_assign (st_listV rfl) hR95 rfl rfl rfl (by decide) (fun a98 hR99 => ?_)
      refine wpList_nil ?_
      refine x_then_n (hK97 _ _ ?_)
      refine wp_ret ?_
      refine e_ret1 hR99 rfl rfl rfl ?_
      refine ⟨?_, hS34.fr⟩
      exact congrArg Ending.returned (ret_b (by first | exact (same_len (by omega)).symm | exact (same_no (k := k) (by omega) (by omega) (by assumption)).symm | exact (same_end hi (by omega) (by omega)).symm))
  · skip
    have hR100 := hR21.setb (d := 10) (b := true) rfl (by rw [(decide_eq_false h22)]; rfl)
    refine wp_cond_true (hR100.ev rfl) ?_
    refine wp_seq_k (fun K101 hK102 => ?_)
    refine c_region ?_
    refine r_assign (st_listV rfl) hR100 rfl rfl rfl (by decide) (fun a103 hR104 => ?_)
    refine wpList_nil ?_
    refine x_then_n (hK102 _ _ ?_)
    refine wp_ret ?_
    refine x_then_r ?_
    refine e_ret1 hR104 rfl rfl rfl ?_
    refine ⟨?_, hS3.fr⟩
    exact congrArg Ending.returned (ret_b (by first | exact (same_len (by omega)).symm | exact (same_no (k := k) (by omega) (by omega) (by assumption)).symm | exact (same_end hi (by omega) (by omega)).symm))
end Go.Proofs.YtobgdeffhdefeaaDoor
/- Contracts of functions, one theorem each: what the call returns, and that nothing old is changed. Printed by gen.py. -/
namespace Go.Proofs.YtobgdeffhdefeaaDoor
open Go Go.RowKit
set_option linter.unusedSimpArgs false
set_option linter.unusedVariables false

set_option maxRecDepth 100000 in
set_option maxHeartbeats 1000000 in
theorem rfrom_calls_rec (rn : Nat) : ∀ (w0 : World) (Z : Nat → Prop) (hZ : ∀ k, Z k → k < w0.heap.size) (tA : Option Addr) (tc : Nat) (t : List Nd) (ed : Int) (ht : (dRow 4 tA t.length tc (encNs t)).φ w0 Z) (hl : t.length ≤ 1000000) (hsm : sml t) (hb : measB t = true) (he0 : 0 ≤ ed) (he1 : ed < t.length) (hrn : ed.toNat = rn),
    Calls Tryd.prog 57 [.slice tA t.length tc, .int .i64 ed].toArray w0 (fun e w' => e = .returned (.int .i64 ((frL t ed.toNat : Nat) : Int)) ∧ Fr none_ w0 w') := by
  induction rn using Nat.strongRecOn
  rename_i rn ih
  intro w0 Z hZ tA tc t ed ht hl hsm hb he0 he1 hrn
  have hstart : ∀ k, Z k → imm Z w0 [] w0 k ∧ w0.heap[k]? = w0.heap[k]? := fun k hk => ⟨⟨hZ k hk, fun _ => hk, fun _ h => by cases h⟩, rfl⟩
  have hS3 : St w0 Z none_ w0 [] [dRow 4 tA t.length tc (encNs t)] := St.start w0 Z none_ _ (by
    intro d hd
    simp only [List.mem_cons, List.not_mem_nil, or_false] at hd
    rcases hd with rfl
    · exact Dat.mono _ _ _ _ _ (Nat.le_refl _) ht hstart
    )
  have hm8 := many_le (right_at hb (show ed.toNat < t.length by omega))
  have hbm := bindL_many (right_at hb (show ed.toNat < t.length by omega))
  refine c_enter Tryd.func57 rfl Tryd.ntmps57 rfl (fun a1 hR2 => ?_)
  refine wp_seq_k (fun K4 hK5 => ?_)
  refine c_region ?_
  refine r_assign (st_listV rfl) hR2 rfl rfl rfl (by decide) (fun a6 hR7 => ?_)
  refine wpList_nil ?_
  refine x_then_n (hK5 _ _ ?_)
  refine wp_seq_k (fun K8 hK9 => ?_)
  refine wp_seq_k (fun K10 hK11 => ?_)
  refine c_region ?_
  refine r_move (st_listV rfl) hR7 rfl rfl rfl (by decide) (fun a12 hR13 => ?_)
  refine r_lss (st_listV rfl) hR13 rfl rfl rfl rfl (by decide) (fun a14 hR15 => ?_)
  refine wpList_nil ?_
  refine x_then_n (hK11 _ _ ?_)
  have h16 : ¬ ((ed) < 0) := by omega
  have hR17 := hR15.setb (d := 10) (b := false) rfl (decide_eq_false h16)
  refine wp_cond_false (hR17.ev rfl) ?_
  refine wp_skip ?_
  refine x_then_n (hK9 _ _ ?_)
  refine wp_seq_k (fun K18 hK19 => ?_)
  refine c_region ?_
  refine r_move (st_listV rfl) hR17 rfl rfl rfl (by decide) (fun a20 hR21 => ?_)
  refine r_move (st_listV rfl) hR21 rfl rfl rfl (by decide) (fun a22 hR23 => ?_)
  refine m_index (i := ((ed)).toNat) (j := (((ed)).toNat) * 4) (st_listV rfl) hR23 rfl rfl rfl rfl Tryd.underlying22 sz32 (by omega) (by omega) (nds_elem (t := t) (k := ((ed)).toNat) (hS3.row (i := 0) rfl).2 (by omega)).some_ rfl (by decide) (fun a24 hR25 => ?_)
  refine m_loadEN (st_listV rfl) hR25 rfl rfl rfl (nds_elem (t := t) (k := ((ed)).toNat) (hS3.row (i := 0) rfl).2 (by omega)) Tryd.underlying32 rfl sz32 (by decide) (fun a26 hR27 => ?_)
  have hS28 : St w0 Z none_ w0 [] [dRow 4 tA t.length tc (encNs t)] := hS3
  refine k_call (xs := [.tmp 15]) (st_list rfl) hR27 rfl rfl rfl (by decide) ok56 (rbinds_calls _ (imm Z w0 [] _) (fun _ h => h.1) (nth t (((ed)).toNat)) (hsm _ (by omega))) ?_
  rintro e38 w30 ⟨A34, c35, rfl, hf33, hd36⟩
  have hS39 := hS28.below hf33.below
  have hS40 := hS39.data (dRow 1 A34 ((bindL (nth t (((ed)).toNat))).length) c35 (encIs (bindL (nth t (((ed)).toNat))))) ⟨hd36.1, hd36.2.mono (fun _ hk => ⟨nxt_imm hS28 hk, rfl⟩)⟩
  refine ⟨_, rfl, fun a29 hR31 => ?_⟩
  refine r_move (st_listV rfl) hR31 rfl rfl rfl (by decide) (fun a41 hR42 => ?_)
  refine r_extract (st_listV rfl) hR42 rfl rfl rfl rfl (by decide) (fun a43 hR44 => ?_)
  refine r_extract (st_listV rfl) hR44 rfl rfl rfl rfl (by decide) (fun a45 hR46 => ?_)
  refine r_assign (st_listV rfl) hR46 rfl rfl rfl (by decide) (fun a47 hR48 => ?_)
  refine r_assign (st_listV rfl) hR48 rfl rfl rfl (by decide) (fun a49 hR50 => ?_)
  refine wpList_nil ?_
  refine x_then_n (hK19 _ _ ?_)
  refine wp_seq_k (fun K51 hK52 => ?_)
  refine wp_seq_k (fun K53 hK54 => ?_)
  refine c_region ?_
  refine r_move (st_listV rfl) hR50 rfl rfl rfl (by decide) (fun a55 hR56 => ?_)
  refine r_not (st_listV rfl) hR56 rfl rfl rfl (by decide) (fun a57 hR58 => ?_)
  refine wpList_nil ?_
  refine x_then_n (hK54 _ _ ?_)
  have h59 : (right (nth t (((ed)).toNat))) = true := right_at hb (by omega)
  have hR60 := hR58.setb (d := 20) (b := false) rfl (by rw [h59]; rfl)
  refine wp_cond_false (hR60.ev rfl) ?_
  refine wp_skip ?_
  refine x_then_n (hK52 _ _ ?_)
  refine wp_seq_k (fun K61 hK62 => ?_)
  refine c_region ?_
  refine r_move (st_listV rfl) hR60 rfl rfl rfl (by decide) (fun a63 hR64 => ?_)
  refine r_assign (st_listV rfl) hR64 rfl rfl rfl (by decide) (fun a65 hR66 => ?_)
  refine wpList_nil ?_
  refine x_then_n (hK62 _ _ ?_)
  refine wp_seq_k (fun K67 hK68 => ?_)
  refine wp_seq_k (fun K69 hK70 => ?_)
  refine c_region ?_
  refine r_assign (st_listV rfl) hR66 rfl rfl rfl (by decide) (fun a71 hR72 => ?_)
  refine wpList_nil ?_
  refine x_then_n (hK70 _ _ ?_)
  refine wp_block ?_
  refine wp_loop_ghost (fun gn ga gw => ∃ k : Nat, (Reg ga 35 [(1000000, .bool false), (0, .slice tA t.length tc), (5, .slice A34 ((bindL (nth t (((ed)).toNat))).length) c35), (8, .int .i64 ((k : Nat) : Int)), (7, .int .i64 ((posL t ed.toNat k : Nat) : Int))]) ∧ (St w0 Z none_ gw [] [dRow 4 tA t.length tc (encNs t), dRow 1 A34 ((bindL (nth t (((ed)).toNat))).length) c35 (encIs (bindL (nth t (((ed)).toNat))))]) ∧ (k ≤ many (nth t ed.toNat)) ∧ (many (nth t ed.toNat) - k) = gn) _ ⟨0, (Reg.cons hR72 (Reg.cons hR72 (Reg.cons hR72 (Reg.cons hR72 (Reg.consi hR72 (hR72.nil) rfl (by rw [posL_zero hb (by omega)]; omega)) rfl) rfl) rfl) rfl), hS40, by omega, rfl⟩ ?_
  rintro r73 a74 w75 ⟨k, hR76, hS77, hk, hn78⟩
  refine wp_seq_k (fun K79 hK80 => ?_)
  refine wp_seq_k (fun K81 hK82 => ?_)
  refine c_region ?_
  refine r_move (st_listV rfl) hR76 rfl rfl rfl (by decide) (fun a83 hR84 => ?_)
  refine r_move (st_listV rfl) hR84 rfl rfl rfl (by decide) (fun a85 hR86 => ?_)
  refine r_len (st_listV rfl) hR86 rfl rfl rfl rfl Tryd.underlying66 (by decide) (fun a87 hR88 => ?_)
  refine r_lss (st_listV rfl) hR88 rfl rfl rfl rfl (by decide) (fun a89 hR90 => ?_)
  refine wpList_nil ?_
  refine x_then_n (hK82 _ _ ?_)
  rcases Decidable.em (((k : Nat) : Int) < (((bindL (nth t (((ed)).toNat))).length : Nat) : Int)) with h91 | h91
  · skip
    obtain ⟨hps1, hps2, hps3, hps4⟩ := posL_step hb (show ed.toNat < t.length by omega) (show k < many (nth t ed.toNat) by omega)
    have hR92 := hR90.setb (d := 25) (b := true) rfl (decide_eq_true h91)
    refine wp_cond_true (hR92.ev rfl) ?_
    refine wp_skip ?_
    refine x_then_n (hK80 _ _ ?_)
    refine wp_seq_k (fun K93 hK94 => ?_)
    refine wp_block ?_
    refine wp_seq_k (fun K95 hK96 => ?_)
    refine c_region ?_
    refine r_move (st_listV rfl) hR92 rfl rfl rfl (by decide) (fun a97 hR98 => ?_)
    refine r_move (st_listV rfl) hR98 rfl rfl rfl (by decide) (fun a99 hR100 => ?_)
    refine r_sub (z := (((posL t ed.toNat k : Nat) : Int) - 1)) (st_listV rfl) hR100 rfl rfl rfl rfl (by decide) (by omega) (by omega) (by omega) (fun a101 hR102 => ?_)
    have hS103 : St w0 Z none_ w75 [] [dRow 4 tA t.length tc (encNs t), dRow 1 A34 ((bindL (nth t (((ed)).toNat))).length) c35 (encIs (bindL (nth t (((ed)).toNat))))] := hS77
    refine k_call (xs := [.tmp 28, .tmp 30]) (st_list rfl) hR102 rfl rfl rfl (by decide) ok57 (ih ((((posL t ed.toNat k : Nat) : Int) - 1).toNat) (by omega) _ (imm Z w0 [] _) (fun _ h => h.1) tA tc t (((posL t ed.toNat k : Nat) : Int) - 1) (hS103.get (i := 0) rfl) (by first | assumption | omega | (simp; done) | (simp; omega)) (by first | assumption | omega | (simp; done) | (simp; omega)) (by first | assumption | omega | (simp; done) | (simp; omega)) (by first | assumption | omega | (simp; done) | (simp; omega)) (by first | assumption | omega | (simp; done) | (simp; omega)) rfl) ?_
    rintro e110 w105 ⟨rfl, hf108⟩
    have hS111 := hS103.below hf108.below
    refine ⟨_, rfl, fun a104 hR106 => ?_⟩
    refine r_assign (st_listV rfl) hR106 rfl rfl rfl (by decide) (fun a112 hR113 => ?_)
    refine wpList_nil ?_
    refine x_then_n (hK96 _ _ ?_)
    refine wp_seq_k (fun K114 hK115 => ?_)
    refine c_region ?_
    refine r_move (st_listV rfl) hR113 rfl rfl rfl (by decide) (fun a116 hR117 => ?_)
    refine r_lss (st_listV rfl) hR117 rfl rfl rfl rfl (by decide) (fun a118 hR119 => ?_)
    refine wpList_nil ?_
    refine x_then_n (hK115 _ _ ?_)
    have h120 : ¬ (((frL t (((posL t ed.toNat k : Nat) : Int) - 1).toNat : Nat) : Int) < 0) := by omega
    have hR121 := hR119.setb (d := 33) (b := false) rfl (decide_eq_false h120)
    refine wp_cond_false (hR121.ev rfl) ?_
    refine wp_skip ?_
    refine x_block_n ?_
    refine x_then_n (hK94 _ _ ?_)
    refine c_region ?_
    refine r_move (st_listV rfl) hR121 rfl rfl rfl (by decide) (fun a122 hR123 => ?_)
    refine r_add (z := ((k + 1 : Nat) : Int)) (st_listV rfl) hR123 rfl rfl rfl rfl (by decide) (by omega) (by omega) (by omega) (fun a124 hR125 => ?_)
    refine r_assign (st_listV rfl) hR125 rfl rfl rfl (by decide) (fun a126 hR127 => ?_)
    refine wpList_nil ?_
    exact ⟨_, by omega, k + 1, (Reg.cons hR127 (Reg.cons hR127 (Reg.cons hR127 (Reg.cons hR127 (Reg.consi hR127 (hR127.nil) rfl (by rw [show (((posL t ed.toNat k : Nat) : Int) - 1).toNat = posL t ed.toNat k - 1 by omega, hps3])) rfl) rfl) rfl) rfl), hS111, by omega, rfl⟩
  · skip
    have hR128 := hR90.setb (d := 25) (b := false) rfl (decide_eq_false h91)
    refine wp_cond_false (hR128.ev rfl) ?_
    refine wp_exit ?_
    refine x_then_e ?_
    refine x_then_e ?_
    refine x_block_eq ?_
    refine x_then_n (hK68 _ _ ?_)
    refine wp_seq_k (fun K129 hK130 => ?_)
    refine c_region ?_
    refine r_move (st_listV rfl) hR128 rfl rfl rfl (by decide) (fun a131 hR132 => ?_)
    refine r_assign (st_listV rfl) hR132 rfl rfl rfl (by decide) (fun a133 hR134 => ?_)
    refine wpList_nil ?_
    refine x_then_n (hK130 _ _ ?_)
    refine wp_ret ?_
    refine e_ret1 hR134 rfl rfl rfl ?_
    refine ⟨?_, hS77.fr⟩
    exact congrArg Ending.returned (ret_i (by rw [← posL_end hb (by omega), show k = many (nth t ed.toNat) by omega]))
theorem rfrom_calls (w0 : World) (Z : Nat → Prop) (hZ : ∀ k, Z k → k < w0.heap.size) (tA : Option Addr) (tc : Nat) (t : List Nd) (ed : Int) (ht : (dRow 4 tA t.length tc (encNs t)).φ w0 Z) (hl : t.length ≤ 1000000) (hsm : sml t) (hb : measB t = true) (he0 : 0 ≤ ed) (he1 : ed < t.length) :
    Calls Tryd.prog 57 [.slice tA t.length tc, .int .i64 ed].toArray w0 (fun e w' => e = .returned (.int .i64 ((frL t ed.toNat : Nat) : Int)) ∧ Fr none_ w0 w') := rfrom_calls_rec _ w0 Z hZ tA tc t ed ht hl hsm hb he0 he1 rfl

set_option maxRecDepth 100000 in
set_option maxHeartbeats 1000000 in
theorem rparts_calls (w0 : World) (Z : Nat → Prop) (hZ : ∀ k, Z k → k < w0.heap.size) (tA : Option Addr) (tc : Nat) (t : List Nd) (ht : (dRow 4 tA t.length tc (encNs t)).φ w0 Z) (hl : t.length ≤ 1000000) (hsm : sml t) (hb : measB t = true) :
    Calls Tryd.prog 32 [.slice tA t.length tc].toArray w0 (fun e w' => ∃ (rA0 : Option Addr) (rc0 : Nat) (rL0 : List Sl), e = .returned (.slice rA0 rL0.length rc0) ∧ Fr none_ w0 w' ∧ (dRow 1 rA0 rL0.length rc0 (encSs rL0)).φ w' (nxt Z w0 w') ∧ (dAll rL0).φ w' (nxt Z w0 w') ∧ lsts rL0 = ptL t) := by
  have hstart : ∀ k, Z k → imm Z w0 [] w0 k ∧ w0.heap[k]? = w0.heap[k]? := fun k hk => ⟨⟨hZ k hk, fun _ => hk, fun _ h => by cases h⟩, rfl⟩
  have hS3 : St w0 Z none_ w0 [] [dRow 4 tA t.length tc (encNs t)] := St.start w0 Z none_ _ (by
    intro d hd
    simp only [List.mem_cons, List.not_mem_nil, or_false] at hd
    rcases hd with rfl
    · exact Dat.mono _ _ _ _ _ (Nat.le_refl _) ht hstart
    )
  have hp0 := meas_pos hb
  have hm8 := many_le (right_at hb (show t.length - 1 < t.length by omega))
  have hbm := bindL_many (right_at hb (show t.length - 1 < t.length by omega))
  refine c_enter Tryd.func32 rfl Tryd.ntmps32 rfl (fun a1 hR2 => ?_)
  refine wp_seq_k (fun K4 hK5 => ?_)
  refine c_region ?_
  refine r_assign (st_listV rfl) hR2 rfl rfl rfl (by decide) (fun a6 hR7 => ?_)
  refine wpList_nil ?_
  refine x_then_n (hK5 _ _ ?_)
  refine wp_seq_k (fun K8 hK9 => ?_)
  refine c_region ?_
  refine r_move (st_listV rfl) hR7 rfl rfl rfl (by decide) (fun a10 hR11 => ?_)
  refine r_len (st_listV rfl) hR11 rfl rfl rfl rfl Tryd.underlying22 (by decide) (fun a12 hR13 => ?_)
  refine r_sub (z := (((t.length : Nat) : Int) - 1)) (st_listV rfl) hR13 rfl rfl rfl rfl (by decide) (by omega) (by omega) (by omega) (fun a14 hR15 => ?_)
  refine r_assign (st_listV rfl) hR15 rfl rfl rfl (by decide) (fun a16 hR17 => ?_)
  refine wpList_nil ?_
  refine x_then_n (hK9 _ _ ?_)
  refine wp_seq_k (fun K18 hK19 => ?_)
  refine c_region ?_
  refine r_move (st_listV rfl) hR17 rfl rfl rfl (by decide) (fun a20 hR21 => ?_)
  refine r_move (st_listV rfl) hR21 rfl rfl rfl (by decide) (fun a22 hR23 => ?_)
  refine m_index (i := (t.length) - (1)) (j := ((t.length) - (1)) * 4) (st_listV rfl) hR23 rfl rfl rfl rfl Tryd.underlying22 sz32 (by omega) (by omega) (nds_elem (t := t) (k := (t.length) - (1)) (hS3.row (i := 0) rfl).2 (by omega)).some_ rfl (by decide) (fun a24 hR25 => ?_)
  refine m_loadEN (st_listV rfl) hR25 rfl rfl rfl (nds_elem (t := t) (k := (t.length) - (1)) (hS3.row (i := 0) rfl).2 (by omega)) Tryd.underlying32 rfl sz32 (by decide) (fun a26 hR27 => ?_)
  have hS28 : St w0 Z none_ w0 [] [dRow 4 tA t.length tc (encNs t)] := hS3
  refine k_call (xs := [.tmp 17]) (st_list rfl) hR27 rfl rfl rfl (by decide) ok56 (rbinds_calls _ (imm Z w0 [] _) (fun _ h => h.1) (nth t ((t.length) - (1))) (hsm _ (by omega))) ?_
  rintro e38 w30 ⟨A34, c35, rfl, hf33, hd36⟩
  have hS39 := hS28.below hf33.below
  have hS40 := hS39.data (dRow 1 A34 ((bindL (nth t ((t.length) - (1)))).length) c35 (encIs (bindL (nth t ((t.length) - (1)))))) ⟨hd36.1, hd36.2.mono (fun _ hk => ⟨nxt_imm hS28 hk, rfl⟩)⟩
  refine ⟨_, rfl, fun a29 hR31 => ?_⟩
  refine r_move (st_listV rfl) hR31 rfl rfl rfl (by decide) (fun a41 hR42 => ?_)
  refine r_extract (st_listV rfl) hR42 rfl rfl rfl rfl (by decide) (fun a43 hR44 => ?_)
  refine r_extract (st_listV rfl) hR44 rfl rfl rfl rfl (by decide) (fun a45 hR46 => ?_)
  refine r_assign (st_listV rfl) hR46 rfl rfl rfl (by decide) (fun a47 hR48 => ?_)
  refine r_assign (st_listV rfl) hR48 rfl rfl rfl (by decide) (fun a49 hR50 => ?_)
  refine wpList_nil ?_
  refine x_then_n (hK19 _ _ ?_)
  refine wp_seq_k (fun K51 hK52 => ?_)
  refine c_region ?_
  have hS53 := hS40.data (dAll []) all_nil
  refine m_buildSlice (ps := []) (cs := []) (st_listV rfl) hR50 hS53 rfl rfl rfl Tryd.underlying39 zi22 rfl rfl (by kernel_rfl) rfl (by decide) (fun a54 w55 g56 hR57 hS58 => ?_)
  refine r_assign (st_listV rfl) hR57 rfl rfl rfl (by decide) (fun a59 hR60 => ?_)
  refine wpList_nil ?_
  refine x_then_n (hK52 _ _ ?_)
  refine wp_seq_k (fun K61 hK62 => ?_)
  refine wp_seq_k (fun K63 hK64 => ?_)
  refine c_region ?_
  refine r_assign (st_listV rfl) hR60 rfl rfl rfl (by decide) (fun a65 hR66 => ?_)
  refine wpList_nil ?_
  refine x_then_n (hK64 _ _ ?_)
  refine wp_block ?_
  refine wp_loop_ghost (fun gn ga gw => ∃ k : Nat, ∃ Ls : List Sl, ∃ Ao : Option Addr, ∃ co : Nat, (Reg ga 42 [(1000000, .bool false), (0, .slice tA t.length tc), (2, .slice none 0 0), (4, .slice A34 ((bindL (nth t ((t.length) - (1)))).length) c35), (7, .int .i64 ((k : Nat) : Int)), (3, .int .i64 ((posL t (t.length - 1) k : Nat) : Int)), (6, .slice Ao ((Ls).length) co)]) ∧ (St w0 Z none_ gw [.row Ao ((Ls).length) co 22 1 (encSs Ls)] [dRow 4 tA t.length tc (encNs t), dRow 1 A34 ((bindL (nth t ((t.length) - (1)))).length) c35 (encIs (bindL (nth t ((t.length) - (1))))), dAll Ls]) ∧ (k ≤ many (nth t (t.length - 1))) ∧ (lsts Ls = ptD t k) ∧ (many (nth t (t.length - 1)) - k) = gn) _ ⟨0, [], (some ⟨g56, 0, none⟩), 0, (Reg.cons hR66 (Reg.cons hR66 (Reg.cons hR66 (Reg.cons hR66 (Reg.cons hR66 (Reg.consi hR66 (Reg.cons hR66 (hR66.nil) rfl) rfl (by rw [posL_zero hb (by omega)]; omega)) rfl) rfl) rfl) rfl) rfl), hS58, by omega, (ptD_zero t).symm, rfl⟩ ?_
  rintro r67 a68 w69 ⟨k, Ls, Ao, co, hR70, hS71, hk, hL, hn72⟩
  have hLn : Ls.length = k := by rw [← lsts_len, hL, ptD_length hb hk]
  refine wp_seq_k (fun K73 hK74 => ?_)
  refine wp_seq_k (fun K75 hK76 => ?_)
  refine c_region ?_
  refine r_move (st_listV rfl) hR70 rfl rfl rfl (by decide) (fun a77 hR78 => ?_)
  refine r_move (st_listV rfl) hR78 rfl rfl rfl (by decide) (fun a79 hR80 => ?_)
  refine r_len (st_listV rfl) hR80 rfl rfl rfl rfl Tryd.underlying66 (by decide) (fun a81 hR82 => ?_)
  refine r_lss (st_listV rfl) hR82 rfl rfl rfl rfl (by decide) (fun a83 hR84 => ?_)
  refine wpList_nil ?_
  refine x_then_n (hK76 _ _ ?_)
  rcases Decidable.em (((k : Nat) : Int) < (((bindL (nth t ((t.length) - (1)))).length : Nat) : Int)) with h85 | h85
  · skip
    obtain ⟨hps1, hps2, hps3, hps4⟩ := posL_step hb (show t.length - 1 < t.length by omega) (show k < many (nth t (t.length - 1)) by omega)
    have hps5 := hps3
    rw [show posL t (t.length - 1) k - 1 = (((posL t (t.length - 1) k : Nat) : Int) - 1).toNat by omega] at hps5
    have hR86 := hR84.setb (d := 25) (b := true) rfl (decide_eq_true h85)
    refine wp_cond_true (hR86.ev rfl) ?_
    refine wp_skip ?_
    refine x_then_n (hK74 _ _ ?_)
    refine wp_seq_k (fun K87 hK88 => ?_)
    refine wp_block ?_
    refine wp_seq_k (fun K89 hK90 => ?_)
    refine c_region ?_
    refine r_move (st_listV rfl) hR86 rfl rfl rfl (by decide) (fun a91 hR92 => ?_)
    refine r_move (st_listV rfl) hR92 rfl rfl rfl (by decide) (fun a93 hR94 => ?_)
    refine r_sub (z := (((posL t (t.length - 1) k : Nat) : Int) - 1)) (st_listV rfl) hR94 rfl rfl rfl rfl (by decide) (by omega) (by omega) (by omega) (fun a95 hR96 => ?_)
    have hS97 : St w0 Z none_ w69 [.row Ao ((Ls).length) co 22 1 (encSs Ls)] [dRow 4 tA t.length tc (encNs t), dRow 1 A34 ((bindL (nth t ((t.length) - (1)))).length) c35 (encIs (bindL (nth t ((t.length) - (1))))), dAll Ls] := hS71
    refine k_call (xs := [.tmp 28, .tmp 30]) (st_list rfl) hR96 rfl rfl rfl (by decide) ok57 (rfrom_calls _ (imm Z w0 [.row Ao ((Ls).length) co 22 1 (encSs Ls)] _) (fun _ h => h.1) tA tc t (((posL t (t.length - 1) k : Nat) : Int) - 1) (hS97.get (i := 0) rfl) (by first | assumption | omega | (simp; done) | (simp; omega)) (by first | assumption | omega | (simp; done) | (simp; omega)) (by first | assumption | omega | (simp; done) | (simp; omega)) (by first | assumption | omega | (simp; done) | (simp; omega)) (by first | assumption | omega | (simp; done) | (simp; omega))) ?_
    rintro e104 w99 ⟨rfl, hf102⟩
    have hS105 := hS97.below hf102.below
    refine ⟨_, rfl, fun a98 hR100 => ?_⟩
    refine r_assign (st_listV rfl) hR100 rfl rfl rfl (by decide) (fun a106 hR107 => ?_)
    refine wpList_nil ?_
    refine x_then_n (hK90 _ _ ?_)
    refine wp_seq_k (fun K108 hK109 => ?_)
    refine c_region ?_
    refine r_move (st_listV rfl) hR107 rfl rfl rfl (by decide) (fun a110 hR111 => ?_)
    refine r_move (st_listV rfl) hR111 rfl rfl rfl (by decide) (fun a112 hR113 => ?_)
    refine r_move (st_listV rfl) hR113 rfl rfl rfl (by decide) (fun a114 hR115 => ?_)
    refine m_sliceD (f := encN) (lo := some (.tmp 33)) (hi := some (.tmp 34)) (vlo := (some (.int .i64 ((frL t (((posL t (t.length - 1) k : Nat) : Int) - 1).toNat : Nat) : Int)))) (vhi := (some (.int .i64 ((posL t (t.length - 1) k : Nat) : Int)))) (kd := .i64) (kd' := .i64) (st_listV rfl) hR115 rfl rfl rfl rfl rfl (frL t (((posL t (t.length - 1) k : Nat) : Int) - 1).toNat) ((posL t (t.length - 1) k) - (frL t (((posL t (t.length - 1) k : Nat) : Int) - 1).toNat)) (.inl (by first | rfl | (congr 2; omega))) (.inl (by congr 2; omega)) (((t).drop (frL t (((posL t (t.length - 1) k : Nat) : Int) - 1).toNat)).take ((posL t (t.length - 1) k) - (frL t (((posL t (t.length - 1) k : Nat) : Int) - 1).toNat))) rfl encN_len (hS105.row (i := 0) rfl) Tryd.underlying22 sz32 (by omega) (by decide) (fun a116 A118 c119 hv121 hR117 => ?_)
    have hl122 : (((t).drop (frL t (((posL t (t.length - 1) k : Nat) : Int) - 1).toNat)).take ((posL t (t.length - 1) k) - (frL t (((posL t (t.length - 1) k : Nat) : Int) - 1).toNat))).length = (posL t (t.length - 1) k) - (frL t (((posL t (t.length - 1) k : Nat) : Int) - 1).toNat) := by first | (simp only [List.length_drop, List.length_take]; done) | (simp only [List.length_drop, List.length_take]; omega)
    have hS123 := hS105.data (dRow 4 A118 ((((t).drop (frL t (((posL t (t.length - 1) k : Nat) : Int) - 1).toNat)).take ((posL t (t.length - 1) k) - (frL t (((posL t (t.length - 1) k : Nat) : Int) - 1).toNat))).length) c119 (encNs (((t).drop (frL t (((posL t (t.length - 1) k : Nat) : Int) - 1).toNat)).take ((posL t (t.length - 1) k) - (frL t (((posL t (t.length - 1) k : Nat) : Int) - 1).toNat))))) hv121
    have hS124 := hS123.data (dAll [((A118, c119, ((t).drop (frL t (((posL t (t.length - 1) k : Nat) : Int) - 1).toNat)).take ((posL t (t.length - 1) k) - (frL t (((posL t (t.length - 1) k : Nat) : Int) - 1).toNat))) : Sl)]) (all_cons (hS123.get (i := 3) rfl) all_nil)
    refine m_buildSlice (ps := [(0, .tmp 35)]) (cs := [.slice A118 ((((t).drop (frL t (((posL t (t.length - 1) k : Nat) : Int) - 1).toNat)).take ((posL t (t.length - 1) k) - (frL t (((posL t (t.length - 1) k : Nat) : Int) - 1).toNat))).length) c119]) (st_listV rfl) hR117 hS124 rfl rfl rfl Tryd.underlying39 zi22 rfl rfl (by kernel_rfl) rfl (by decide) (fun a125 w126 g127 hR128 hS129 => ?_)
    refine r_assign (st_listV rfl) hR128 rfl rfl rfl (by decide) (fun a130 hR131 => ?_)
    refine wpList_nil ?_
    refine x_then_n (hK109 _ _ ?_)
    refine wp_seq_k (fun K132 hK133 => ?_)
    refine c_region ?_
    refine r_move (st_listV rfl) hR131 rfl rfl rfl (by decide) (fun a134 hR135 => ?_)
    refine r_move (st_listV rfl) hR135 rfl rfl rfl (by decide) (fun a136 hR137 => ?_)
    refine m_appendF (f := encS) (i := 1) ([((A118, c119, ((t).drop (frL t (((posL t (t.length - 1) k : Nat) : Int) - 1).toNat)).take ((posL t (t.length - 1) k) - (frL t (((posL t (t.length - 1) k : Nat) : Int) - 1).toNat))) : Sl)]) (Ls) (st_listV rfl) hR137 hS129 rfl rfl rfl rfl rfl encS_len (encS_one _) Tryd.underlying39 zi22 rfl rfl (own_lnews (f := encS) (hS129.res (i := 0) rfl)) rfl (by first | omega | (simp only [List.length_cons, List.length_nil]; omega)) (by decide) (fun a138 w139 A140 c141 hc142 hR143 hS144 => ?_)
    have hl146 : (([((A118, c119, ((t).drop (frL t (((posL t (t.length - 1) k : Nat) : Int) - 1).toNat)).take ((posL t (t.length - 1) k) - (frL t (((posL t (t.length - 1) k : Nat) : Int) - 1).toNat))) : Sl)]) ++ Ls : List Sl).length = (Ls).length + 1 := by first | (simp only [List.length_append, List.length_take, List.length_cons, List.length_nil]; done) | (simp only [List.length_append, List.length_take, List.length_cons, List.length_nil]; omega)
    have hS147 := hS144.erase 0
    have hS148 := hS147.data (dAll (([((A118, c119, ((t).drop (frL t (((posL t (t.length - 1) k : Nat) : Int) - 1).toNat)).take ((posL t (t.length - 1) k) - (frL t (((posL t (t.length - 1) k : Nat) : Int) - 1).toNat))) : Sl)]) ++ Ls)) (all_append (hS147.get (i := 4) rfl) (hS147.get (i := 2) rfl))
    refine r_assign (st_listV rfl) hR143 rfl rfl rfl (by decide) (fun a149 hR150 => ?_)
    refine wpList_nil ?_
    refine x_then_n (hK133 _ _ ?_)
    refine c_region ?_
    refine r_move (st_listV rfl) hR150 rfl rfl rfl (by decide) (fun a151 hR152 => ?_)
    refine r_assign (st_listV rfl) hR152 rfl rfl rfl (by decide) (fun a153 hR154 => ?_)
    refine wpList_nil ?_
    refine x_block_n ?_
    refine x_then_n (hK88 _ _ ?_)
    refine c_region ?_
    refine r_move (st_listV rfl) hR154 rfl rfl rfl (by decide) (fun a155 hR156 => ?_)
    refine r_add (z := ((k + 1 : Nat) : Int)) (st_listV rfl) hR156 rfl rfl rfl rfl (by decide) (by omega) (by omega) (by omega) (fun a157 hR158 => ?_)
    refine r_assign (st_listV rfl) hR158 rfl rfl rfl (by decide) (fun a159 hR160 => ?_)
    refine wpList_nil ?_
    have hS161 := hS148.forget 4
    have hS162 := hS161.forget 3
    have hS163 := hS162.forget 2
    exact ⟨_, by omega, k + 1, ([((A118, c119, ((t).drop (frL t (((posL t (t.length - 1) k : Nat) : Int) - 1).toNat)).take ((posL t (t.length - 1) k) - (frL t (((posL t (t.length - 1) k : Nat) : Int) - 1).toNat))) : Sl)]) ++ Ls, A140, c141, (Reg.cons hR160 (Reg.cons hR160 (Reg.cons hR160 (Reg.cons hR160 (Reg.cons hR160 (Reg.consi hR160 (Reg.cons hR160 (hR160.nil) rfl) rfl (by rw [show (((posL t (t.length - 1) k : Nat) : Int) - 1).toNat = posL t (t.length - 1) k - 1 by omega, hps3])) rfl) rfl) rfl) rfl) rfl), hS163, by omega, parts_step hb hL (by omega) (by rw [show (((posL t (t.length - 1) k : Nat) : Int) - 1).toNat = posL t (t.length - 1) k - 1 by omega, hps3]) rfl, rfl⟩
  · skip
    have hR164 := hR84.setb (d := 25) (b := false) rfl (decide_eq_false h85)
    refine wp_cond_false (hR164.ev rfl) ?_
    refine wp_exit ?_
    refine x_then_e ?_
    refine x_then_e ?_
    refine x_block_eq ?_
    refine x_then_n (hK62 _ _ ?_)
    refine wp_seq_k (fun K165 hK166 => ?_)
    refine c_region ?_
    refine r_move (st_listV rfl) hR164 rfl rfl rfl (by decide) (fun a167 hR168 => ?_)
    refine r_assign (st_listV rfl) hR168 rfl rfl rfl (by decide) (fun a169 hR170 => ?_)
    refine wpList_nil ?_
    refine x_then_n (hK166 _ _ ?_)
    refine wp_ret ?_
    refine e_ret1 hR170 rfl rfl rfl ?_
    have hc174 := own_cap (hS71.res (i := 0) rfl)
    obtain ⟨hS171, hrow172⟩ := hS71.row_data (i := 0) rfl (fun _ h => h)
    have hS173 := hS171.data (dRow 1 Ao ((Ls).length) co (encSs Ls)) ⟨hc174, hrow172⟩
    refine ⟨Ao, co, Ls, ?_, hS173.fr, ⟨by have := (hS173.row (i := 3) rfl).1; exact this, ((hS173.row (i := 3) rfl).2.mono (fun _ hk => ⟨imm_nxt hk, rfl⟩))⟩, ((dAll _).mono _ _ _ _ (Nat.le_refl _) (hS173.get (i := 2) rfl) (fun k hk => ⟨imm_nxt hk, rfl⟩)), (by rw [hL, ← ptD_all hb, show k = many (nth t (t.length - 1)) by omega])⟩
    exact congrArg Ending.returned (ret_s (by first | rfl | (simp; done)))
end Go.Proofs.YtobgdeffhdefeaaDoor
/- Contracts of functions, one theorem each: what the call returns, and that nothing old is changed. Printed by gen.py. -/
namespace Go.Proofs.YtobgdeffhdefeaaDoor
open Go Go.RowKit
set_option linter.unusedSimpArgs false
set_option linter.unusedVariables false

set_option maxRecDepth 100000 in
set_option maxHeartbeats 1000000 in
theorem rof_calls (w0 : World) (Z : Nat → Prop) (hZ : ∀ k, Z k → k < w0.heap.size) (n : Nd) (pA : Option Addr) (pc : Nat) (p : List Sl) (hp : (dRow 1 pA p.length pc (encSs p)).φ w0 Z) (hps : (dAll p).φ w0 Z) (hl : p.length ≤ 10) (hb : ∀ s ∈ p, s.2.2.length ≤ 1000000) :
    Calls Tryd.prog 25 [.agg #[.int .i64 (n.K), .int .i64 (n.N), .int .i64 (n.M), .string n.S], .slice pA p.length pc].toArray w0 (fun e w' => ∃ (rA0 : Option Addr) (rc0 : Nat), e = .returned (.slice rA0 ((lsts p).flatten ++ [n]).length rc0) ∧ Fr none_ w0 w' ∧ (dRow 4 rA0 (((lsts p).flatten ++ [n]).length) rc0 (encNs ((lsts p).flatten ++ [n]))).φ w' (nxt Z w0 w')) := by
  have hstart : ∀ k, Z k → imm Z w0 [] w0 k ∧ w0.heap[k]? = w0.heap[k]? := fun k hk => ⟨⟨hZ k hk, fun _ => hk, fun _ h => by cases h⟩, rfl⟩
  have hS3 : St w0 Z none_ w0 [] [dRow 1 pA p.length pc (encSs p), dAll p] := St.start w0 Z none_ _ (by
    intro d hd
    simp only [List.mem_cons, List.not_mem_nil, or_false] at hd
    rcases hd with rfl | rfl
    · exact Dat.mono _ _ _ _ _ (Nat.le_refl _) hp hstart
    · exact Dat.mono _ _ _ _ _ (Nat.le_refl _) hps hstart
    )
  refine c_enter Tryd.func25 rfl Tryd.ntmps25 rfl (fun a1 hR2 => ?_)
  refine wp_seq_k (fun K4 hK5 => ?_)
  refine c_region ?_
  refine m_box (cs := [.int .i64 (n.K), .int .i64 (n.N), .int .i64 (n.M), .string n.S]) (st_listV rfl) hR2 hS3 rfl rfl rfl rfl (by decide) (fun a6 w7 g8 hR9 hS10 => ?_)
  refine r_assign (st_listV rfl) hR9 rfl rfl rfl (by decide) (fun a11 hR12 => ?_)
  refine wpList_nil ?_
  refine x_then_n (hK5 _ _ ?_)
  refine wp_seq_k (fun K13 hK14 => ?_)
  refine c_region ?_
  refine m_buildSlice (ps := []) (cs := []) (st_listV rfl) hR12 hS10 rfl rfl rfl Tryd.underlying22 zi32 rfl rfl (by kernel_rfl) rfl (by decide) (fun a15 w16 g17 hR18 hS19 => ?_)
  refine r_assign (st_listV rfl) hR18 rfl rfl rfl (by decide) (fun a20 hR21 => ?_)
  refine wpList_nil ?_
  refine x_then_n (hK14 _ _ ?_)
  refine wp_seq_k (fun K22 hK23 => ?_)
  refine wp_seq_k (fun K24 hK25 => ?_)
  refine c_region ?_
  refine r_assign (st_listV rfl) hR21 rfl rfl rfl (by decide) (fun a26 hR27 => ?_)
  refine wpList_nil ?_
  refine x_then_n (hK25 _ _ ?_)
  refine wp_block ?_
  refine wp_loop_ghost (fun gn ga gw => ∃ k : Nat, ∃ Ao : Option Addr, ∃ co : Nat, (Reg ga 24 [(1000000, .bool false), (1, .slice pA p.length pc), (2, .pointer (some ⟨g8, 0, none⟩)), (4, .slice none 0 0), (6, .int .i64 ((k : Nat) : Int)), (5, .slice Ao (((lsts (p.take k)).flatten).length) co)]) ∧ (St w0 Z none_ gw [.box g8 32 [.int .i64 (n.K), .int .i64 (n.N), .int .i64 (n.M), .string n.S], .row Ao (((lsts (p.take k)).flatten).length) co 32 4 (encNs ((lsts (p.take k)).flatten))] [dRow 1 pA p.length pc (encSs p), dAll p]) ∧ (k ≤ p.length) ∧ (p.length - k) = gn) _ ⟨0, (some ⟨g17, 0, none⟩), 0, (Reg.cons hR27 (Reg.cons hR27 (Reg.cons hR27 (Reg.cons hR27 (Reg.cons hR27 (Reg.cons hR27 (hR27.nil) rfl) rfl) rfl) rfl) rfl) rfl), hS19, by omega, rfl⟩ ?_
  rintro r28 a29 w30 ⟨k, Ao, co, hR31, hS32, hk, hn33⟩
  have hfl := flat_le hb hk
  refine wp_seq_k (fun K34 hK35 => ?_)
  refine wp_seq_k (fun K36 hK37 => ?_)
  refine c_region ?_
  refine r_move (st_listV rfl) hR31 rfl rfl rfl (by decide) (fun a38 hR39 => ?_)
  refine r_move (st_listV rfl) hR39 rfl rfl rfl (by decide) (fun a40 hR41 => ?_)
  refine r_len (st_listV rfl) hR41 rfl rfl rfl rfl Tryd.underlying39 (by decide) (fun a42 hR43 => ?_)
  refine r_lss (st_listV rfl) hR43 rfl rfl rfl rfl (by decide) (fun a44 hR45 => ?_)
  refine wpList_nil ?_
  refine x_then_n (hK37 _ _ ?_)
  rcases Decidable.em (((k : Nat) : Int) < ((p.length : Nat) : Int)) with h46 | h46
  · skip
    have hR47 := hR45.setb (d := 11) (b := true) rfl (decide_eq_true h46)
    refine wp_cond_true (hR47.ev rfl) ?_
    refine wp_skip ?_
    refine x_then_n (hK35 _ _ ?_)
    refine wp_seq_k (fun K48 hK49 => ?_)
    refine wp_block ?_
    refine c_region ?_
    refine r_move (st_listV rfl) hR47 rfl rfl rfl (by decide) (fun a50 hR51 => ?_)
    refine r_move (st_listV rfl) hR51 rfl rfl rfl (by decide) (fun a52 hR53 => ?_)
    refine r_move (st_listV rfl) hR53 rfl rfl rfl (by decide) (fun a54 hR55 => ?_)
    refine m_index (i := k) (j := k * 1) (st_listV rfl) hR55 rfl rfl rfl rfl Tryd.underlying39 sz22 (by omega) (by omega) (ss_elem (t := p) (k := k) (hS32.row (i := 0) rfl).2 (by omega)).some_ rfl (by decide) (fun a56 hR57 => ?_)
    refine m_loadE (st_listV rfl) hR57 rfl rfl rfl 0 (k * 1) (ss_elem (t := p) (k := k) (hS32.row (i := 0) rfl).2 (by omega)) rfl rfl Tryd.underlying22 rfl (by decide) (fun a58 hR59 => ?_)
    have hS60 := hS32.data (dRow 4 ((nthS p k).1) ((nthS p k).2.2.length) ((nthS p k).2.1) (encNs ((nthS p k).2.2))) (all_at (t := p) (k := k) (hS32.get (i := 1) rfl) (by omega))
    refine m_appendF (f := encN) (i := 1) ((lsts (p.take k)).flatten) ((nthS p k).2.2) (st_listV rfl) hR59 hS60 rfl rfl rfl rfl rfl encN_len (encN_one _) Tryd.underlying22 zi32 rfl rfl (hS60.row (i := 2) rfl).2.news rfl (by first | omega | (simp only [List.length_cons, List.length_nil]; omega)) (by decide) (fun a61 w62 A63 c64 hc65 hR66 hS67 => ?_)
    have hl69 : (((lsts (p.take k)).flatten) ++ ((nthS p k).2.2)).length = ((lsts (p.take k)).flatten).length + (nthS p k).2.2.length := by first | (simp only [List.length_append, List.length_take, List.length_cons, List.length_nil]; done) | (simp only [List.length_append, List.length_take, List.length_cons, List.length_nil]; omega)
    refine r_assign (st_listV rfl) hR66 rfl rfl rfl (by decide) (fun a70 hR71 => ?_)
    refine wpList_nil ?_
    refine x_block_n ?_
    refine x_then_n (hK49 _ _ ?_)
    refine c_region ?_
    refine r_move (st_listV rfl) hR71 rfl rfl rfl (by decide) (fun a72 hR73 => ?_)
    refine r_add (z := ((k + 1 : Nat) : Int)) (st_listV rfl) hR73 rfl rfl rfl rfl (by decide) (by omega) (by omega) (by omega) (fun a74 hR75 => ?_)
    refine r_assign (st_listV rfl) hR75 rfl rfl rfl (by decide) (fun a76 hR77 => ?_)
    refine wpList_nil ?_
    have he78 : ((lsts (p.take k)).flatten) ++ ((nthS p k).2.2) = (lsts (p.take (k + 1))).flatten := (flat_step (by omega)).symm
    have hR79 := hR77
    have hS80 := hS67
    rw [he78] at hR79 hS80
    have hS81 := hS80.forget 2
    exact ⟨_, by omega, k + 1, A63, c64, (Reg.cons hR79 (Reg.cons hR79 (Reg.cons hR79 (Reg.cons hR79 (Reg.cons hR79 (Reg.cons hR79 (hR79.nil) rfl) rfl) rfl) rfl) rfl) rfl), hS81, by omega, rfl⟩
  · skip
    have hR82 := hR45.setb (d := 11) (b := false) rfl (decide_eq_false h46)
    refine wp_cond_false (hR82.ev rfl) ?_
    refine wp_exit ?_
    refine x_then_e ?_
    refine x_then_e ?_
    refine x_block_eq ?_
    refine x_then_n (hK23 _ _ ?_)
    refine wp_seq_k (fun K83 hK84 => ?_)
    refine c_region ?_
    refine r_move (st_listV rfl) hR82 rfl rfl rfl (by decide) (fun a85 hR86 => ?_)
    refine m_loadN (i := 0) (vs := [.int .i64 (n.K), .int .i64 (n.N), .int .i64 (n.M), .string n.S]) (st_listV rfl) hR86 hS32 rfl rfl rfl rfl rfl Tryd.underlying32 rfl sz32 (by decide) (fun a87 hR88 => ?_)
    refine m_buildSlice (ps := [(0, .tmp 21)]) (cs := [.int .i64 (n.K), .int .i64 (n.N), .int .i64 (n.M), .string n.S]) (st_listV rfl) hR88 hS32 rfl rfl rfl Tryd.underlying22 zi32 rfl rfl (by kernel_rfl) rfl (by decide) (fun a89 w90 g91 hR92 hS93 => ?_)
    refine m_appendF (f := encN) (i := 1) ((lsts (p.take k)).flatten) ([n]) (st_listV rfl) hR92 hS93 rfl rfl rfl rfl rfl encN_len (encN_one _) Tryd.underlying22 zi32 rfl rfl (own_lnews (f := encN) (hS93.res (i := 2) rfl)) rfl (by first | omega | (simp only [List.length_cons, List.length_nil]; omega)) (by decide) (fun a94 w95 A96 c97 hc98 hR99 hS100 => ?_)
    have hl102 : (((lsts (p.take k)).flatten) ++ ([n]) : List Nd).length = ((lsts (p.take k)).flatten).length + 1 := by first | (simp only [List.length_append, List.length_take, List.length_cons, List.length_nil]; done) | (simp only [List.length_append, List.length_take, List.length_cons, List.length_nil]; omega)
    have hS103 := hS100.erase 2
    refine r_assign (st_listV rfl) hR99 rfl rfl rfl (by decide) (fun a104 hR105 => ?_)
    refine wpList_nil ?_
    refine x_then_n (hK84 _ _ ?_)
    refine wp_ret ?_
    refine e_ret1 hR105 rfl rfl rfl ?_
    have he106 : (lsts p).flatten ++ [n] = ((lsts (p.take k)).flatten) ++ ([n]) := by rw [List.take_of_length_le (by omega)]
    rw [he106]
    have hc110 := own_cap (hS103.res (i := 1) rfl)
    obtain ⟨hS107, hrow108⟩ := hS103.row_data (i := 1) rfl (fun _ h => h)
    have hS109 := hS107.data (dRow 4 A96 ((((lsts (p.take k)).flatten) ++ ([n]) : List Nd).length) c97 (encNs (((lsts (p.take k)).flatten) ++ ([n])))) ⟨hc110, hrow108⟩
    refine ⟨A96, c97, ?_, hS109.fr, ⟨by have := (hS109.row (i := 2) rfl).1; exact this, ((hS109.row (i := 2) rfl).2.mono (fun _ hk => ⟨imm_nxt hk, rfl⟩))⟩⟩
    exact congrArg Ending.returned rfl
end Go.Proofs.YtobgdeffhdefeaaDoor
/- Contracts of functions, one theorem each: what the call returns, and that nothing old is changed. Printed by gen.py. -/
namespace Go.Proofs.YtobgdeffhdefeaaDoor
open Go Go.RowKit
set_option linter.unusedSimpArgs false
set_option linter.unusedVariables false

set_option maxRecDepth 100000 in
set_option maxHeartbeats 1000000 in
theorem eraseTwice_calls (w0 : World) (Z : Nat → Prop) (hZ : ∀ k, Z k → k < w0.heap.size) (tA : Option Addr) (tc : Nat) (t : List Nd) (hShp : Shapes w0 Z) (ht : (dRow 4 tA t.length tc (encNs t)).φ w0 Z) :
    Calls Tryd.prog 14 [.slice tA t.length tc].toArray w0 (fun e w' => e = .returned (.bool (true)) ∧ Fr none_ w0 w') := by
  have hstart : ∀ k, Z k → imm Z w0 [] w0 k ∧ w0.heap[k]? = w0.heap[k]? := fun k hk => ⟨⟨hZ k hk, fun _ => hk, fun _ h => by cases h⟩, rfl⟩
  have hS3 : St w0 Z none_ w0 [] [dShapes, dRow 4 tA t.length tc (encNs t)] := St.start w0 Z none_ _ (by
    intro d hd
    simp only [List.mem_cons, List.not_mem_nil, or_false] at hd
    rcases hd with rfl | rfl
    · exact Dat.mono _ _ _ _ _ (Nat.le_refl _) hShp hstart
    · exact Dat.mono _ _ _ _ _ (Nat.le_refl _) ht hstart
    )
  refine c_enter Tryd.func14 rfl Tryd.ntmps14 rfl (fun a1 hR2 => ?_)
  refine wp_seq_k (fun K4 hK5 => ?_)
  refine c_region ?_
  refine r_assign (st_listV rfl) hR2 rfl rfl rfl (by decide) (fun a6 hR7 => ?_)
  refine wpList_nil ?_
  refine x_then_n (hK5 _ _ ?_)
  refine wp_seq_k (fun K8 hK9 => ?_)
  refine wp_seq_k (fun K10 hK11 => ?_)
  refine c_region ?_
  refine r_move (st_listV rfl) hR7 rfl rfl rfl (by decide) (fun a12 hR13 => ?_)
  have hS14 : St w0 Z none_ w0 [] [dShapes, dRow 4 tA t.length tc (encNs t)] := hS3
  refine k_call (xs := [.tmp 15]) (st_list rfl) hR13 rfl rfl rfl (by decide) ok26 (heavy11_calls _ (imm Z w0 [] _) (fun _ h => h.1) tA tc t (hS14.get (i := 1) rfl)) ?_
  rintro e21 w16 ⟨rfl, hf19⟩
  have hS22 := hS14.below hf19.below
  refine ⟨_, rfl, fun a15 hR17 => ?_⟩
  refine r_move (st_listV rfl) hR17 rfl rfl rfl (by decide) (fun a23 hR24 => ?_)
  refine l_join (fun ga gw => Reg ga 130 [(0, .slice tA t.length tc), (2, .bool false), (20, .bool ((heavyB 200 t) || (!true))), (1000000, .bool false)] ∧ St w0 Z none_ gw [] [dShapes, dRow 4 tA t.length tc (encNs t)]) 3 ?_ ?_
  · skip
    rcases Bool.eq_false_or_eq_true (heavyB 200 t) with h25 | h25
    · skip
      have hR26 := hR24.setb (d := 17) (b := true) rfl h25
      refine s_pass hR26 rfl (by decide) (want_f hR26 rfl rfl rfl (by decide) rfl rfl) (fun a27 hR28 => ?_)
      refine s_pass hR28 rfl (by decide) (want_f hR28 rfl rfl rfl (by decide) rfl rfl) (fun a29 hR30 => ?_)
      refine r_pick_t (st_listV rfl) hR30 rfl rfl rfl rfl (by decide) (fun a31 hR32 => ?_)
      refine wpList_nil ?_
      exact x_then_n ⟨(Reg.cons hR32 (Reg.cons hR32 (Reg.consb hR32 (Reg.cons hR32 (hR32.nil) rfl) rfl (by first | rfl | (simp only [h25, Bool.true_and, Bool.and_true, Bool.false_and, Bool.and_false, Bool.true_or, Bool.or_true, Bool.false_or, Bool.or_false, Bool.not_true, Bool.not_false, if_true, ite_true, ite_false, Bool.false_eq_true]; done) | (simp [h25]; done) | (simp [h25]; omega))) rfl) rfl), hS22⟩
    · skip
      obtain ⟨hlt, hst⟩ := heavy_false h25
      obtain ⟨hlt, hst⟩ := heavy_false h25
      have hR33 := hR24.setb (d := 17) (b := false) rfl h25
      have hS34 : St w0 Z none_ w16 [] [dShapes, dRow 4 tA t.length tc (encNs t)] := hS22
      refine k_call (xs := []) (st_list_w (want_t hR33 rfl rfl rfl (by decide) rfl)) hR33 rfl rfl rfl (by decide) ok27 (shown11_calls _ (imm Z w0 [] _) (fun _ h => h.1) (hS34.get (i := 0) rfl)) ?_
      rintro e41 w36 ⟨rfl, hf39⟩
      have hS42 := hS34.below hf39.below
      refine ⟨_, rfl, fun a35 hR37 => ?_⟩
      refine r_not (st_listV_w (want_t hR37 rfl rfl rfl (by decide) rfl)) hR37 rfl rfl rfl (by decide) (fun a43 hR44 => ?_)
      refine r_pick_f (st_listV rfl) hR44 rfl rfl rfl rfl (by decide) (fun a45 hR46 => ?_)
      refine wpList_nil ?_
      exact x_then_n ⟨(Reg.cons hR46 (Reg.cons hR46 (Reg.consb hR46 (Reg.cons hR46 (hR46.nil) rfl) rfl (by first | rfl | (simp only [h25, Bool.true_and, Bool.and_true, Bool.false_and, Bool.and_false, Bool.true_or, Bool.or_true, Bool.false_or, Bool.or_false, Bool.not_true, Bool.not_false, if_true, ite_true, ite_false, Bool.false_eq_true]; done) | (simp [h25]; done) | (simp [h25]; omega))) rfl) rfl), hS42⟩
  rintro a47 w48 ⟨hR49, hS50⟩
  refine wpList_nil ?_
  refine x_then_n (hK11 _ _ ?_)
  rcases Bool.eq_false_or_eq_true (((heavyB 200 t) || (!true))) with h51 | h51
  · skip
    have hq52 := h51
    try simp only [Bool.or_eq_true, Bool.and_eq_true, Bool.not_eq_true', Bool.not_eq_false', decide_eq_true_eq, decide_eq_false_iff_not, Bool.or_eq_false_iff, Bool.and_eq_false_iff] at hq52
    have hR53 := hR49.setb (d := 20) (b := true) rfl h51
    refine wp_cond_true (hR53.ev rfl) ?_
    refine wp_seq_k (fun K54 hK55 => ?_)
    refine c_region ?_
    have hS56 : St w0 Z none_ w48 [] [dShapes, dRow 4 tA t.length tc (encNs t)] := hS50
    refine k_call (xs := []) (st_list rfl) hR53 rfl rfl rfl (by decide) ok27 (shown11_calls _ (imm Z w0 [] _) (fun _ h => h.1) (hS56.get (i := 0) rfl)) ?_
    rintro e63 w58 ⟨rfl, hf61⟩
    have hS64 := hS56.below hf61.below
    refine ⟨_, rfl, fun a57 hR59 => ?_⟩
    refine r_assign (st_listV rfl) hR59 rfl rfl rfl (by decide) (fun a65 hR66 => ?_)
    refine wpList_nil ?_
    refine x_then_n (hK55 _ _ ?_)
    refine wp_ret ?_
    refine x_then_r ?_
    refine e_ret1 hR66 rfl rfl rfl ?_
    refine ⟨?_, hS64.fr⟩
    exact congrArg Ending.returned (ret_b (by first | rfl | (simp [erA_no None]; done) | exact decide_eq_true (by omega) | (simp; omega)))
  · skip
    have h67 := or_fl h51
    obtain ⟨hlt, hst⟩ := heavy_false h67
    have h68 := or_fr h51
    have h69 := not_f h68
    have hR70 := hR49.setb (d := 20) (b := false) rfl h51
    refine wp_cond_false (hR70.ev rfl) ?_
    refine wp_skip ?_
    refine x_then_n (hK9 _ _ ?_)
    refine wp_seq_k (fun K71 hK72 => ?_)
    refine c_region ?_
    refine r_move (st_listV rfl) hR70 rfl rfl rfl (by decide) (fun a73 hR74 => ?_)
    have hS75 : St w0 Z none_ w48 [] [dShapes, dRow 4 tA t.length tc (encNs t)] := hS50
    refine k_call (xs := [.tmp 23]) (st_list rfl) hR74 rfl rfl rfl (by decide) ok28 (erase_calls _ (imm Z w0 [] _) (fun _ h => h.1) tA tc t (hS75.get (i := 0) rfl) (hS75.get (i := 1) rfl) (by first | assumption | omega | (simp; done) | (simp; omega)) (by first | assumption | omega | (simp; done) | (simp; omega))) ?_
    rintro e85 w77 ⟨A81, c82, rfl, hf80, hd83⟩
    have hS86 := hS75.below hf80.below
    have hS87 := hS86.data (dRow 4 A81 ((erA t).length) c82 (encNs (erA t))) ⟨hd83.1, hd83.2.mono (fun _ hk => ⟨nxt_imm hS75 hk, rfl⟩)⟩
    refine ⟨_, rfl, fun a76 hR78 => ?_⟩
    refine r_move (st_listV rfl) hR78 rfl rfl rfl (by decide) (fun a88 hR89 => ?_)
    refine r_extract (st_listV rfl) hR89 rfl rfl rfl rfl (by decide) (fun a90 hR91 => ?_)
    refine r_extract (st_listV rfl) hR91 rfl rfl rfl rfl (by decide) (fun a92 hR93 => ?_)
    refine r_assign (st_listV rfl) hR93 rfl rfl rfl (by decide) (fun a94 hR95 => ?_)
    refine r_assign (st_listV rfl) hR95 rfl rfl rfl (by decide) (fun a96 hR97 => ?_)
    refine wpList_nil ?_
    refine x_then_n (hK72 _ _ ?_)
    refine wp_seq_k (fun K98 hK99 => ?_)
    refine wp_seq_k (fun K100 hK101 => ?_)
    refine c_region ?_
    refine r_move (st_listV rfl) hR97 rfl rfl rfl (by decide) (fun a102 hR103 => ?_)
    refine r_move (st_listV rfl) hR103 rfl rfl rfl (by decide) (fun a104 hR105 => ?_)
    have hS106 : St w0 Z none_ w77 [] [dShapes, dRow 4 tA t.length tc (encNs t), dRow 4 A81 ((erA t).length) c82 (encNs (erA t))] := hS87
    refine k_call (xs := [.tmp 28]) (st_list rfl) hR105 rfl rfl rfl (by decide) ok19 (rcheck_calls _ (imm Z w0 [] _) (fun _ h => h.1) tA tc t (hS106.get (i := 1) rfl) (by first | assumption | omega | (simp; done) | (simp; omega)) (by first | assumption | omega | (simp; done) | (simp; omega))) ?_
    rintro e113 w108 ⟨rfl, hf111⟩
    have hS114 := hS106.below hf111.below
    refine ⟨_, rfl, fun a107 hR109 => ?_⟩
    refine r_neq (st_listV rfl) hR109 rfl rfl rfl rfl (by decide) (fun a115 hR116 => ?_)
    refine wpList_nil ?_
    refine x_then_n (hK101 _ _ ?_)
    have h117 : ((chk t)) = ((chk t)) := rfl
    have hR118 := hR116.setb (d := 30) (b := false) rfl (by rw [(decide_eq_true h117)]; rfl)
    refine wp_cond_false (hR118.ev rfl) ?_
    refine wp_skip ?_
    refine x_then_n (hK99 _ _ ?_)
    refine wp_seq_k (fun K119 hK120 => ?_)
    refine wp_seq_k (fun K121 hK122 => ?_)
    refine c_region ?_
    refine r_move (st_listV rfl) hR118 rfl rfl rfl (by decide) (fun a123 hR124 => ?_)
    refine r_neq (st_listV rfl) hR124 rfl rfl rfl rfl (by decide) (fun a125 hR126 => ?_)
    refine wpList_nil ?_
    refine x_then_n (hK122 _ _ ?_)
    rcases Decidable.em (((chk t)) = 0) with h127 | h127
    · skip
      have hpt := chk_pos h127
      obtain ⟨⟨hE1, hE2, hE3, hE4, hE5⟩, ⟨hS1, hS2, hS3⟩, hP1, hP2, hP3⟩ := twice_facts h127 hst
      have hR128 := hR126.setb (d := 32) (b := false) rfl (by rw [(decide_eq_true h127)]; rfl)
      refine wp_cond_false (hR128.ev rfl) ?_
      refine wp_skip ?_
      refine x_then_n (hK120 _ _ ?_)
      refine wp_seq_k (fun K129 hK130 => ?_)
      refine c_region ?_
      refine r_move (st_listV rfl) hR128 rfl rfl rfl (by decide) (fun a131 hR132 => ?_)
      have hS133 : St w0 Z none_ w108 [] [dShapes, dRow 4 tA t.length tc (encNs t), dRow 4 A81 ((erA t).length) c82 (encNs (erA t))] := hS114
      refine k_call (xs := [.tmp 37]) (st_list rfl) hR132 rfl rfl rfl (by decide) ok28 (erase_calls _ (imm Z w0 [] _) (fun _ h => h.1) A81 c82 (erA t) (hS133.get (i := 0) rfl) (hS133.get (i := 2) rfl) (by first | assumption | omega | (simp; done) | (simp; omega)) (by first | assumption | omega | (simp; done) | (simp; omega))) ?_
      rintro e143 w135 ⟨A139, c140, rfl, hf138, hd141⟩
      have hS144 := hS133.below hf138.below
      have hS145 := hS144.data (dRow 4 A139 ((erA (erA t)).length) c140 (encNs (erA (erA t)))) ⟨hd141.1, hd141.2.mono (fun _ hk => ⟨nxt_imm hS133 hk, rfl⟩)⟩
      refine ⟨_, rfl, fun a134 hR136 => ?_⟩
      refine r_move (st_listV rfl) hR136 rfl rfl rfl (by decide) (fun a146 hR147 => ?_)
      refine r_extract (st_listV rfl) hR147 rfl rfl rfl rfl (by decide) (fun a148 hR149 => ?_)
      refine r_extract (st_listV rfl) hR149 rfl rfl rfl rfl (by decide) (fun a150 hR151 => ?_)
      refine r_assign (st_listV rfl) hR151 rfl rfl rfl (by decide) (fun a152 hR153 => ?_)
      refine r_assign (st_listV rfl) hR153 rfl rfl rfl (by decide) (fun a154 hR155 => ?_)
      refine wpList_nil ?_
      refine x_then_n (hK130 _ _ ?_)
      refine wp_seq_k (fun K156 hK157 => ?_)
      refine c_region ?_
      refine r_move (st_listV rfl) hR155 rfl rfl rfl (by decide) (fun a158 hR159 => ?_)
      have hS160 : St w0 Z none_ w135 [] [dShapes, dRow 4 tA t.length tc (encNs t), dRow 4 A81 ((erA t).length) c82 (encNs (erA t)), dRow 4 A139 ((erA (erA t)).length) c140 (encNs (erA (erA t)))] := hS145
      refine k_call (xs := [.tmp 42]) (st_list rfl) hR159 rfl rfl rfl (by decide) ok41 (strip_calls _ (imm Z w0 [] _) (fun _ h => h.1) tA tc t (hS160.get (i := 0) rfl) (hS160.get (i := 1) rfl) (by first | assumption | omega | (simp; done) | (simp; omega)) (by first | assumption | omega | (simp; done) | (simp; omega))) ?_
      rintro e170 w162 ⟨A166, c167, rfl, hf165, hd168⟩
      have hS171 := hS160.below hf165.below
      have hS172 := hS171.data (dRow 4 A166 ((stA t).length) c167 (encNs (stA t))) ⟨hd168.1, hd168.2.mono (fun _ hk => ⟨nxt_imm hS160 hk, rfl⟩)⟩
      refine ⟨_, rfl, fun a161 hR163 => ?_⟩
      refine r_move (st_listV rfl) hR163 rfl rfl rfl (by decide) (fun a173 hR174 => ?_)
      refine r_extract (st_listV rfl) hR174 rfl rfl rfl rfl (by decide) (fun a175 hR176 => ?_)
      refine r_extract (st_listV rfl) hR176 rfl rfl rfl rfl (by decide) (fun a177 hR178 => ?_)
      refine r_assign (st_listV rfl) hR178 rfl rfl rfl (by decide) (fun a179 hR180 => ?_)
      refine r_assign (st_listV rfl) hR180 rfl rfl rfl (by decide) (fun a181 hR182 => ?_)
      refine wpList_nil ?_
      refine x_then_n (hK157 _ _ ?_)
      refine wp_seq_k (fun K183 hK184 => ?_)
      refine c_region ?_
      refine r_move (st_listV rfl) hR182 rfl rfl rfl (by decide) (fun a185 hR186 => ?_)
      have hS187 : St w0 Z none_ w162 [] [dShapes, dRow 4 tA t.length tc (encNs t), dRow 4 A81 ((erA t).length) c82 (encNs (erA t)), dRow 4 A139 ((erA (erA t)).length) c140 (encNs (erA (erA t))), dRow 4 A166 ((stA t).length) c167 (encNs (stA t))] := hS172
      refine k_call (xs := [.tmp 47]) (st_list rfl) hR186 rfl rfl rfl (by decide) ok31 (eraProofs_calls _ (imm Z w0 [] _) (fun _ h => h.1) tA tc t (hS187.get (i := 0) rfl) (hS187.get (i := 1) rfl) (by first | assumption | omega | (simp; done) | (simp; omega)) (by first | assumption | omega | (simp; done) | (simp; omega))) ?_
      rintro e200 w189 ⟨A193, c194, rL195, rfl, hf192, hd196, hd197, hL198⟩
      have hS201 := hS187.below hf192.below
      have hS202 := hS201.data (dRow 1 A193 rL195.length c194 (encSs rL195)) ⟨hd196.1, hd196.2.mono (fun _ hk => ⟨nxt_imm hS187 hk, rfl⟩)⟩
      have hS203 := hS202.data (dAll rL195) ((dAll _).mono _ _ _ _ (Nat.le_refl _) hd197 (fun _ hk => ⟨nxt_imm hS187 hk, rfl⟩))
      refine ⟨_, rfl, fun a188 hR190 => ?_⟩
      refine r_move (st_listV rfl) hR190 rfl rfl rfl (by decide) (fun a204 hR205 => ?_)
      refine r_extract (st_listV rfl) hR205 rfl rfl rfl rfl (by decide) (fun a206 hR207 => ?_)
      refine r_extract (st_listV rfl) hR207 rfl rfl rfl rfl (by decide) (fun a208 hR209 => ?_)
      refine r_assign (st_listV rfl) hR209 rfl rfl rfl (by decide) (fun a210 hR211 => ?_)
      refine r_assign (st_listV rfl) hR211 rfl rfl rfl (by decide) (fun a212 hR213 => ?_)
      refine wpList_nil ?_
      refine x_then_n (hK184 _ _ ?_)
      refine wp_seq_k (fun K214 hK215 => ?_)
      refine wp_seq_k (fun K216 hK217 => ?_)
      refine c_region ?_
      refine r_move (st_listV rfl) hR213 rfl rfl rfl (by decide) (fun a218 hR219 => ?_)
      refine r_neq (st_listV rfl) hR219 rfl rfl rfl rfl (by decide) (fun a220 hR221 => ?_)
      refine r_move (st_listV rfl) hR221 rfl rfl rfl (by decide) (fun a222 hR223 => ?_)
      have h232 : ((chk (erA t))) = 0 := hE2
      have hR233 := hR223.setb (d := 53) (b := false) rfl (by rw [(decide_eq_true h232)]; rfl)
      refine r_move (st_listV_w (want_t hR233 rfl rfl rfl (by decide) rfl)) hR233 rfl rfl rfl (by decide) (fun a234 hR235 => ?_)
      refine r_neq (st_listV_w (want_t hR235 rfl rfl rfl (by decide) rfl)) hR235 rfl rfl rfl rfl (by decide) (fun a236 hR237 => ?_)
      refine r_pick_f (st_listV rfl) hR237 rfl rfl rfl rfl (by decide) (fun a238 hR239 => ?_)
      refine r_move (st_listV rfl) hR239 rfl rfl rfl (by decide) (fun a240 hR241 => ?_)
      have hR242 := hR241.setb (d := 57) (b := false) rfl (by rw [(decide_eq_true h127)]; rfl)
      refine r_move (st_listV_w (want_t hR242 rfl rfl rfl (by decide) rfl)) hR242 rfl rfl rfl (by decide) (fun a243 hR244 => ?_)
      refine r_neq (st_listV_w (want_t hR244 rfl rfl rfl (by decide) rfl)) hR244 rfl rfl rfl rfl (by decide) (fun a245 hR246 => ?_)
      refine r_pick_f (st_listV rfl) hR246 rfl rfl rfl rfl (by decide) (fun a247 hR248 => ?_)
      refine r_move (st_listV rfl) hR248 rfl rfl rfl (by decide) (fun a249 hR250 => ?_)
      have hR251 := hR250.setb (d := 61) (b := false) rfl (by rw [(decide_eq_true h127)]; rfl)
      refine r_move (st_listV_w (want_t hR251 rfl rfl rfl (by decide) rfl)) hR251 rfl rfl rfl (by decide) (fun a252 hR253 => ?_)
      refine r_move (st_listV_w (want_t hR253 rfl rfl rfl (by decide) rfl)) hR253 rfl rfl rfl (by decide) (fun a254 hR255 => ?_)
      have hS256 : St w0 Z none_ w189 [] [dShapes, dRow 4 tA t.length tc (encNs t), dRow 4 A81 ((erA t).length) c82 (encNs (erA t)), dRow 4 A139 ((erA (erA t)).length) c140 (encNs (erA (erA t))), dRow 4 A166 ((stA t).length) c167 (encNs (stA t)), dRow 1 A193 rL195.length c194 (encSs rL195), dAll rL195] := hS203
      refine k_call (xs := [.tmp 62, .tmp 63]) (st_list_w (want_t hR255 rfl rfl rfl (by decide) rfl)) hR255 rfl rfl rfl (by decide) ok30 (rsame_calls _ (imm Z w0 [] _) (fun _ h => h.1) A81 c82 (erA t) A139 c140 (erA (erA t)) (hS256.get (i := 2) rfl) (hS256.get (i := 3) rfl) (by first | assumption | omega | (simp; done) | (simp; omega))) ?_
      rintro e263 w258 ⟨rfl, hf261⟩
      have hS264 := hS256.below hf261.below
      refine ⟨_, rfl, fun a257 hR259 => ?_⟩
      refine r_not (st_listV_w (want_t hR259 rfl rfl rfl (by decide) rfl)) hR259 rfl rfl rfl (by decide) (fun a265 hR266 => ?_)
      refine r_pick_f (st_listV rfl) hR266 rfl rfl rfl rfl (by decide) (fun a267 hR268 => ?_)
      refine r_move (st_listV rfl) hR268 rfl rfl rfl (by decide) (fun a269 hR270 => ?_)
      have h289 : (decide ((erA t) = (erA (erA t)))) = true := decide_eq_true hE4.symm
      have h290 := of_decide_eq_true h289
      have hR291 := hR270.setb (d := 67) (b := false) rfl (by rw [h289]; rfl)
      refine r_move (st_listV_w (want_t hR291 rfl rfl rfl (by decide) rfl)) hR291 rfl rfl rfl (by decide) (fun a292 hR293 => ?_)
      have hS294 : St w0 Z none_ w258 [] [dShapes, dRow 4 tA t.length tc (encNs t), dRow 4 A81 ((erA t).length) c82 (encNs (erA t)), dRow 4 A139 ((erA (erA t)).length) c140 (encNs (erA (erA t))), dRow 4 A166 ((stA t).length) c167 (encNs (stA t)), dRow 1 A193 rL195.length c194 (encSs rL195), dAll rL195] := hS264
      refine k_call (xs := [.tmp 68]) (st_list_w (want_t hR293 rfl rfl rfl (by decide) rfl)) hR293 rfl rfl rfl (by decide) ok19 (rcheck_calls _ (imm Z w0 [] _) (fun _ h => h.1) A81 c82 (erA t) (hS294.get (i := 2) rfl) (by first | assumption | omega | (simp; done) | (simp; omega)) (by first | assumption | omega | (simp; done) | (simp; omega))) ?_
      rintro e301 w296 ⟨rfl, hf299⟩
      have hS302 := hS294.below hf299.below
      refine ⟨_, rfl, fun a295 hR297 => ?_⟩
      refine r_neq (st_listV_w (want_t hR297 rfl rfl rfl (by decide) rfl)) hR297 rfl rfl rfl rfl (by decide) (fun a303 hR304 => ?_)
      refine r_pick_f (st_listV rfl) hR304 rfl rfl rfl rfl (by decide) (fun a305 hR306 => ?_)
      refine r_move (st_listV rfl) hR306 rfl rfl rfl (by decide) (fun a307 hR308 => ?_)
      have hR309 := hR308.setb (d := 72) (b := false) rfl (by rw [(decide_eq_true h232)]; rfl)
      refine r_move (st_listV_w (want_t hR309 rfl rfl rfl (by decide) rfl)) hR309 rfl rfl rfl (by decide) (fun a310 hR311 => ?_)
      have hS312 : St w0 Z none_ w296 [] [dShapes, dRow 4 tA t.length tc (encNs t), dRow 4 A81 ((erA t).length) c82 (encNs (erA t)), dRow 4 A139 ((erA (erA t)).length) c140 (encNs (erA (erA t))), dRow 4 A166 ((stA t).length) c167 (encNs (stA t)), dRow 1 A193 rL195.length c194 (encSs rL195), dAll rL195] := hS302
      refine k_call (xs := [.tmp 73]) (st_list_w (want_t hR311 rfl rfl rfl (by decide) rfl)) hR311 rfl rfl rfl (by decide) ok19 (rcheck_calls _ (imm Z w0 [] _) (fun _ h => h.1) A166 c167 (stA t) (hS312.get (i := 4) rfl) (by first | assumption | omega | (simp; done) | (simp; omega)) (by first | assumption | omega | (simp; done) | (simp; omega))) ?_
      rintro e319 w314 ⟨rfl, hf317⟩
      have hS320 := hS312.below hf317.below
      refine ⟨_, rfl, fun a313 hR315 => ?_⟩
      refine r_neq (st_listV_w (want_t hR315 rfl rfl rfl (by decide) rfl)) hR315 rfl rfl rfl rfl (by decide) (fun a321 hR322 => ?_)
      refine r_pick_f (st_listV rfl) hR322 rfl rfl rfl rfl (by decide) (fun a323 hR324 => ?_)
      refine wpList_nil ?_
      refine x_then_n (hK217 _ _ ?_)
      have h325 : ((chk (stA t))) = 0 := hS2
      have hR326 := hR324.setb (d := 76) (b := false) rfl (by rw [(decide_eq_true h325)]; rfl)
      refine wp_cond_false (hR326.ev rfl) ?_
      refine wp_skip ?_
      refine x_then_n (hK215 _ _ ?_)
      refine wp_seq_k (fun K327 hK328 => ?_)
      refine c_region ?_
      refine r_assign (st_listV rfl) hR326 rfl rfl rfl (by decide) (fun a329 hR330 => ?_)
      refine wpList_nil ?_
      refine x_then_n (hK328 _ _ ?_)
      refine wp_seq_k (fun K331 hK332 => ?_)
      refine wp_seq_k (fun K333 hK334 => ?_)
      refine c_region ?_
      refine r_assign (st_listV rfl) hR330 rfl rfl rfl (by decide) (fun a335 hR336 => ?_)
      refine wpList_nil ?_
      refine x_then_n (hK334 _ _ ?_)
      refine wp_block ?_
      refine wp_loop_ghost (fun gn ga gw => ∃ k : Nat, (Reg ga 130 [(0, .slice tA t.length tc), (1000000, .bool false), (3, .slice A81 ((erA t).length) c82), (9, .slice A193 rL195.length c194), (12, .int .i64 ((k : Nat) : Int)), (11, .int .i64 ((ticks ((erA t).take k) : Nat) : Int))]) ∧ (St w0 Z none_ gw [] [dShapes, dRow 4 tA t.length tc (encNs t), dRow 4 A81 ((erA t).length) c82 (encNs (erA t)), dRow 4 A139 ((erA (erA t)).length) c140 (encNs (erA (erA t))), dRow 4 A166 ((stA t).length) c167 (encNs (stA t)), dRow 1 A193 rL195.length c194 (encSs rL195), dAll rL195]) ∧ (k ≤ (erA t).length) ∧ ((erA t).length - k) = gn) _ ⟨0, (Reg.cons hR336 (Reg.cons hR336 (Reg.cons hR336 (Reg.cons hR336 (Reg.cons hR336 (Reg.cons hR336 (hR336.nil) rfl) rfl) rfl) rfl) rfl) rfl), hS320, by omega, rfl⟩ ?_
      rintro r337 a338 w339 ⟨k, hR340, hS341, hk, hn342⟩
      have htb : ticks ((erA t).take k) ≤ k := Nat.le_trans List.countP_le_length (by rw [List.length_take]; omega)
      refine wp_seq_k (fun K343 hK344 => ?_)
      refine wp_seq_k (fun K345 hK346 => ?_)
      refine c_region ?_
      refine r_move (st_listV rfl) hR340 rfl rfl rfl (by decide) (fun a347 hR348 => ?_)
      refine r_move (st_listV rfl) hR348 rfl rfl rfl (by decide) (fun a349 hR350 => ?_)
      refine r_len (st_listV rfl) hR350 rfl rfl rfl rfl Tryd.underlying22 (by decide) (fun a351 hR352 => ?_)
      refine r_lss (st_listV rfl) hR352 rfl rfl rfl rfl (by decide) (fun a353 hR354 => ?_)
      refine wpList_nil ?_
      refine x_then_n (hK346 _ _ ?_)
      rcases Decidable.em (((k : Nat) : Int) < (((erA t).length : Nat) : Int)) with h355 | h355
      · skip
        have hR356 := hR354.setb (d := 80) (b := true) rfl (decide_eq_true h355)
        refine wp_cond_true (hR356.ev rfl) ?_
        refine wp_skip ?_
        refine x_then_n (hK344 _ _ ?_)
        refine wp_seq_k (fun K357 hK358 => ?_)
        refine wp_block ?_
        refine wp_seq_k (fun K359 hK360 => ?_)
        refine wp_seq_k (fun K361 hK362 => ?_)
        refine c_region ?_
        refine r_move (st_listV rfl) hR356 rfl rfl rfl (by decide) (fun a363 hR364 => ?_)
        refine r_move (st_listV rfl) hR364 rfl rfl rfl (by decide) (fun a365 hR366 => ?_)
        refine m_index (i := k) (j := k * 4) (st_listV rfl) hR366 rfl rfl rfl rfl Tryd.underlying22 sz32 (by omega) (by omega) (nds_elem (t := erA t) (k := k) (hS341.row (i := 2) rfl).2 (by omega)).some_ rfl (by decide) (fun a367 hR368 => ?_)
        refine m_fieldE (j' := k * 4) (st_listV rfl) hR368 rfl rfl rfl (nds_elem (t := erA t) (k := k) (hS341.row (i := 2) rfl).2 (by omega)).some_ Tryd.underlying32 rfl sz3 rfl rfl (by decide) (fun a369 hR370 => ?_)
        refine m_loadE (st_listV rfl) hR370 rfl rfl rfl 0 (k * 4) (nds_elem (t := erA t) (k := k) (hS341.row (i := 2) rfl).2 (by omega)) rfl rfl Tryd.underlying3 rfl (by decide) (fun a371 hR372 => ?_)
        refine r_eql (st_listV rfl) hR372 rfl rfl rfl rfl (by decide) (fun a373 hR374 => ?_)
        refine wpList_nil ?_
        refine x_then_n (hK362 _ _ ?_)
        have h375 : ¬ ((((nth (erA t) k).K)) = 28) := hE5 k (by omega)
        have hR376 := hR374.setb (d := 88) (b := false) rfl (decide_eq_false h375)
        refine wp_cond_false (hR376.ev rfl) ?_
        refine wp_skip ?_
        refine x_then_n (hK360 _ _ ?_)
        refine wp_seq_k (fun K377 hK378 => ?_)
        refine c_region ?_
        refine r_move (st_listV rfl) hR376 rfl rfl rfl (by decide) (fun a379 hR380 => ?_)
        refine r_move (st_listV rfl) hR380 rfl rfl rfl (by decide) (fun a381 hR382 => ?_)
        refine m_index (i := k) (j := k * 4) (st_listV rfl) hR382 rfl rfl rfl rfl Tryd.underlying22 sz32 (by omega) (by omega) (nds_elem (t := erA t) (k := k) (hS341.row (i := 2) rfl).2 (by omega)).some_ rfl (by decide) (fun a383 hR384 => ?_)
        refine m_fieldE (j' := k * 4) (st_listV rfl) hR384 rfl rfl rfl (nds_elem (t := erA t) (k := k) (hS341.row (i := 2) rfl).2 (by omega)).some_ Tryd.underlying32 rfl sz3 rfl rfl (by decide) (fun a385 hR386 => ?_)
        refine m_loadE (st_listV rfl) hR386 rfl rfl rfl 0 (k * 4) (nds_elem (t := erA t) (k := k) (hS341.row (i := 2) rfl).2 (by omega)) rfl rfl Tryd.underlying3 rfl (by decide) (fun a387 hR388 => ?_)
        refine r_eql (st_listV rfl) hR388 rfl rfl rfl rfl (by decide) (fun a389 hR390 => ?_)
        refine wpList_nil ?_
        refine x_then_n (hK378 _ _ ?_)
        rcases Decidable.em ((((nth (erA t) k).K)) = 29) with h391 | h391
        · skip
          have hR392 := hR390.setb (d := 94) (b := true) rfl (decide_eq_true h391)
          refine wp_cond_true (hR392.ev rfl) ?_
          refine c_region ?_
          refine r_move (st_listV rfl) hR392 rfl rfl rfl (by decide) (fun a393 hR394 => ?_)
          refine r_add (z := ((ticks ((erA t).take k) + 1 : Nat) : Int)) (st_listV rfl) hR394 rfl rfl rfl rfl (by decide) (by omega) (by omega) (by omega) (fun a395 hR396 => ?_)
          refine r_assign (st_listV rfl) hR396 rfl rfl rfl (by decide) (fun a397 hR398 => ?_)
          refine wpList_nil ?_
          refine x_block_n ?_
          refine x_then_n (hK358 _ _ ?_)
          refine c_region ?_
          refine r_move (st_listV rfl) hR398 rfl rfl rfl (by decide) (fun a399 hR400 => ?_)
          refine r_add (z := ((k + 1 : Nat) : Int)) (st_listV rfl) hR400 rfl rfl rfl rfl (by decide) (by omega) (by omega) (by omega) (fun a401 hR402 => ?_)
          refine r_assign (st_listV rfl) hR402 rfl rfl rfl (by decide) (fun a403 hR404 => ?_)
          refine wpList_nil ?_
          exact ⟨_, by omega, k + 1, (Reg.cons hR404 (Reg.cons hR404 (Reg.cons hR404 (Reg.cons hR404 (Reg.cons hR404 (Reg.consi hR404 (hR404.nil) rfl (by rw [ticks_step (by omega)]; split <;> omega)) rfl) rfl) rfl) rfl) rfl), hS341, by omega, rfl⟩
        · skip
          have hR405 := hR390.setb (d := 94) (b := false) rfl (decide_eq_false h391)
          refine wp_cond_false (hR405.ev rfl) ?_
          refine wp_skip ?_
          refine x_block_n ?_
          refine x_then_n (hK358 _ _ ?_)
          refine c_region ?_
          refine r_move (st_listV rfl) hR405 rfl rfl rfl (by decide) (fun a406 hR407 => ?_)
          refine r_add (z := ((k + 1 : Nat) : Int)) (st_listV rfl) hR407 rfl rfl rfl rfl (by decide) (by omega) (by omega) (by omega) (fun a408 hR409 => ?_)
          refine r_assign (st_listV rfl) hR409 rfl rfl rfl (by decide) (fun a410 hR411 => ?_)
          refine wpList_nil ?_
          exact ⟨_, by omega, k + 1, (Reg.cons hR411 (Reg.cons hR411 (Reg.cons hR411 (Reg.cons hR411 (Reg.cons hR411 (Reg.consi hR411 (hR411.nil) rfl (by rw [ticks_step (by omega)]; split <;> omega)) rfl) rfl) rfl) rfl) rfl), hS341, by omega, rfl⟩
      · skip
        have htk : ticks ((erA t).take k) = ticks (erA t) := by rw [List.take_of_length_le (by omega)]
        have hR412 := hR354.setb (d := 80) (b := false) rfl (decide_eq_false h355)
        refine wp_cond_false (hR412.ev rfl) ?_
        refine wp_exit ?_
        refine x_then_e ?_
        refine x_then_e ?_
        refine x_block_eq ?_
        refine x_then_n (hK332 _ _ ?_)
        refine wp_seq_k (fun K413 hK414 => ?_)
        refine c_region ?_
        refine r_move (st_listV rfl) hR412 rfl rfl rfl (by decide) (fun a415 hR416 => ?_)
        refine r_len (st_listV rfl) hR416 rfl rfl rfl rfl Tryd.underlying22 (by decide) (fun a417 hR418 => ?_)
        refine r_assign (st_listV rfl) hR418 rfl rfl rfl (by decide) (fun a419 hR420 => ?_)
        refine wpList_nil ?_
        refine x_then_n (hK414 _ _ ?_)
        refine wp_seq_k (fun K421 hK422 => ?_)
        refine wp_seq_k (fun K423 hK424 => ?_)
        refine c_region ?_
        refine r_assign (st_listV rfl) hR420 rfl rfl rfl (by decide) (fun a425 hR426 => ?_)
        refine wpList_nil ?_
        refine x_then_n (hK424 _ _ ?_)
        refine wp_block ?_
        refine wp_loop_ghost (fun gn ga gw => ∃ j : Nat, (Reg ga 130 [(0, .slice tA t.length tc), (1000000, .bool false), (9, .slice A193 rL195.length c194), (11, .int .i64 ((ticks ((erA t).take k) : Nat) : Int)), (14, .int .i64 ((j : Nat) : Int)), (13, .int .i64 (((erA t).length + lenM ((prA t).take j) : Nat) : Int))]) ∧ (St w0 Z none_ gw [] [dShapes, dRow 4 tA t.length tc (encNs t), dRow 4 A81 ((erA t).length) c82 (encNs (erA t)), dRow 4 A139 ((erA (erA t)).length) c140 (encNs (erA (erA t))), dRow 4 A166 ((stA t).length) c167 (encNs (stA t)), dRow 1 A193 rL195.length c194 (encSs rL195), dAll rL195]) ∧ (j ≤ rL195.length) ∧ (rL195.length - j) = gn) _ ⟨0, (Reg.cons hR426 (Reg.cons hR426 (Reg.cons hR426 (Reg.cons hR426 (Reg.cons hR426 (Reg.consi hR426 (hR426.nil) rfl (by simp [lenM])) rfl) rfl) rfl) rfl) rfl), hS341, by omega, rfl⟩ ?_
        rintro r427 a428 w429 ⟨j, hR430, hS431, hj, hn432⟩
        have htj : lenM ((prA t).take j) ≤ lenM (prA t) := by have hjj := lenM_append ((prA t).take j) ((prA t).drop j); rw [List.take_append_drop] at hjj; omega
        refine wp_seq_k (fun K433 hK434 => ?_)
        refine wp_seq_k (fun K435 hK436 => ?_)
        refine c_region ?_
        refine r_move (st_listV rfl) hR430 rfl rfl rfl (by decide) (fun a437 hR438 => ?_)
        refine r_move (st_listV rfl) hR438 rfl rfl rfl (by decide) (fun a439 hR440 => ?_)
        refine r_len (st_listV rfl) hR440 rfl rfl rfl rfl Tryd.underlying39 (by decide) (fun a441 hR442 => ?_)
        refine r_lss (st_listV rfl) hR442 rfl rfl rfl rfl (by decide) (fun a443 hR444 => ?_)
        refine wpList_nil ?_
        refine x_then_n (hK436 _ _ ?_)
        rcases Decidable.em (((j : Nat) : Int) < ((rL195.length : Nat) : Int)) with h445 | h445
        · skip
          obtain ⟨hq0, hqe, hql⟩ := prA_at hL198 (show j < rL195.length by omega)
          obtain ⟨hq1, hq2, hq3⟩ := hP3 _ hq0
          have hR446 := hR444.setb (d := 102) (b := true) rfl (decide_eq_true h445)
          refine wp_cond_true (hR446.ev rfl) ?_
          refine wp_skip ?_
          refine x_then_n (hK434 _ _ ?_)
          refine wp_seq_k (fun K447 hK448 => ?_)
          refine wp_block ?_
          refine wp_seq_k (fun K449 hK450 => ?_)
          refine wp_seq_k (fun K451 hK452 => ?_)
          refine c_region ?_
          refine r_move (st_listV rfl) hR446 rfl rfl rfl (by decide) (fun a453 hR454 => ?_)
          refine r_move (st_listV rfl) hR454 rfl rfl rfl (by decide) (fun a455 hR456 => ?_)
          refine m_index (i := j) (j := j * 1) (st_listV rfl) hR456 rfl rfl rfl rfl Tryd.underlying39 sz22 (by omega) (by omega) (ss_elem (t := rL195) (k := j) (hS431.row (i := 5) rfl).2 (by omega)).some_ rfl (by decide) (fun a457 hR458 => ?_)
          refine m_loadE (st_listV rfl) hR458 rfl rfl rfl 0 (j * 1) (ss_elem (t := rL195) (k := j) (hS431.row (i := 5) rfl).2 (by omega)) rfl rfl Tryd.underlying22 rfl (by decide) (fun a459 hR460 => ?_)
          have hS461 := hS431.data (dRow 4 ((nthS rL195 j).1) ((nthS rL195 j).2.2.length) ((nthS rL195 j).2.1) (encNs ((nthS rL195 j).2.2))) (all_at (t := rL195) (k := j) (hS431.get (i := 6) rfl) (by omega))
          have hS462 : St w0 Z none_ w429 [] [dShapes, dRow 4 tA t.length tc (encNs t), dRow 4 A81 ((erA t).length) c82 (encNs (erA t)), dRow 4 A139 ((erA (erA t)).length) c140 (encNs (erA (erA t))), dRow 4 A166 ((stA t).length) c167 (encNs (stA t)), dRow 1 A193 rL195.length c194 (encSs rL195), dAll rL195, dRow 4 ((nthS rL195 j).1) ((nthS rL195 j).2.2.length) ((nthS rL195 j).2.1) (encNs ((nthS rL195 j).2.2))] := hS461
          refine k_call (xs := [.tmp 108]) (st_list rfl) hR460 rfl rfl rfl (by decide) ok23 (rroot_calls _ (imm Z w0 [] _) (fun _ h => h.1) ((nthS rL195 j).1) ((nthS rL195 j).2.1) ((nthS rL195 j).2.2) (hS462.get (i := 7) rfl) (by first | assumption | omega | (simp; done) | (simp; omega)) (by first | assumption | omega | (simp; done) | (simp; omega))) ?_
          rintro e469 w464 ⟨rfl, hf467⟩
          have hS470 := hS462.below hf467.below
          refine ⟨_, rfl, fun a463 hR465 => ?_⟩
          refine m_fieldV (v := .int .i64 (((nth ((nthS rL195 j).2.2) (((nthS rL195 j).2.2).length - 1)).K))) (st_listV rfl) hR465 rfl rfl rfl (fun _ => by kernel_rfl) (by decide) (fun a471 hR472 => ?_)
          refine r_neq (st_listV rfl) hR472 rfl rfl rfl rfl (by decide) (fun a473 hR474 => ?_)
          refine wpList_nil ?_
          refine x_then_n (hK452 _ _ ?_)
          have h475 : (((nth ((nthS rL195 j).2.2) (((nthS rL195 j).2.2).length - 1)).K)) = 28 := hq3
          have hR476 := hR474.setb (d := 111) (b := false) rfl (by rw [(decide_eq_true h475)]; rfl)
          refine wp_cond_false (hR476.ev rfl) ?_
          refine wp_skip ?_
          refine x_then_n (hK450 _ _ ?_)
          refine c_region ?_
          refine r_move (st_listV rfl) hR476 rfl rfl rfl (by decide) (fun a477 hR478 => ?_)
          refine r_move (st_listV rfl) hR478 rfl rfl rfl (by decide) (fun a479 hR480 => ?_)
          refine r_move (st_listV rfl) hR480 rfl rfl rfl (by decide) (fun a481 hR482 => ?_)
          refine m_index (i := j) (j := j * 1) (st_listV rfl) hR482 rfl rfl rfl rfl Tryd.underlying39 sz22 (by omega) (by omega) (ss_elem (t := rL195) (k := j) (hS470.row (i := 5) rfl).2 (by omega)).some_ rfl (by decide) (fun a483 hR484 => ?_)
          refine m_loadE (st_listV rfl) hR484 rfl rfl rfl 0 (j * 1) (ss_elem (t := rL195) (k := j) (hS470.row (i := 5) rfl).2 (by omega)) rfl rfl Tryd.underlying22 rfl (by decide) (fun a485 hR486 => ?_)
          have hS487 := hS470.data (dRow 4 ((nthS rL195 j).1) ((nthS rL195 j).2.2.length) ((nthS rL195 j).2.1) (encNs ((nthS rL195 j).2.2))) (all_at (t := rL195) (k := j) (hS470.get (i := 6) rfl) (by omega))
          refine r_len (st_listV rfl) hR486 rfl rfl rfl rfl Tryd.underlying22 (by decide) (fun a488 hR489 => ?_)
          refine r_sub (z := ((((nthS rL195 j).2.2.length : Nat) : Int) - 1)) (st_listV rfl) hR489 rfl rfl rfl rfl (by decide) (by omega) (by omega) (by omega) (fun a490 hR491 => ?_)
          refine r_add (z := ((((erA t).length : Nat) : Int) + ((lenM ((prA t).take j) : Nat) : Int) + (((nthS rL195 j).2.2.length : Nat) : Int) - 1)) (st_listV rfl) hR491 rfl rfl rfl rfl (by decide) (by omega) (by omega) (by omega) (fun a492 hR493 => ?_)
          refine r_assign (st_listV rfl) hR493 rfl rfl rfl (by decide) (fun a494 hR495 => ?_)
          refine wpList_nil ?_
          refine x_block_n ?_
          refine x_then_n (hK448 _ _ ?_)
          refine c_region ?_
          refine r_move (st_listV rfl) hR495 rfl rfl rfl (by decide) (fun a496 hR497 => ?_)
          refine r_add (z := ((j + 1 : Nat) : Int)) (st_listV rfl) hR497 rfl rfl rfl rfl (by decide) (by omega) (by omega) (by omega) (fun a498 hR499 => ?_)
          refine r_assign (st_listV rfl) hR499 rfl rfl rfl (by decide) (fun a500 hR501 => ?_)
          refine wpList_nil ?_
          have hS502 := hS487.forget 8
          have hS503 := hS502.forget 7
          exact ⟨_, by omega, j + 1, (Reg.cons hR501 (Reg.cons hR501 (Reg.cons hR501 (Reg.cons hR501 (Reg.cons hR501 (Reg.consi hR501 (hR501.nil) rfl (by rw [lenM_step (by omega), ← hqe]; omega)) rfl) rfl) rfl) rfl) rfl), hS503, by omega, rfl⟩
        · skip
          have hrl : rL195.length = (prA t).length := by rw [← lsts_len, hL198]
          have htl : lenM ((prA t).take j) = lenM (prA t) := by rw [List.take_of_length_le (by omega)]
          have hR504 := hR444.setb (d := 102) (b := false) rfl (decide_eq_false h445)
          refine wp_cond_false (hR504.ev rfl) ?_
          refine wp_exit ?_
          refine x_then_e ?_
          refine x_then_e ?_
          refine x_block_eq ?_
          refine x_then_n (hK422 _ _ ?_)
          refine wp_seq_k (fun K505 hK506 => ?_)
          refine c_region ?_
          refine r_move (st_listV rfl) hR504 rfl rfl rfl (by decide) (fun a507 hR508 => ?_)
          refine r_move (st_listV rfl) hR508 rfl rfl rfl (by decide) (fun a509 hR510 => ?_)
          refine r_len (st_listV rfl) hR510 rfl rfl rfl rfl Tryd.underlying39 (by decide) (fun a511 hR512 => ?_)
          refine r_geq (st_listV rfl) hR512 rfl rfl rfl rfl (by decide) (fun a513 hR514 => ?_)
          refine r_move (st_listV rfl) hR514 rfl rfl rfl (by decide) (fun a515 hR516 => ?_)
          have h529 : ((rL195.length : Nat) : Int) ≤ ((ticks ((erA t).take k) : Nat) : Int) := by omega
          have hR530 := hR516.setb (d := 124) (b := true) rfl (decide_eq_true h529)
          refine r_move (st_listV_w (want_t hR530 rfl rfl rfl (by decide) rfl)) hR530 rfl rfl rfl (by decide) (fun a531 hR532 => ?_)
          refine r_move (st_listV_w (want_t hR532 rfl rfl rfl (by decide) rfl)) hR532 rfl rfl rfl (by decide) (fun a533 hR534 => ?_)
          refine r_len (st_listV_w (want_t hR534 rfl rfl rfl (by decide) rfl)) hR534 rfl rfl rfl rfl Tryd.underlying22 (by decide) (fun a535 hR536 => ?_)
          refine r_eql (st_listV_w (want_t hR536 rfl rfl rfl (by decide) rfl)) hR536 rfl rfl rfl rfl (by decide) (fun a537 hR538 => ?_)
          refine r_pick_t (st_listV rfl) hR538 rfl rfl rfl rfl (by decide) (fun a539 hR540 => ?_)
          refine r_assign (st_listV rfl) hR540 rfl rfl rfl (by decide) (fun a541 hR542 => ?_)
          refine wpList_nil ?_
          refine x_then_n (hK506 _ _ ?_)
          refine wp_ret ?_
          refine e_ret1 hR542 rfl rfl rfl ?_
          refine ⟨?_, hS431.fr⟩
          exact congrArg Ending.returned (ret_b (by first | rfl | (simp [erA_no h127]; done) | exact decide_eq_true (by omega) | (simp; omega)))
    · skip
      have hR543 := hR126.setb (d := 32) (b := true) rfl (by rw [(decide_eq_false h127)]; rfl)
      refine wp_cond_true (hR543.ev rfl) ?_
      refine wp_seq_k (fun K544 hK545 => ?_)
      refine c_region ?_
      refine r_move (st_listV rfl) hR543 rfl rfl rfl (by decide) (fun a546 hR547 => ?_)
      refine r_len (st_listV rfl) hR547 rfl rfl rfl rfl Tryd.underlying22 (by decide) (fun a548 hR549 => ?_)
      refine r_eql (st_listV rfl) hR549 rfl rfl rfl rfl (by decide) (fun a550 hR551 => ?_)
      refine r_assign (st_listV rfl) hR551 rfl rfl rfl (by decide) (fun a552 hR553 => ?_)
      refine wpList_nil ?_
      refine x_then_n (hK545 _ _ ?_)
      refine wp_ret ?_
      refine x_then_r ?_
      refine e_ret1 hR553 rfl rfl rfl ?_
      refine ⟨?_, hS114.fr⟩
      exact congrArg Ending.returned (ret_b (by first | rfl | (simp [erA_no h127]; done) | exact decide_eq_true (by omega) | (simp; omega)))
end Go.Proofs.YtobgdeffhdefeaaDoor
/- From a row's reading to cells, and back: slices of nodes, the table of shapes, arguments that nobody changed. -/
namespace Go.Proofs.YtobgdeffhdefeaaDoor
set_option linter.unusedSimpArgs false
set_option linter.unusedVariables false
open Go Go.RowKit Go.WideShapes Go.ChangeShapes

theorem kids : Kids Tryd.prog (· < Tryd.prog.types.size) := kids_rows (by kernel_rfl) (by kernel_rfl)
theorem slicesFull : ∀ t e, t < Tryd.prog.types.size → Tryd.prog.underlying t = some (.slice e) → 0 < Tryd.prog.cellsOf e := slices_full_of Tryd.prog (by kernel_rfl)
theorem ownKnobNone : ownKnob Tryd.prog.godebug = none := by kernel_rfl

section
variable {H : Type} {enc : TypeId × Value → H} {P : Program} {w W W' : World}
/-- What lay in old blocks reads as it did. -/
theorem trodAll_carry {base : Nat} {sp : Nat → Bool} {held : Bool} : ∀ {ts : List TypeId} {vs : List Value} {ds : List (DataW H)} {ps : List MemPlace},
    DataW.TrodAll enc P W base sp held ts vs ds ps → (∀ p ∈ ps, W.sameAt W' p) → DataW.TrodAll enc P W' base sp held ts vs ds ps
  | [], [], [], _, h, _ => h
  | _ :: _, _ :: _, _ :: _, _, ⟨p, q, ⟨n, h1⟩, h2, e⟩, hs =>
    ⟨p, q, ⟨n, DataW.trod_carry n _ _ _ h1 (fun x hx => hs x (by rw [e]; exact List.mem_append_left _ hx))⟩,
      trodAll_carry h2 (fun x hx => hs x (by rw [e]; exact List.mem_append_right _ hx)), e⟩
  | [], [], _ :: _, _, h, _ => h.elim
  | [], _ :: _, _, _, h, _ => h.elim
  | _ :: _, [], _, _, h, _ => h.elim
  | _ :: _, _ :: _, [], _, h, _ => h.elim
theorem sameAt_below (hb : Below W.heap.size W W') {p : MemPlace} (hp : p.block < W.heap.size) : W.sameAt W' p := by
  cases p with
  | cell b off => exact hb.cell (p := ⟨b, off, none⟩) hp
  | map b => exact hb.block b hp
/-- The last step of a row of a law that returns true and changes nothing old. -/
theorem post_true {f : Func} {s : ChangeSpec} {apart fresh handsOn again : Bool} {args : Array Value} {ds : List (DataW H)} {before : List MemPlace}
    (K : Kids P (· < P.types.size)) (hz : ∀ t e, t < P.types.size → P.underlying t = some (.slice e) → 0 < P.cellsOf e) (hts : ∀ t ∈ f.params.toList, t < P.types.size)
    (hvars : s.vars = []) (hW : DataW.Whole enc P f.params.toList s.vars apart W args.toList ds [] before)
    {tb : TypeId} (hrt : f.resultTypes = #[tb]) (htb : P.underlying tb = some .bool)
    (hfn : (s.fn H ds).results = [.lit (.bool true)] ∧ (s.fn H ds).args = ds ∧ (s.fn H ds).vars = []) (hb : Below W.heap.size W W') :
    s.post enc P f apart fresh handsOn again W args (.bool true) W' := by
  have hlt : ∀ p ∈ before, p.block < W.heap.size := fun p hp => hW.lt p hp
  have hold : ∀ p ∈ before, (fun b => decide (b < W.heap.size)) p.block = true := fun p hp => by simpa using hlt p hp
  have hW0 := hW
  obtain ⟨p, q, hA, hV, he, hzf, hn⟩ := hW0
  rw [hvars] at hV
  have hq : q = [] := hV
  subst hq
  rw [List.append_nil] at he
  subst he
  have hA' := trodAll_carry (W' := W') hA (fun x hx => sameAt_below hb (hlt x hx))
  have hres : ∀ (b : Nat) (sp : Nat → Bool) (hd : Bool), DataW.TrodAll enc P W' b sp hd f.resultTypes.toList ((Value.bool true).resultList f.resultTypes.size) (s.fn H ds).results [] := fun b sp hd => by
    rw [hfn.1, hrt]
    exact trodAll_mk1 (shut_bool htb true)
  refine ⟨ds, [], before, [], before, [], hW, ?_, ?_, ?_, World.keptBut_mono (fun p hp => ⟨hp, .inr (.inl hp)⟩) (hb.frame (· ∈ before)), fun _ => ⟨?_, ?_⟩⟩
  · rw [List.append_nil]; exact hres _ _ _
  · rw [List.append_nil, hfn.2.1]
    exact DataW.TrodAll.respare K hz hts hA' hold
  · rw [List.append_nil, hfn.2.2, hvars]
    exact rfl
  · exact ok_one hrt rfl (okWide_bool_mk htb true)
  · refine ⟨[.lit (.bool true)] ++ ds, [], [] ++ before, ⟨[] ++ before, [], ?_, ?_, by simp, ?_, ?_⟩, ?_⟩
    · rw [hrt]
      exact trodAll_append hA' (trodAll_mk1 (shut_bool htb true))
    · rw [hvars]
      exact rfl
    · intro b off hp
      have hin : MemPlace.cell b off ∈ before := by simpa using hp
      rw [hb.frozen (hlt _ hin)]
      exact hzf b off hin
    · intro ha
      simpa using hn ha
    · intro x hx _
      simpa using hx
end

section
variable {H : Type} {enc : TypeId × Value → H} {w : World}
theorem lt_of_cell {p : Addr} {v : Value} (h : w.cell? p = some v) : p.block < w.heap.size := by
  unfold World.cell? at h
  cases ho : w.heap[p.block]? with
  | none => simp [ho] at h
  | some o => exact (Array.getElem?_eq_some_iff.1 ho).1
set_option maxRecDepth 100000 in
/-- A node's four cells, read. -/
theorem node_cells {base : Nat} {sp : Nat → Bool} {held : Bool} {n : Nat} {cs : List Value} {x : DataW H × List MemPlace} (h : DataW.trod enc Tryd.prog w base sp held n 32 cs = some x) : ∃ nd : Nd, cs = encN nd := by
  have hu : Tryd.prog.underlying 32 = some (.struct (Tryd.prog.fieldsOf 32)) := by kernel_rfl
  have hf : (Tryd.prog.fieldsOf 32).toList.map (fun f => (f.type, f.offset)) = [(3, 0), (3, 1), (3, 2), (9, 3)] := by kernel_rfl
  have hci : Tryd.prog.cellsOf 3 = 1 := by kernel_rfl
  have hcs : Tryd.prog.cellsOf 9 = 1 := by kernel_rfl
  have hcn : Tryd.prog.cellsOf 32 = 4 := by kernel_rfl
  obtain ⟨xs, m, _, _, hl, _, hg⟩ := DataW.trod_struct hu h
  rw [hcn] at hl
  have fld : ∀ (j : Nat) (t : TypeId) (off : Nat), ((Tryd.prog.fieldsOf 32).toList.map (fun f => (f.type, f.offset)))[j]? = some (t, off) → ∃ y, DataW.trod enc Tryd.prog w base sp held m t ((cs.drop off).take (Tryd.prog.cellsOf t)) = some y := by
    intro j t off hj
    rw [List.getElem?_map] at hj
    cases hfj : (Tryd.prog.fieldsOf 32).toList[j]? with
    | none => rw [hfj] at hj; cases hj
    | some f =>
      rw [hfj] at hj
      simp only [Option.map_some, Option.some.injEq, Prod.mk.injEq] at hj
      obtain ⟨rfl, rfl⟩ := hj
      have h1 := hg j f (by rw [← Array.getElem?_toList]; exact hfj)
      have hjl : j < (Tryd.prog.fieldsOf 32).size := by
        have := (List.getElem?_eq_some_iff.1 hfj).1
        simpa using this
      have hxl : j < xs.length := by omega
      exact ⟨xs[j], by rw [h1]; exact List.getElem?_eq_getElem hxl⟩
  rw [hf] at fld
  match cs, hl with
  | [c0, c1, c2, c3], _ =>
    obtain ⟨y0, h0⟩ := fld 0 _ _ rfl
    obtain ⟨y1, h1⟩ := fld 1 _ _ rfl
    obtain ⟨y2, h2⟩ := fld 2 _ _ rfl
    obtain ⟨y3, h3⟩ := fld 3 _ _ rfl
    rw [hci] at h0 h1 h2
    rw [hcs] at h3
    obtain ⟨a, ha, _⟩ := DataW.trod_int Tryd.underlying3 h0
    obtain ⟨b, hb, _⟩ := DataW.trod_int Tryd.underlying3 h1
    obtain ⟨c, hc, _⟩ := DataW.trod_int Tryd.underlying3 h2
    obtain ⟨s, hs, _⟩ := DataW.trod_string Tryd.underlying9 h3
    simp at ha hb hc hs
    exact ⟨⟨a, b, c, s⟩, by simp [encN, ha, hb, hc, hs]⟩
set_option maxRecDepth 100000 in
/-- An argument that is a slice of nodes. -/
theorem open_nodes {r : Reach} {base b0 : Nat} {sp : Nat → Bool} {held : Bool} {v : Value} {d : DataW H} {ps : List MemPlace} (hval : Value.okWide Tryd.prog w r b0 22 v) (hd : DataW.Trod enc Tryd.prog w base sp held 22 v d ps) :
    ∃ (A : Option Addr) (c : Nat) (t : List Nd), v = .slice A t.length c ∧ (dRow 4 A t.length c (encNs t)).φ w (fun k => k < w.heap.size) := by
  obtain ⟨A, len, cap, rfl⟩ := okWide_slice Tryd.underlying22 hval
  obtain ⟨fuel, hf⟩ := hd
  have hcn : Tryd.prog.cellsOf 32 = 4 := by kernel_rfl
  rcases Deep.open_slice Tryd.underlying22 hf with ⟨hcs, _⟩ | ⟨a, len', cap', m, n, D, Pl, hcs, _, hl, _, hm, _, hi⟩
  · simp [Value.cells] at hcs
    obtain ⟨rfl, rfl, rfl⟩ := hcs
    exact ⟨none, 0, [], rfl, Nat.le_refl _, rfl, fun h => absurd h (by simp)⟩
  · simp [Value.cells] at hcs
    obtain ⟨rfl, rfl, rfl⟩ := hcs
    have hmm : len ≤ m := by rw [hm]; split <;> omega
    have hnd : ∀ i, ∃ nd : Nd, i < len → w.cells? base (a.add (i * 4)) 4 = some (encN nd) := by
      intro i
      by_cases hil : i < len
      · obtain ⟨cs', hc, ht⟩ := hi i (by omega)
        obtain ⟨nd, rfl⟩ := node_cells ht
        rw [hcn] at hc
        exact ⟨nd, fun _ => hc⟩
      · exact ⟨ndz, fun h => absurd h hil⟩
    obtain ⟨f, hf'⟩ := Classical.axiomOfChoice hnd
    refine ⟨some a, cap, (List.range len).map f, by simp, ?_, ?_, fun hpos => ⟨a, rfl, ?_, ?_⟩⟩
    · simpa using hl
    · exact encNs_length _
    · have hp0 : 0 < len := by simpa using hpos
      obtain ⟨_, _, hat⟩ := World.cells?_some (hf' 0 hp0)
      have h0 := hat 0 (by omega)
      rw [add_of_add] at h0
      have := lt_of_cell (w := w) (p := a.add (0 * 4 + 0)) (by rw [h0]; rfl)
      rwa [block_of_add] at this
    · intro j u hu
      have hjl : j < len * 4 := by
        have h1 := (List.getElem?_eq_some_iff.1 hu).1
        rw [encNs_length] at h1
        simpa using h1
      have hi4 : j / 4 < len := by omega
      obtain ⟨_, hcl, hat⟩ := World.cells?_some (hf' (j / 4) hi4)
      have h1 := hat (j % 4) (by omega)
      rw [add_of_add, show j / 4 * 4 + j % 4 = j by omega] at h1
      rw [h1, ← hu]
      have h2 := enc_at encN_len ((List.range len).map f) (j / 4) (by simpa using hi4) ndz
      have h3 : (((List.range len).map f).getD (j / 4) ndz) = f (j / 4) := by simp [hi4]
      rw [h3] at h2
      have h4 : (encNs ((List.range len).map f))[j]? = (((((List.range len).map f).flatMap encN).drop (j / 4 * 4)).take 4)[j % 4]? := by
        rw [List.getElem?_take_of_lt (by omega), List.getElem?_drop, show j / 4 * 4 + j % 4 = j by omega]
        rfl
      rw [h4, h2]
end
end Go.Proofs.YtobgdeffhdefeaaDoor
/- The table of shapes: from the row's list to cells; a world that holds it. -/
namespace Go.Proofs.YtobgdeffhdefeaaDoor
set_option linter.unusedSimpArgs false
set_option linter.unusedVariables false
open Go Go.RowKit Go.WideShapes Go.ChangeShapes
set_option maxRecDepth 100000
/-- The datum of one shape. -/
def shapeD (k : Nat) : DataW Unit := .agg [(match (shp k).b with | [] => .nil | b => .slice (lits .i64 b) []), .lit (.bool (shp k).n), .lit (.bool (shp k).m), .lit (.bool (shp k).s)]
theorem laid_eq : (Rows.laid_cornice_term_shapes : DataW Unit) = .agg ((List.range 30).map shapeD) := by kernel_rfl
theorem encIs_map (l : List Int) : encIs l = l.map (fun n => Value.int .i64 n) := by
  induction l with
  | nil => rfl
  | cons x t ih => rw [List.map_cons, ← ih]; rfl
theorem shape_cells {w : World} {base : Nat} {sp : Nat → Bool} {held : Bool} {n : Nat} {cs : List Value} {k : Nat} {p : List MemPlace}
    (h : DataW.trod (fun _ => ()) Tryd.prog w base sp held n 129 cs = some (shapeD k, p)) :
    ∃ (A : Option Addr) (cap : Nat), cs = [.slice A (shp k).b.length cap, .bool (shp k).n, .bool (shp k).m, .bool (shp k).s] ∧ (shp k).b.length ≤ cap ∧ RowI w (fun k => k < w.heap.size) 1 A (shp k).b.length (encIs (shp k).b) := by
  have hu : Tryd.prog.underlying 129 = some (.struct (Tryd.prog.fieldsOf 129)) := by kernel_rfl
  have hf : (Tryd.prog.fieldsOf 129).toList.map (fun f => (f.type, f.offset)) = [(66, 0), (4, 1), (4, 2), (4, 3)] := by kernel_rfl
  have hci : Tryd.prog.cellsOf 66 = 1 := by kernel_rfl
  have hci1 : Tryd.prog.cellsOf 3 = 1 := by kernel_rfl
  have hcs : Tryd.prog.cellsOf 4 = 1 := by kernel_rfl
  have hcn : Tryd.prog.cellsOf 129 = 4 := by kernel_rfl
  obtain ⟨xs, m, _, hx, hl, hxl, hg⟩ := DataW.trod_struct hu h
  rw [hcn] at hl
  have hd : xs.map (·.1) = [(match (shp k).b with | [] => .nil | b => .slice (lits .i64 b) []), .lit (.bool (shp k).n), .lit (.bool (shp k).m), .lit (.bool (shp k).s)] := by
    have := congrArg Prod.fst hx
    simp only [shapeD] at this
    injection this with h1
    exact h1.symm
  have fld : ∀ (j : Nat) (t : TypeId) (off : Nat), ((Tryd.prog.fieldsOf 129).toList.map (fun f => (f.type, f.offset)))[j]? = some (t, off) → DataW.trod (fun _ => ()) Tryd.prog w base sp held m t ((cs.drop off).take (Tryd.prog.cellsOf t)) = xs[j]? := by
    intro j t off hj
    rw [List.getElem?_map] at hj
    cases hfj : (Tryd.prog.fieldsOf 129).toList[j]? with
    | none => rw [hfj] at hj; cases hj
    | some f =>
      rw [hfj] at hj
      simp only [Option.map_some, Option.some.injEq, Prod.mk.injEq] at hj
      obtain ⟨rfl, rfl⟩ := hj
      exact hg j f (by rw [← Array.getElem?_toList]; exact hfj)
  rw [hf] at fld
  match cs, hl, xs, hd with
  | [c0, c1, c2, c3], _, [y0, y1, y2, y3], hd =>
    simp only [List.map_cons, List.map_nil, List.cons.injEq, and_true] at hd
    obtain ⟨d0, d1, d2, d3⟩ := hd
    have h0 := fld 0 _ _ rfl
    have h1 := fld 1 _ _ rfl
    have h2 := fld 2 _ _ rfl
    have h3 := fld 3 _ _ rfl
    rw [hci] at h0
    rw [hcs] at h1 h2 h3
    obtain ⟨b1, e1, f1⟩ := DataW.trod_bool Tryd.underlying4 h1
    obtain ⟨b2, e2, f2⟩ := DataW.trod_bool Tryd.underlying4 h2
    obtain ⟨b3, e3, f3⟩ := DataW.trod_bool Tryd.underlying4 h3
    simp at e1 e2 e3
    simp [f1] at d1
    simp [f2] at d2
    simp [f3] at d3
    subst e1 e2 e3 d1 d2 d3
    rcases open_ints Tryd.underlying66 Tryd.underlying3 hci1 h0 with ⟨hcs0, hy⟩ | ⟨a, len, cap, zs, hcs0, _, hle, _, hzl, hy, hcell, _⟩
    · simp at hcs0
      subst hcs0
      rw [hy] at d0
      cases hb : (shp k).b with
      | nil => exact ⟨none, 0, by simp, by simp, by simp [encIs], fun h => absurd h (by simp)⟩
      | cons z zs => rw [hb] at d0; simp at d0
    · simp at hcs0
      subst hcs0
      rw [hy] at d0
      cases hb : (shp k).b with
      | nil => rw [hb] at d0; simp at d0
      | cons z l =>
        rw [hb] at d0
        simp only [DataW.slice.injEq] at d0
        obtain ⟨d4, d5⟩ := d0
        have hinj : ∀ a b : List Int, (lits .i64 a : List (DataW Unit)) = lits .i64 b → a = b := by
          intro a
          induction a with
          | nil => intro b hb; cases b with
            | nil => rfl
            | cons _ _ => simp [lits] at hb
          | cons x a ih => intro b hb; cases b with
            | nil => simp [lits] at hb
            | cons y b =>
              simp only [lits, List.map_cons, List.cons.injEq, DataW.lit.injEq, Lit.int.injEq, true_and] at hb
              rw [hb.1, ih b hb.2]
        have d6 := hinj _ _ d4
        have hll : len = (z :: l).length := by
          have := congrArg List.length d6
          rw [List.length_take] at this
          have hz : len ≤ zs.length := by rw [hzl]; split <;> omega
          omega
        subst hll
        refine ⟨some a, cap, rfl, hle, by simp [encIs_length], fun _ => ⟨a, rfl, ?_, ?_⟩⟩
        · have h9 := hcell 0 (by have hz2 : (z :: l).length ≤ zs.length := (by rw [hzl]; split <;> omega); rw [List.length_cons] at hz2; omega)
          have := lt_of_cell h9
          rwa [block_of_add] at this
        · intro j u hu
          have hjl : j < (z :: l).length := by
            have := (List.getElem?_eq_some_iff.1 hu).1
            rw [encIs_length] at this
            simpa using this
          have hzz : (z :: l).length ≤ zs.length := by rw [hzl]; split <;> omega
          rw [hcell j (by omega)]
          have h8 : (z :: l)[j]? = zs[j]? := by rw [← d6, List.getElem?_take_of_lt hjl]
          have h7 := encIs_map (z :: l)
          rw [h7, List.getElem?_map, h8] at hu
          cases hq : zs[j]? with
          | none => rw [hq] at hu; simp at hu
          | some q =>
            rw [hq] at hu
            simp only [Option.map_some, Option.some.injEq] at hu
            rw [← hu, List.getD_eq_getElem?_getD, hq]
            rfl
/-- What the row's list gives. -/
theorem shapes_of_laid {W : World} (h : laidMetH Tryd.prog [("cornice/term.shapes", Rows.laid_cornice_term_shapes)] W) : Shapes W (fun k => k < W.heap.size) := by
  have h' : laidMet Tryd.prog [("cornice/term.shapes", Rows.laid_cornice_term_shapes)] W := h
  obtain ⟨ps, ⟨g, t, cs, fuel, p, q, hg, ht, hvar, hd, _, _⟩, _⟩ := h'
  have hg0 : Tryd.prog.globalNamed "cornice/term.shapes" = some 0 := by kernel_rfl
  have ht0 : (Tryd.prog.globals[0]?).map (·.type) = some 130 := by kernel_rfl
  obtain rfl : 0 = g := Option.some.inj (hg0.symm.trans hg)
  obtain rfl : 130 = t := Option.some.inj (ht0.symm.trans ht)
  have hcn : Tryd.prog.cellsOf 129 = 4 := by kernel_rfl
  have hct : Tryd.prog.cellsOf 130 = 120 := by kernel_rfl
  obtain ⟨xs, m, _, hx, hl, hxl, hi⟩ := DataW.trod_array Tryd.underlying130 hd
  rw [hct] at hl
  have hxd : xs.map (·.1) = (List.range 30).map shapeD := by
    have := congrArg Prod.fst hx
    simp only [laid_eq] at this
    injection this with h1
    exact h1.symm
  intro k hk
  have h1 := hi k hk
  rw [hcn] at h1
  have hkx : k < xs.length := by omega
  have h2 : xs[k]? = some (shapeD k, (xs[k]).2) := by
    rw [List.getElem?_eq_getElem hkx]
    have h3 : (xs.map (·.1))[k]? = some (shapeD k) := by rw [hxd]; simp [hk]
    rw [List.getElem?_map, List.getElem?_eq_getElem hkx] at h3
    simp only [Option.map_some, Option.some.injEq] at h3
    rw [← h3]
  rw [h2] at h1
  obtain ⟨A, cap, hcs, hle, hrow⟩ := shape_cells h1
  refine ⟨A, cap, ⟨hle, hrow⟩, ?_, ?_⟩
  · have h4 := World.var?_cell hg hvar 0
    have h5 : cs[0]? ≠ none := by
      intro e
      rw [← Array.getElem?_toList, List.getElem?_eq_none_iff] at e
      omega
    cases h6 : cs[0]? with
    | none => exact absurd h6 h5
    | some v => rw [h6] at h4; exact lt_of_cell h4
  · intro j u hu
    have hj : j < 4 := by
      have := (List.getElem?_eq_some_iff.1 hu).1
      simpa using this
    have h4 := World.var?_cell hg hvar (k * 4 + j)
    rw [← hcs, List.getElem?_take_of_lt hj, List.getElem?_drop, Array.getElem?_toList] at hu
    rw [hu] at h4
    rw [add_of_add]
    have : (⟨0, 0, none⟩ : Addr).add (k * 4 + j) = ⟨0, k * 4 + j, none⟩ := by unfold Addr.add; split <;> simp_all
    rw [this]
    exact h4
/-- A world that holds the table. -/
noncomputable def laidWorld (os : Os) : World :=
  { World.holding Tryd.prog os ⟨#[.cells #[.int .i64 0, .int .i64 1, .int .i64 0, .int .i64 1, .int .i64 0, .int .i64 0, .int .i64 0, .int .i64 1, .int .i64 0, .int .i64 0, .int .i64 0, .int .i64 0, .int .i64 0, .int .i64 0, .int .i64 1, .int .i64 0, .int .i64 2, .int .i64 0, .int .i64 0, .int .i64 0, .int .i64 0, .int .i64 0, .int .i64 0, .int .i64 0, .int .i64 0, .int .i64 0, .int .i64 0, .int .i64 0, .int .i64 0, .int .i64 0, .int .i64 0, .int .i64 1, .int .i64 0, .int .i64 0, .int .i64 0, .int .i64 0, .int .i64 2, .int .i64 0, .int .i64 0, .int .i64 0, .int .i64 0, .int .i64 0, .int .i64 0, .int .i64 1, .int .i64 0, .int .i64 0, .int .i64 0] 3], #[], []⟩ with heap := (World.holding Tryd.prog os ⟨#[.cells #[.int .i64 0, .int .i64 1, .int .i64 0, .int .i64 1, .int .i64 0, .int .i64 0, .int .i64 0, .int .i64 1, .int .i64 0, .int .i64 0, .int .i64 0, .int .i64 0, .int .i64 0, .int .i64 0, .int .i64 1, .int .i64 0, .int .i64 2, .int .i64 0, .int .i64 0, .int .i64 0, .int .i64 0, .int .i64 0, .int .i64 0, .int .i64 0, .int .i64 0, .int .i64 0, .int .i64 0, .int .i64 0, .int .i64 0, .int .i64 0, .int .i64 0, .int .i64 1, .int .i64 0, .int .i64 0, .int .i64 0, .int .i64 0, .int .i64 2, .int .i64 0, .int .i64 0, .int .i64 0, .int .i64 0, .int .i64 0, .int .i64 0, .int .i64 1, .int .i64 0, .int .i64 0, .int .i64 0] 3], #[], []⟩).heap.modify 0 fun
      | .cells _ t frozen => .cells #[.slice none 0 0, .bool true, .bool false, .bool false, .slice none 0 0, .bool false, .bool false, .bool true, .slice none 0 0, .bool true, .bool false, .bool false, .slice (some ⟨6, 0, none⟩) 2 2, .bool true, .bool false, .bool false, .slice (some ⟨6, 2, none⟩) 2 2, .bool false, .bool false, .bool false, .slice (some ⟨6, 4, none⟩) 2 2, .bool false, .bool false, .bool false, .slice (some ⟨6, 6, none⟩) 2 2, .bool true, .bool false, .bool false, .slice (some ⟨6, 8, none⟩) 3 3, .bool false, .bool false, .bool false, .slice (some ⟨6, 11, none⟩) 1 1, .bool false, .bool false, .bool false, .slice (some ⟨6, 12, none⟩) 1 1, .bool false, .bool false, .bool false, .slice none 0 0, .bool false, .bool false, .bool false, .slice none 0 0, .bool false, .bool false, .bool false, .slice (some ⟨6, 13, none⟩) 1 1, .bool false, .bool false, .bool false, .slice (some ⟨6, 14, none⟩) 4 4, .bool false, .bool false, .bool false, .slice none 0 0, .bool false, .bool false, .bool false, .slice (some ⟨6, 18, none⟩) 2 2, .bool false, .bool false, .bool false, .slice none 0 0, .bool false, .bool false, .bool false, .slice none 0 0, .bool false, .bool false, .bool false, .slice (some ⟨6, 20, none⟩) 3 3, .bool false, .bool false, .bool false, .slice (some ⟨6, 23, none⟩) 2 2, .bool false, .bool false, .bool false, .slice (some ⟨6, 25, none⟩) 4 4, .bool false, .bool false, .bool false, .slice (some ⟨6, 29, none⟩) 6 6, .bool false, .bool false, .bool false, .slice (some ⟨6, 35, none⟩) 5 5, .bool false, .bool false, .bool false, .slice (some ⟨6, 40, none⟩) 2 2, .bool false, .bool false, .bool false, .slice (some ⟨6, 42, none⟩) 4 4, .bool false, .bool false, .bool false, .slice none 0 0, .bool false, .bool false, .bool true, .slice none 0 0, .bool true, .bool true, .bool true, .slice none 0 0, .bool false, .bool true, .bool true, .slice (some ⟨6, 46, none⟩) 1 1, .bool false, .bool false, .bool false, .slice none 0 0, .bool false, .bool false, .bool false] t frozen
      | o => o }
end Go.Proofs.YtobgdeffhdefeaaDoor
/- The law EraseTwice: it returns true, whatever its arguments are, and they read as they did; the table of shapes holds what the program's text lays. -/
namespace Go.Proofs.YtobgdeffhdefeaaDoor.lawEraseTwice
open Go Go.RowKit Go.WideShapes Go.ChangeShapes Go.Proofs.YtobgdeffhdefeaaDoor
set_option maxRecDepth 100000
set_option linter.unusedSimpArgs false
set_option linter.unusedVariables false
theorem contract (H : Type) (enc : TypeId × Value → H) (W : World) (base : Nat) (args : Array Value) (ds gs : List (DataW H)) (before : List MemPlace)
    (hval : ∀ (j : Nat) t v, Tryd.f14.params[j]? = some t → args[j]? = some v → Value.okWide Tryd.prog W .any base t v)
    (hW : DataW.Whole enc Tryd.prog Tryd.f14.params.toList Rows.eraseTwiceSpec.vars false W args.toList ds gs before) (hL : laidMetH Tryd.prog Rows.eraseTwiceRow.laid W) :
    Calls Tryd.prog 14 args W fun e W' => ∃ v, e = .returned v ∧ Rows.eraseTwiceSpec.post enc Tryd.prog Tryd.f14 false true false false W args v W' := by
  have hW' := hW
  obtain ⟨p, q, hA0, hV, rfl, hfz, hnd⟩ := hW
  have hA := hA0
  rw [Tryd.params14] at hA hval
  obtain ⟨v0, vs0, d0, ds0, p0, q0, hargs, rfl, rfl, h0, r0⟩ := trodAll_cons hA
  obtain ⟨rfl, rfl, rfl⟩ := trodAll_nil r0
  obtain rfl : args = #[v0] := by cases args; simp_all
  obtain ⟨rfl, rfl⟩ := trodVars_none hV
  obtain ⟨A0, c0, t0, rfl, g0⟩ := open_nodes (hval 0 _ _ rfl rfl) h0
  refine (eraseTwice_calls W (fun k => k < W.heap.size) (fun _ h => h) A0 c0 t0 (shapes_of_laid hL) g0).mono fun e W' ⟨he, hf⟩ => ?_
  subst he
  exact ⟨_, rfl, post_true kids slicesFull (by rw [Tryd.params14]; decide) rfl hW' rfl Tryd.underlying4 ⟨rfl, rfl, rfl⟩ hf.below⟩
theorem laid_met (os : Os) : laidMet Tryd.prog Rows.eraseTwiceRow.laid ((laidWorld os).forCall (fun _ _ => 0) ⟨#[], #[Value.slice none 0 0], []⟩).memory :=
  laidMet_of_run' 8 (by kernel_rfl) (by kernel_rfl)
theorem reads (os : Os) {H : Type} (enc : TypeId × Value → H) : ∃ places, DataW.whole enc Tryd.prog ((laidWorld os).forCall (fun _ _ => 0) ⟨#[], #[Value.slice none 0 0], []⟩).memory Tryd.f14.params.toList Rows.eraseTwiceSpec.vars false #[Value.slice none 0 0].toList 8 = some ([.nil], [], places) :=
  ⟨[], by kernel_rfl⟩
theorem lifted (os : Os) (started : os.Started) (H : Type) (enc : TypeId × Value → H) (F : Stop.Interp) :
    ReturnsInHanded {} Tryd.checked os 14 .any ((OpenSpec.ofChange Rows.eraseTwiceSpec).preRow enc Tryd.prog Tryd.f14 Rows.eraseTwiceRow.domain false Rows.eraseTwiceRow.laid) (((OpenSpec.ofChange Rows.eraseTwiceSpec).at F).post enc Tryd.prog Tryd.f14 false true false false) := by
  obtain ⟨places, hx⟩ := reads os enc
  refine returnsInHanded_of_row (C := Tryd.checked) (s := OpenSpec.ofChange Rows.eraseTwiceSpec) ownKnobNone started (by kernel_rfl) Tryd.func14
    (witness_row_atRef (enc := enc) (C := Tryd.checked) false (laidWorld os) #[Value.slice none 0 0] rfl (by kernel_rfl) (by kernel_rfl) (by kernel_rfl)
      (OpenSpec.preRow_of_cond 8 hx (by kernel_rfl) (fun k hk => by cases hk) (by kernel_rfl) (laid_met os))) ?_
  intro W base args ds gs before hval hW _ _ _ hL _ _
  exact contract H enc W base args ds gs before hval hW hL
theorem said : Rows.EraseTwiceSaid :=
  OpenClaim.holds_of_cond 14 Tryd.f14 rfl rfl rfl rfl rfl rfl rfl ⟨rfl, rfl, rfl, rfl, rfl⟩ rfl rfl rfl rfl rfl (by kernel_rfl) Tryd.func14 (by kernel_rfl)
    (of_decide_eq_true (by kernel_rfl)) (by unfold Func.isWrapper; first | (rw [if_pos (by decide +kernel)]; kernel_rfl) | (rw [if_neg (by decide +kernel)]; exact ⟨rfl, rfl⟩))
    (fun os started H enc _ F => by rw [OpenClaim.pre_eq_preRow]; exact lifted os started H enc F)
theorem plain (f : FuncId) (fn : Func) (hf : Tryd.pinned.checked.prog.funcNamed "cornice/cornicelaw11.EraseTwice" = some f) (hfn : Tryd.pinned.checked.prog.funcs[f]? = some fn) :
    false = Tryd.pinned.checked.prog.looks [] ∧ ∀ (j : Nat) t, fn.params[j]? = some t → Tryd.pinned.checked.prog.wantsStandIn t = false := by
  obtain rfl : f = 14 := Option.some.inj ((show Tryd.prog.funcNamed "cornice/cornicelaw11.EraseTwice" = some 14 by kernel_rfl).symm.trans hf) |>.symm
  obtain rfl : fn = Tryd.f14 := (Option.some.inj (Tryd.func14.symm.trans hfn)).symm
  refine ⟨by kernel_rfl, fun j t ht => ?_⟩
  rw [Tryd.params14] at ht
  have hm := Array.mem_of_getElem? ht
  simp only [List.mem_toArray, List.mem_cons, List.not_mem_nil, or_false] at hm
  subst hm
  exact (show Tryd.prog.wantsStandIn 22 = false by kernel_rfl)
/-- The card. -/
theorem proved : Rows.EraseTwiceCardSaid :=
  Claim7.holds_tied_plain_at .later [] _ _ _ _ said (fun _ h => by cases h) (by kernel_rfl) (fun _ h => by cases h) eraseTwice_row_tie rfl ⟨rfl, rfl⟩ (by kernel_rfl) rfl plain (by kernel_rfl)
end Go.Proofs.YtobgdeffhdefeaaDoor.lawEraseTwice
