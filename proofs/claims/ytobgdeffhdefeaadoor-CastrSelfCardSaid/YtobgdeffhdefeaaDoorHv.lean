import Derived.Test.YtobgdeffhdefeaaDoorLv
import Derived.Test.YtobgdeffhdefeaaDoorRef
/- Contracts of functions, one theorem each: what the call returns, and that nothing old is changed. Printed by gen.py. -/
namespace Go.Proofs.YtobgdeffhdefeaaDoor
open Go Go.RowKit
set_option linter.unusedSimpArgs false
set_option linter.unusedVariables false

set_option maxRecDepth 100000 in
set_option maxHeartbeats 1000000 in
theorem heavy13_calls (w0 : World) (Z : Nat → Prop) (hZ : ∀ k, Z k → k < w0.heap.size) (tA : Option Addr) (tc : Nat) (t : List Nd) (ht : (dRow 4 tA t.length tc (encNs t)).φ w0 Z) :
    Calls Tryd.prog 34 [.slice tA t.length tc].toArray w0 (fun e w' => e = .returned (.bool (heavyB 100 t)) ∧ Fr none_ w0 w') := by
  have hstart : ∀ k, Z k → imm Z w0 [] w0 k ∧ w0.heap[k]? = w0.heap[k]? := fun k hk => ⟨⟨hZ k hk, fun _ => hk, fun _ h => by cases h⟩, rfl⟩
  have hS3 : St w0 Z none_ w0 [] [dRow 4 tA t.length tc (encNs t)] := St.start w0 Z none_ _ (by
    intro d hd
    simp only [List.mem_cons, List.not_mem_nil, or_false] at hd
    rcases hd with rfl
    · exact Dat.mono _ _ _ _ _ ht hstart
    )
  refine c_enter Tryd.func34 rfl Tryd.ntmps34 rfl (fun a1 hR2 => ?_)
  refine wp_seq_k (fun K4 hK5 => ?_)
  refine c_region ?_
  refine r_assign (st_listV rfl) hR2 rfl rfl rfl (by decide) (fun a6 hR7 => ?_)
  refine wpList_nil ?_
  refine x_then_n (hK5 _ _ ?_)
  refine wp_seq_k (fun K8 hK9 => ?_)
  refine wp_seq_k (fun K10 hK11 => ?_)
  refine c_region ?_
  refine r_move (st_listV rfl) hR7 rfl rfl rfl (by decide) (fun a12 hR13 => ?_)
  refine r_len (st_listV rfl) hR13 rfl rfl rfl rfl Tryd.underlying22 (by decide) (fun a14 hR15 => ?_)
  refine r_gtr (st_listV rfl) hR15 rfl rfl rfl rfl (by decide) (fun a16 hR17 => ?_)
  refine wpList_nil ?_
  refine x_then_n (hK11 _ _ ?_)
  rcases Decidable.em (100 < ((t.length : Nat) : Int)) with h18 | h18
  · skip
    have hR19 := hR17.setb (d := 6) (b := true) rfl (decide_eq_true h18)
    refine wp_cond_true (hR19.ev rfl) ?_
    refine wp_seq_k (fun K20 hK21 => ?_)
    refine c_region ?_
    refine r_assign (st_listV rfl) hR19 rfl rfl rfl (by decide) (fun a22 hR23 => ?_)
    refine wpList_nil ?_
    refine x_then_n (hK21 _ _ ?_)
    refine wp_ret ?_
    refine x_then_r ?_
    refine e_ret1 hR23 rfl rfl ?_
    refine ⟨?_, hS3.fr⟩
    exact congrArg Ending.returned (ret_b (by first | exact (heavy_len (by omega)).symm | exact (heavy_at (k := k) (by omega) (by omega)).symm | exact (heavy_no hi (by omega) (by omega)).symm))
  · skip
    have hR24 := hR17.setb (d := 6) (b := false) rfl (decide_eq_false h18)
    refine wp_cond_false (hR24.ev rfl) ?_
    refine wp_skip ?_
    refine x_then_n (hK9 _ _ ?_)
    refine wp_seq_k (fun K25 hK26 => ?_)
    refine wp_seq_k (fun K27 hK28 => ?_)
    refine c_region ?_
    refine r_assign (st_listV rfl) hR24 rfl rfl rfl (by decide) (fun a29 hR30 => ?_)
    refine wpList_nil ?_
    refine x_then_n (hK28 _ _ ?_)
    refine wp_block ?_
    refine wp_loop_ghost (fun gn ga gw => ∃ k : Nat, (Reg ga 20 [(0, .slice tA t.length tc), (3, .int .i64 ((k : Nat) : Int))]) ∧ (St w0 Z none_ gw [] [dRow 4 tA t.length tc (encNs t)]) ∧ (k ≤ t.length) ∧ (lightTo t k) ∧ (t.length - k) = gn) _ ⟨0, (Reg.cons hR30 (Reg.cons hR30 (hR30.nil) rfl) rfl), hS3, by omega, (fun _ h => by omega), rfl⟩ ?_
    rintro r31 a32 w33 ⟨k, hR34, hS35, hk, hi, hn36⟩
    refine wp_seq_k (fun K37 hK38 => ?_)
    refine wp_seq_k (fun K39 hK40 => ?_)
    refine c_region ?_
    refine r_move (st_listV rfl) hR34 rfl rfl rfl (by decide) (fun a41 hR42 => ?_)
    refine r_move (st_listV rfl) hR42 rfl rfl rfl (by decide) (fun a43 hR44 => ?_)
    refine r_len (st_listV rfl) hR44 rfl rfl rfl rfl Tryd.underlying22 (by decide) (fun a45 hR46 => ?_)
    refine r_lss (st_listV rfl) hR46 rfl rfl rfl rfl (by decide) (fun a47 hR48 => ?_)
    refine wpList_nil ?_
    refine x_then_n (hK40 _ _ ?_)
    rcases Decidable.em (((k : Nat) : Int) < ((t.length : Nat) : Int)) with h49 | h49
    · skip
      have hR50 := hR48.setb (d := 10) (b := true) rfl (decide_eq_true h49)
      refine wp_cond_true (hR50.ev rfl) ?_
      refine wp_skip ?_
      refine x_then_n (hK38 _ _ ?_)
      refine wp_seq_k (fun K51 hK52 => ?_)
      refine wp_block ?_
      refine wp_seq_k (fun K53 hK54 => ?_)
      refine c_region ?_
      refine r_move (st_listV rfl) hR50 rfl rfl rfl (by decide) (fun a55 hR56 => ?_)
      refine r_move (st_listV rfl) hR56 rfl rfl rfl (by decide) (fun a57 hR58 => ?_)
      refine m_index (i := k) (j := k * 4) (st_listV rfl) hR58 rfl rfl rfl rfl Tryd.underlying22 sz32 (by omega) (by omega) (nds_elem (t := t) (k := k) (hS35.row (i := 0) rfl).2 (by omega)).some_ rfl (by decide) (fun a59 hR60 => ?_)
      refine m_fieldE (j' := k * 4 + 3) (st_listV rfl) hR60 rfl rfl rfl (nds_elem (t := t) (k := k) (hS35.row (i := 0) rfl).2 (by omega)).some_ Tryd.underlying32 rfl sz9 rfl rfl (by decide) (fun a61 hR62 => ?_)
      refine m_loadE (st_listV rfl) hR62 rfl rfl rfl 3 (k * 4) (nds_elem (t := t) (k := k) (hS35.row (i := 0) rfl).2 (by omega)) rfl rfl Tryd.underlying9 rfl (by decide) (fun a63 hR64 => ?_)
      refine r_lenS (st_listV rfl) hR64 rfl rfl rfl rfl Tryd.underlying9 (by decide) (fun a65 hR66 => ?_)
      refine r_gtr (st_listV rfl) hR66 rfl rfl rfl rfl (by decide) (fun a67 hR68 => ?_)
      refine wpList_nil ?_
      refine x_then_n (hK54 _ _ ?_)
      rcases Decidable.em (100 < ((((nth t k).S).size : Nat) : Int)) with h69 | h69
      · skip
        have hR70 := hR68.setb (d := 19) (b := true) rfl (decide_eq_true h69)
        refine wp_cond_true (hR70.ev rfl) ?_
        refine wp_seq_k (fun K71 hK72 => ?_)
        refine c_region ?_
        refine r_assign (st_listV rfl) hR70 rfl rfl rfl (by decide) (fun a73 hR74 => ?_)
        refine wpList_nil ?_
        refine x_then_n (hK72 _ _ ?_)
        refine wp_ret ?_
        refine x_block_r ?_
        refine x_then_r ?_
        refine x_then_r ?_
        refine x_block_r ?_
        refine x_then_r ?_
        refine e_ret1 hR74 rfl rfl ?_
        refine ⟨?_, hS35.fr⟩
        exact congrArg Ending.returned (ret_b (by first | exact (heavy_len (by omega)).symm | exact (heavy_at (k := k) (by omega) (by omega)).symm | exact (heavy_no hi (by omega) (by omega)).symm))
      · skip
        have hR75 := hR68.setb (d := 19) (b := false) rfl (decide_eq_false h69)
        refine wp_cond_false (hR75.ev rfl) ?_
        refine wp_skip ?_
        refine x_block_n ?_
        refine x_then_n (hK52 _ _ ?_)
        refine c_region ?_
        refine r_move (st_listV rfl) hR75 rfl rfl rfl (by decide) (fun a76 hR77 => ?_)
        refine r_add (z := ((k + 1 : Nat) : Int)) (st_listV rfl) hR77 rfl rfl rfl rfl (by decide) (by omega) (by omega) (by omega) (fun a78 hR79 => ?_)
        refine r_assign (st_listV rfl) hR79 rfl rfl rfl (by decide) (fun a80 hR81 => ?_)
        refine wpList_nil ?_
        exact ⟨_, by omega, k + 1, (Reg.cons hR81 (Reg.cons hR81 (hR81.nil) rfl) rfl), hS35, by omega, light_step hi (by omega), rfl⟩
    · skip
      have hR82 := hR48.setb (d := 10) (b := false) rfl (decide_eq_false h49)
      refine wp_cond_false (hR82.ev rfl) ?_
      refine wp_exit ?_
      refine x_then_e ?_
      refine x_then_e ?_
      refine x_block_eq ?_
      refine x_then_n (hK26 _ _ ?_)
      refine wp_seq_k (fun K83 hK84 => ?_)
      refine c_region ?_
      refine r_assign (st_listV rfl) hR82 rfl rfl rfl (by decide) (fun a85 hR86 => ?_)
      refine wpList_nil ?_
      refine x_then_n (hK84 _ _ ?_)
      refine wp_ret ?_
      refine e_ret1 hR86 rfl rfl ?_
      refine ⟨?_, hS35.fr⟩
      exact congrArg Ending.returned (ret_b (by first | exact (heavy_len (by omega)).symm | exact (heavy_at (k := k) (by omega) (by omega)).symm | exact (heavy_no hi (by omega) (by omega)).symm))
end Go.Proofs.YtobgdeffhdefeaaDoor
