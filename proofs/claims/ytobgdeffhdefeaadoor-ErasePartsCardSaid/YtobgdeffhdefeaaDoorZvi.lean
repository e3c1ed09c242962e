import Derived.Test.YtobgdeffhdefeaaDoorZvh
import Derived.Test.YtobgdeffhdefeaaDoorCards
import Derived.Test.YtobgdeffhdefeaaDoorTie
import Derived.ProofKit
import Derived.OpenShut
import Derived.ReadAgain
import Derived.Deep.DeepHandedRow
import Derived.Deep.Slices
import Derived.Lib.LaidTab
import Derived.Deep.DeepWitnessRowRef
/- Contracts of functions, one theorem each: what the call returns, and that nothing old is changed. Printed by gen.py. -/
namespace Go.Proofs.YtobgdeffhdefeaaDoor
open Go Go.RowKit
set_option linter.unusedSimpArgs false
set_option linter.unusedVariables false

set_option maxRecDepth 100000 in
set_option maxHeartbeats 1000000 in
theorem eraseParts_calls (w0 : World) (Z : Nat → Prop) (hZ : ∀ k, Z k → k < w0.heap.size) (tA : Option Addr) (tc : Nat) (t : List Nd) (hShp : Shapes w0 Z) (ht : (dRow 4 tA t.length tc (encNs t)).φ w0 Z) :
    Calls Tryd.prog 7 [.slice tA t.length tc].toArray w0 (fun e w' => e = .returned (.bool (true)) ∧ Fr none_ w0 w') := by
  have hstart : ∀ k, Z k → imm Z w0 [] w0 k ∧ w0.heap[k]? = w0.heap[k]? := fun k hk => ⟨⟨hZ k hk, fun _ => hk, fun _ h => by cases h⟩, rfl⟩
  have hS3 : St w0 Z none_ w0 [] [dShapes, dRow 4 tA t.length tc (encNs t)] := St.start w0 Z none_ _ (by
    intro d hd
    simp only [List.mem_cons, List.not_mem_nil, or_false] at hd
    rcases hd with rfl | rfl
    · exact Dat.mono _ _ _ _ _ (Nat.le_refl _) hShp hstart
    · exact Dat.mono _ _ _ _ _ (Nat.le_refl _) ht hstart
    )
  refine c_enter Tryd.func7 rfl Tryd.ntmps7 rfl (fun a1 hR2 => ?_)
  refine wp_seq_k (fun K4 hK5 => ?_)
  refine c_region ?_
  refine r_assign (st_listV rfl) hR2 rfl rfl rfl (by decide) (fun a6 hR7 => ?_)
  refine wpList_nil ?_
  refine x_then_n (hK5 _ _ ?_)
  refine wp_seq_k (fun K8 hK9 => ?_)
  refine wp_seq_k (fun K10 hK11 => ?_)
  refine c_region ?_
  refine r_move (st_listV rfl) hR7 rfl rfl rfl (by decide) (fun a12 hR13 => ?_)
  have hS14 : St w0 Z none_ w0 [] [dShapes, dRow 4 tA t.length tc (encNs t)] := hS3
  refine k_call (xs := [.tmp 16]) (st_list rfl) hR13 rfl rfl rfl (by decide) ok26 (heavy11_calls _ (imm Z w0 [] _) (fun _ h => h.1) tA tc t (hS14.get (i := 1) rfl)) ?_
  rintro e21 w16 ⟨rfl, hf19⟩
  have hS22 := hS14.below hf19.below
  refine ⟨_, rfl, fun a15 hR17 => ?_⟩
  refine r_move (st_listV rfl) hR17 rfl rfl rfl (by decide) (fun a23 hR24 => ?_)
  refine l_join (fun ga gw => Reg ga 150 [(0, .slice tA t.length tc), (2, .bool false), (21, .bool ((heavyB 200 t) || (!true))), (1000000, .bool false)] ∧ St w0 Z none_ gw [] [dShapes, dRow 4 tA t.length tc (encNs t)]) 3 ?_ ?_
  · skip
    rcases Bool.eq_false_or_eq_true (heavyB 200 t) with h25 | h25
    · skip
      have hR26 := hR24.setb (d := 18) (b := true) rfl h25
      refine s_pass hR26 rfl (by decide) (want_f hR26 rfl rfl rfl (by decide) rfl rfl) (fun a27 hR28 => ?_)
      refine s_pass hR28 rfl (by decide) (want_f hR28 rfl rfl rfl (by decide) rfl rfl) (fun a29 hR30 => ?_)
      refine r_pick_t (st_listV rfl) hR30 rfl rfl rfl rfl (by decide) (fun a31 hR32 => ?_)
      refine wpList_nil ?_
      exact x_then_n ⟨(Reg.cons hR32 (Reg.cons hR32 (Reg.consb hR32 (Reg.cons hR32 (hR32.nil) rfl) rfl (by first | rfl | (simp only [h25, Bool.true_and, Bool.and_true, Bool.false_and, Bool.and_false, Bool.true_or, Bool.or_true, Bool.false_or, Bool.or_false, Bool.not_true, Bool.not_false, if_true, ite_true, ite_false, Bool.false_eq_true]; done) | (simp [h25]; done) | (simp [h25]; omega))) rfl) rfl), hS22⟩
    · skip
      obtain ⟨hlt, hst⟩ := heavy_false h25
      have hel := erA_le t
      obtain ⟨hlt, hst⟩ := heavy_false h25
      have hel := erA_le t
      have hR33 := hR24.setb (d := 18) (b := false) rfl h25
      have hS34 : St w0 Z none_ w16 [] [dShapes, dRow 4 tA t.length tc (encNs t)] := hS22
      refine k_call (xs := []) (st_list_w (want_t hR33 rfl rfl rfl (by decide) rfl)) hR33 rfl rfl rfl (by decide) ok27 (shown11_calls _ (imm Z w0 [] _) (fun _ h => h.1) (hS34.get (i := 0) rfl)) ?_
      rintro e41 w36 ⟨rfl, hf39⟩
      have hS42 := hS34.below hf39.below
      refine ⟨_, rfl, fun a35 hR37 => ?_⟩
      refine r_not (st_listV_w (want_t hR37 rfl rfl rfl (by decide) rfl)) hR37 rfl rfl rfl (by decide) (fun a43 hR44 => ?_)
      refine r_pick_f (st_listV rfl) hR44 rfl rfl rfl rfl (by decide) (fun a45 hR46 => ?_)
      refine wpList_nil ?_
      exact x_then_n ⟨(Reg.cons hR46 (Reg.cons hR46 (Reg.consb hR46 (Reg.cons hR46 (hR46.nil) rfl) rfl (by first | rfl | (simp only [h25, Bool.true_and, Bool.and_true, Bool.false_and, Bool.and_false, Bool.true_or, Bool.or_true, Bool.false_or, Bool.or_false, Bool.not_true, Bool.not_false, if_true, ite_true, ite_false, Bool.false_eq_true]; done) | (simp [h25]; done) | (simp [h25]; omega))) rfl) rfl), hS42⟩
  rintro a47 w48 ⟨hR49, hS50⟩
  refine wpList_nil ?_
  refine x_then_n (hK11 _ _ ?_)
  rcases Bool.eq_false_or_eq_true (((heavyB 200 t) || (!true))) with h51 | h51
  · skip
    have hq52 := h51
    try simp only [Bool.or_eq_true, Bool.and_eq_true, Bool.not_eq_true', Bool.not_eq_false', decide_eq_true_eq, decide_eq_false_iff_not, Bool.or_eq_false_iff, Bool.and_eq_false_iff] at hq52
    have hR53 := hR49.setb (d := 21) (b := true) rfl h51
    refine wp_cond_true (hR53.ev rfl) ?_
    refine wp_seq_k (fun K54 hK55 => ?_)
    refine c_region ?_
    have hS56 : St w0 Z none_ w48 [] [dShapes, dRow 4 tA t.length tc (encNs t)] := hS50
    refine k_call (xs := []) (st_list rfl) hR53 rfl rfl rfl (by decide) ok27 (shown11_calls _ (imm Z w0 [] _) (fun _ h => h.1) (hS56.get (i := 0) rfl)) ?_
    rintro e63 w58 ⟨rfl, hf61⟩
    have hS64 := hS56.below hf61.below
    refine ⟨_, rfl, fun a57 hR59 => ?_⟩
    refine r_assign (st_listV rfl) hR59 rfl rfl rfl (by decide) (fun a65 hR66 => ?_)
    refine wpList_nil ?_
    refine x_then_n (hK55 _ _ ?_)
    refine wp_ret ?_
    refine x_then_r ?_
    refine e_ret1 hR66 rfl rfl rfl ?_
    refine ⟨?_, hS64.fr⟩
    exact congrArg Ending.returned (ret_b (by first | rfl | omega | (have q0 := h51; (try simp at q0);  omega) | (simp [h51]; done) | (simp [] at *; done) | (simp [h51] <;> omega) | (rw [Bool.eq_iff_iff]; simp [h51] <;> omega) | (rw [Bool.eq_iff_iff]; simp [h51] at * <;> omega)))
  · skip
    have h67 := or_fl h51
    obtain ⟨hlt, hst⟩ := heavy_false h67
    have hel := erA_le t
    have h68 := or_fr h51
    have h69 := not_f h68
    have hR70 := hR49.setb (d := 21) (b := false) rfl h51
    refine wp_cond_false (hR70.ev rfl) ?_
    refine wp_skip ?_
    refine x_then_n (hK9 _ _ ?_)
    refine wp_seq_k (fun K71 hK72 => ?_)
    refine c_region ?_
    refine r_move (st_listV rfl) hR70 rfl rfl rfl (by decide) (fun a73 hR74 => ?_)
    have hS75 : St w0 Z none_ w48 [] [dShapes, dRow 4 tA t.length tc (encNs t)] := hS50
    refine k_call (xs := [.tmp 24]) (st_list rfl) hR74 rfl rfl rfl (by decide) ok28 (erase_calls _ (imm Z w0 [] _) (fun _ h => h.1) tA tc t (hS75.get (i := 0) rfl) (hS75.get (i := 1) rfl) (by first | assumption | omega | (simp; done) | (simp; omega)) (by first | assumption | omega | (simp; done) | (simp; omega))) ?_
    rintro e85 w77 ⟨A81, c82, rfl, hf80, hd83⟩
    have hS86 := hS75.below hf80.below
    have hS87 := hS86.data (dRow 4 A81 ((erA t).length) c82 (encNs (erA t))) ⟨hd83.1, hd83.2.mono (fun _ hk => ⟨nxt_imm hS75 hk, rfl⟩)⟩
    refine ⟨_, rfl, fun a76 hR78 => ?_⟩
    refine r_move (st_listV rfl) hR78 rfl rfl rfl (by decide) (fun a88 hR89 => ?_)
    refine r_extract (st_listV rfl) hR89 rfl rfl rfl rfl (by decide) (fun a90 hR91 => ?_)
    refine r_extract (st_listV rfl) hR91 rfl rfl rfl rfl (by decide) (fun a92 hR93 => ?_)
    refine r_assign (st_listV rfl) hR93 rfl rfl rfl (by decide) (fun a94 hR95 => ?_)
    refine r_assign (st_listV rfl) hR95 rfl rfl rfl (by decide) (fun a96 hR97 => ?_)
    refine wpList_nil ?_
    refine x_then_n (hK72 _ _ ?_)
    refine wp_seq_k (fun K98 hK99 => ?_)
    refine c_region ?_
    refine r_move (st_listV rfl) hR97 rfl rfl rfl (by decide) (fun a100 hR101 => ?_)
    have hS102 : St w0 Z none_ w77 [] [dShapes, dRow 4 tA t.length tc (encNs t), dRow 4 A81 ((erA t).length) c82 (encNs (erA t))] := hS87
    refine k_call (xs := [.tmp 29]) (st_list rfl) hR101 rfl rfl rfl (by decide) ok31 (eraProofs_calls _ (imm Z w0 [] _) (fun _ h => h.1) tA tc t (hS102.get (i := 0) rfl) (hS102.get (i := 1) rfl) (by first | assumption | omega | (simp; done) | (simp; omega)) (by first | assumption | omega | (simp; done) | (simp; omega))) ?_
    rintro e115 w104 ⟨A108, c109, rL110, rfl, hf107, hd111, hd112, hL113⟩
    have hS116 := hS102.below hf107.below
    have hS117 := hS116.data (dRow 1 A108 rL110.length c109 (encSs rL110)) ⟨hd111.1, hd111.2.mono (fun _ hk => ⟨nxt_imm hS102 hk, rfl⟩)⟩
    have hS118 := hS117.data (dAll rL110) ((dAll _).mono _ _ _ _ (Nat.le_refl _) hd112 (fun _ hk => ⟨nxt_imm hS102 hk, rfl⟩))
    refine ⟨_, rfl, fun a103 hR105 => ?_⟩
    refine r_move (st_listV rfl) hR105 rfl rfl rfl (by decide) (fun a119 hR120 => ?_)
    refine r_extract (st_listV rfl) hR120 rfl rfl rfl rfl (by decide) (fun a121 hR122 => ?_)
    refine r_extract (st_listV rfl) hR122 rfl rfl rfl rfl (by decide) (fun a123 hR124 => ?_)
    refine r_assign (st_listV rfl) hR124 rfl rfl rfl (by decide) (fun a125 hR126 => ?_)
    refine r_assign (st_listV rfl) hR126 rfl rfl rfl (by decide) (fun a127 hR128 => ?_)
    refine wpList_nil ?_
    refine x_then_n (hK99 _ _ ?_)
    refine wp_seq_k (fun K129 hK130 => ?_)
    refine wp_seq_k (fun K131 hK132 => ?_)
    refine c_region ?_
    refine r_move (st_listV rfl) hR128 rfl rfl rfl (by decide) (fun a133 hR134 => ?_)
    refine r_move (st_listV rfl) hR134 rfl rfl rfl (by decide) (fun a135 hR136 => ?_)
    have hS137 : St w0 Z none_ w104 [] [dShapes, dRow 4 tA t.length tc (encNs t), dRow 4 A81 ((erA t).length) c82 (encNs (erA t)), dRow 1 A108 rL110.length c109 (encSs rL110), dAll rL110] := hS118
    refine k_call (xs := [.tmp 34]) (st_list rfl) hR136 rfl rfl rfl (by decide) ok19 (rcheck_calls _ (imm Z w0 [] _) (fun _ h => h.1) tA tc t (hS137.get (i := 1) rfl) (by first | assumption | omega | (simp; done) | (simp; omega)) (by first | assumption | omega | (simp; done) | (simp; omega))) ?_
    rintro e144 w139 ⟨rfl, hf142⟩
    have hS145 := hS137.below hf142.below
    refine ⟨_, rfl, fun a138 hR140 => ?_⟩
    refine r_neq (st_listV rfl) hR140 rfl rfl rfl rfl (by decide) (fun a146 hR147 => ?_)
    refine r_move (st_listV rfl) hR147 rfl rfl rfl (by decide) (fun a148 hR149 => ?_)
    have h160 : ((chk t)) = ((chk t)) := rfl
    have hR161 := hR149.setb (d := 37) (b := false) rfl (by rw [(decide_eq_true h160)]; rfl)
    refine r_move (st_listV_w (want_t hR161 rfl rfl rfl (by decide) rfl)) hR161 rfl rfl rfl (by decide) (fun a162 hR163 => ?_)
    refine r_move (st_listV_w (want_t hR163 rfl rfl rfl (by decide) rfl)) hR163 rfl rfl rfl (by decide) (fun a164 hR165 => ?_)
    refine r_neq (st_listV_w (want_t hR165 rfl rfl rfl (by decide) rfl)) hR165 rfl rfl rfl rfl (by decide) (fun a166 hR167 => ?_)
    refine r_pick_f (st_listV rfl) hR167 rfl rfl rfl rfl (by decide) (fun a168 hR169 => ?_)
    refine wpList_nil ?_
    refine x_then_n (hK132 _ _ ?_)
    have hR170 := hR169.setb (d := 41) (b := false) rfl (by rw [(decide_eq_true h160)]; rfl)
    refine wp_cond_false (hR170.ev rfl) ?_
    refine wp_skip ?_
    refine x_then_n (hK130 _ _ ?_)
    refine wp_seq_k (fun K171 hK172 => ?_)
    refine wp_seq_k (fun K173 hK174 => ?_)
    refine c_region ?_
    refine r_move (st_listV rfl) hR170 rfl rfl rfl (by decide) (fun a175 hR176 => ?_)
    refine r_neq (st_listV rfl) hR176 rfl rfl rfl rfl (by decide) (fun a177 hR178 => ?_)
    refine wpList_nil ?_
    refine x_then_n (hK174 _ _ ?_)
    rcases Decidable.em (((chk t)) = 0) with h179 | h179
    · skip
      have hc := h179
      have hpt := chk_pos hc
      have hb := meas_chk hc
      have hea := erA_ok hc
      have hpa := prA_ok hc
      have hR180 := hR178.setb (d := 43) (b := false) rfl (by rw [(decide_eq_true h179)]; rfl)
      refine wp_cond_false (hR180.ev rfl) ?_
      refine wp_skip ?_
      refine x_then_n (hK172 _ _ ?_)
      refine wp_seq_k (fun K181 hK182 => ?_)
      refine wp_seq_k (fun K183 hK184 => ?_)
      refine c_region ?_
      refine r_move (st_listV rfl) hR180 rfl rfl rfl (by decide) (fun a185 hR186 => ?_)
      have hS187 : St w0 Z none_ w139 [] [dShapes, dRow 4 tA t.length tc (encNs t), dRow 4 A81 ((erA t).length) c82 (encNs (erA t)), dRow 1 A108 rL110.length c109 (encSs rL110), dAll rL110] := hS145
      refine k_call (xs := [.tmp 52]) (st_list rfl) hR186 rfl rfl rfl (by decide) ok23 (rroot_calls _ (imm Z w0 [] _) (fun _ h => h.1) tA tc t (hS187.get (i := 1) rfl) (by first | assumption | omega | (simp; done) | (simp; omega)) (by first | assumption | omega | (simp; done) | (simp; omega))) ?_
      rintro e194 w189 ⟨rfl, hf192⟩
      have hS195 := hS187.below hf192.below
      refine ⟨_, rfl, fun a188 hR190 => ?_⟩
      refine m_fieldV (v := .int .i64 (((nth t (t.length - 1)).K))) (st_listV rfl) hR190 rfl rfl rfl (fun _ => by kernel_rfl) (by decide) (fun a196 hR197 => ?_)
      refine r_eql (st_listV rfl) hR197 rfl rfl rfl rfl (by decide) (fun a198 hR199 => ?_)
      refine wpList_nil ?_
      refine x_then_n (hK184 _ _ ?_)
      rcases Decidable.em ((((nth t (t.length - 1)).K)) = 28) with h200 | h200
      · skip
        have hR201 := hR199.setb (d := 55) (b := true) rfl (decide_eq_true h200)
        refine wp_cond_true (hR201.ev rfl) ?_
        refine wp_seq_k (fun K202 hK203 => ?_)
        refine c_region ?_
        refine r_move (st_listV rfl) hR201 rfl rfl rfl (by decide) (fun a204 hR205 => ?_)
        refine r_len (st_listV rfl) hR205 rfl rfl rfl rfl Tryd.underlying22 (by decide) (fun a206 hR207 => ?_)
        refine r_eql (st_listV rfl) hR207 rfl rfl rfl rfl (by decide) (fun a208 hR209 => ?_)
        refine r_move (st_listV rfl) hR209 rfl rfl rfl (by decide) (fun a210 hR211 => ?_)
        have h226 : (((erA t).length : Nat) : Int) = 1 := by rw [hea, erL_prf hb (by omega)]; rfl
        have hR227 := hR211.setb (d := 59) (b := true) rfl (decide_eq_true h226)
        refine r_move (st_listV_w (want_t hR227 rfl rfl rfl (by decide) rfl)) hR227 rfl rfl rfl (by decide) (fun a228 hR229 => ?_)
        refine m_index (i := 0) (j := 0 * 4) (st_listV_w (want_t hR229 rfl rfl rfl (by decide) rfl)) hR229 rfl rfl rfl rfl Tryd.underlying22 sz32 (by omega) (by omega) (nds_elem (t := erA t) (k := 0) (hS195.row (i := 2) rfl).2 (by omega)).some_ rfl (by decide) (fun a230 hR231 => ?_)
        refine m_fieldE (j' := 0 * 4) (st_listV_w (want_t hR231 rfl rfl rfl (by decide) rfl)) hR231 rfl rfl rfl (nds_elem (t := erA t) (k := 0) (hS195.row (i := 2) rfl).2 (by omega)).some_ Tryd.underlying32 rfl sz3 rfl rfl (by decide) (fun a232 hR233 => ?_)
        refine m_loadE (st_listV_w (want_t hR233 rfl rfl rfl (by decide) rfl)) hR233 rfl rfl rfl 0 (0 * 4) (nds_elem (t := erA t) (k := 0) (hS195.row (i := 2) rfl).2 (by omega)) rfl rfl Tryd.underlying3 rfl (by decide) (fun a234 hR235 => ?_)
        refine r_eql (st_listV_w (want_t hR235 rfl rfl rfl (by decide) rfl)) hR235 rfl rfl rfl rfl (by decide) (fun a236 hR237 => ?_)
        refine r_pick_t (st_listV rfl) hR237 rfl rfl rfl rfl (by decide) (fun a238 hR239 => ?_)
        refine r_move (st_listV rfl) hR239 rfl rfl rfl (by decide) (fun a240 hR241 => ?_)
        have h252 : (((nth (erA t) 0).K)) = 29 := by rw [hea, erL_prf hb (by omega)]; rfl
        have hR253 := hR241.setb (d := 66) (b := true) rfl (decide_eq_true h252)
        refine r_move (st_listV_w (want_t hR253 rfl rfl rfl (by decide) rfl)) hR253 rfl rfl rfl (by decide) (fun a254 hR255 => ?_)
        refine r_len (st_listV_w (want_t hR255 rfl rfl rfl (by decide) rfl)) hR255 rfl rfl rfl rfl Tryd.underlying39 (by decide) (fun a256 hR257 => ?_)
        refine r_eql (st_listV_w (want_t hR257 rfl rfl rfl (by decide) rfl)) hR257 rfl rfl rfl rfl (by decide) (fun a258 hR259 => ?_)
        refine r_pick_t (st_listV rfl) hR259 rfl rfl rfl rfl (by decide) (fun a260 hR261 => ?_)
        refine r_move (st_listV rfl) hR261 rfl rfl rfl (by decide) (fun a262 hR263 => ?_)
        have h286 : ((rL110.length : Nat) : Int) = 1 := by rw [← lsts_len, hL113, hpa, prL_prf hb (by omega)]; rfl
        have hpz := prA_le t _ (prA_at hL113 (show 0 < rL110.length by omega)).1
        have hR287 := hR263.setb (d := 71) (b := true) rfl (decide_eq_true h286)
        refine r_move (st_listV_w (want_t hR287 rfl rfl rfl (by decide) rfl)) hR287 rfl rfl rfl (by decide) (fun a288 hR289 => ?_)
        refine m_index (i := 0) (j := 0 * 1) (st_listV_w (want_t hR289 rfl rfl rfl (by decide) rfl)) hR289 rfl rfl rfl rfl Tryd.underlying39 sz22 (by omega) (by omega) (ss_elem (t := rL110) (k := 0) (hS195.row (i := 3) rfl).2 (by omega)).some_ rfl (by decide) (fun a290 hR291 => ?_)
        refine m_loadE (st_listV_w (want_t hR291 rfl rfl rfl (by decide) rfl)) hR291 rfl rfl rfl 0 (0 * 1) (ss_elem (t := rL110) (k := 0) (hS195.row (i := 3) rfl).2 (by omega)) rfl rfl Tryd.underlying22 rfl (by decide) (fun a292 hR293 => ?_)
        have hS294 := hS195.data (dRow 4 ((nthS rL110 0).1) ((nthS rL110 0).2.2.length) ((nthS rL110 0).2.1) (encNs ((nthS rL110 0).2.2))) (all_at (t := rL110) (k := 0) (hS195.get (i := 4) rfl) (by omega))
        refine r_move (st_listV_w (want_t hR293 rfl rfl rfl (by decide) rfl)) hR293 rfl rfl rfl (by decide) (fun a295 hR296 => ?_)
        have hS297 : St w0 Z none_ w189 [] [dShapes, dRow 4 tA t.length tc (encNs t), dRow 4 A81 ((erA t).length) c82 (encNs (erA t)), dRow 1 A108 rL110.length c109 (encSs rL110), dAll rL110, dRow 4 ((nthS rL110 0).1) ((nthS rL110 0).2.2.length) ((nthS rL110 0).2.1) (encNs ((nthS rL110 0).2.2))] := hS294
        refine k_call (xs := [.tmp 74, .tmp 75]) (st_list_w (want_t hR296 rfl rfl rfl (by decide) rfl)) hR296 rfl rfl rfl (by decide) ok30 (rsame_calls _ (imm Z w0 [] _) (fun _ h => h.1) ((nthS rL110 0).1) ((nthS rL110 0).2.1) ((nthS rL110 0).2.2) tA tc t (hS297.get (i := 5) rfl) (hS297.get (i := 1) rfl) (by first | assumption | omega | (simp; done) | (simp; omega))) ?_
        rintro e304 w299 ⟨rfl, hf302⟩
        have hS305 := hS297.below hf302.below
        refine ⟨_, rfl, fun a298 hR300 => ?_⟩
        refine r_pick_t (st_listV rfl) hR300 rfl rfl rfl rfl (by decide) (fun a306 hR307 => ?_)
        refine r_assign (st_listV rfl) hR307 rfl rfl rfl (by decide) (fun a308 hR309 => ?_)
        refine wpList_nil ?_
        refine x_then_n (hK203 _ _ ?_)
        refine wp_ret ?_
        refine x_then_r ?_
        refine e_ret1 hR309 rfl rfl rfl ?_
        have h310 : (decide (((nthS rL110 0).2.2) = t)) = true := decide_eq_true (by rw [lsts_nth, hL113, hpa, prL_prf hb (by omega)]; rfl)
        refine ⟨?_, hS305.fr⟩
        exact congrArg Ending.returned (ret_b (by first | rfl | omega | (have q0 := h51; (try simp at q0); have q1 := h67; (try simp at q1); have q2 := h69; (try simp at q2); have q3 := h160; (try simp at q3); have q4 := h179; (try simp at q4); have q5 := h200; (try simp at q5); have q6 := h226; (try simp at q6); have q7 := h252; (try simp at q7); have q8 := h286; (try simp at q8); have q9 := h310; (try simp at q9);  omega) | (simp [h51, h67, h69, h160, h179, h200, h226, h252, h286, h310]; done) | (simp [] at *; done) | (simp [h51, h67, h69, h160, h179, h200, h226, h252, h286, h310] <;> omega) | (rw [Bool.eq_iff_iff]; simp [h51, h67, h69, h160, h179, h200, h226, h252, h286, h310] <;> omega) | (rw [Bool.eq_iff_iff]; simp [h51, h67, h69, h160, h179, h200, h226, h252, h286, h310] at * <;> omega)))
      · skip
        have hR311 := hR199.setb (d := 55) (b := false) rfl (decide_eq_false h200)
        refine wp_cond_false (hR311.ev rfl) ?_
        refine wp_skip ?_
        refine x_then_n (hK182 _ _ ?_)
        refine wp_seq_k (fun K312 hK313 => ?_)
        refine c_region ?_
        refine r_move (st_listV rfl) hR311 rfl rfl rfl (by decide) (fun a314 hR315 => ?_)
        have hS316 : St w0 Z none_ w189 [] [dShapes, dRow 4 tA t.length tc (encNs t), dRow 4 A81 ((erA t).length) c82 (encNs (erA t)), dRow 1 A108 rL110.length c109 (encSs rL110), dAll rL110] := hS195
        refine k_call (xs := [.tmp 78]) (st_list rfl) hR315 rfl rfl rfl (by decide) ok32 (rparts_calls _ (imm Z w0 [] _) (fun _ h => h.1) tA tc t (hS316.get (i := 1) rfl) (by omega) hst hb) ?_
        rintro e329 w318 ⟨A322, c323, rL324, rfl, hf321, hd325, hd326, hL327⟩
        have hS330 := hS316.below hf321.below
        have hS331 := hS330.data (dRow 1 A322 rL324.length c323 (encSs rL324)) ⟨hd325.1, hd325.2.mono (fun _ hk => ⟨nxt_imm hS316 hk, rfl⟩)⟩
        have hS332 := hS331.data (dAll rL324) ((dAll _).mono _ _ _ _ (Nat.le_refl _) hd326 (fun _ hk => ⟨nxt_imm hS316 hk, rfl⟩))
        refine ⟨_, rfl, fun a317 hR319 => ?_⟩
        refine r_assign (st_listV rfl) hR319 rfl rfl rfl (by decide) (fun a333 hR334 => ?_)
        refine wpList_nil ?_
        refine x_then_n (hK313 _ _ ?_)
        refine wp_seq_k (fun K335 hK336 => ?_)
        refine c_region ?_
        refine m_buildSlice (ps := []) (cs := []) (st_listV rfl) hR334 hS332 rfl rfl rfl Tryd.underlying22 zi32 rfl rfl (by kernel_rfl) rfl (by decide) (fun a337 w338 g339 hR340 hS341 => ?_)
        refine r_assign (st_listV rfl) hR340 rfl rfl rfl (by decide) (fun a342 hR343 => ?_)
        refine wpList_nil ?_
        refine x_then_n (hK336 _ _ ?_)
        refine wp_seq_k (fun K344 hK345 => ?_)
        refine c_region ?_
        refine r_assign (st_listV rfl) hR343 rfl rfl rfl (by decide) (fun a346 hR347 => ?_)
        refine wpList_nil ?_
        refine x_then_n (hK345 _ _ ?_)
        refine wp_seq_k (fun K348 hK349 => ?_)
        refine wp_seq_k (fun K350 hK351 => ?_)
        refine c_region ?_
        refine r_assign (st_listV rfl) hR347 rfl rfl rfl (by decide) (fun a352 hR353 => ?_)
        refine wpList_nil ?_
        refine x_then_n (hK351 _ _ ?_)
        refine wp_block ?_
        refine wp_loop_ghost (fun gn ga gw => ∃ k : Nat, ∃ Ao : Option Addr, ∃ co : Nat, (Reg ga 150 [(0, .slice tA t.length tc), (1000000, .bool false), (3, .slice A81 ((erA t).length) c82), (5, .slice A108 rL110.length c109), (7, .slice A322 rL324.length c323), (10, .int .i64 ((k : Nat) : Int)), (9, .int .i64 (((((ptL t).take k).map prL).flatten.length : Nat) : Int)), (8, .slice Ao (((((ptL t).take k).map erL).flatten).length) co)]) ∧ (St w0 Z none_ gw [.row Ao (((((ptL t).take k).map erL).flatten).length) co 32 4 (encNs ((((ptL t).take k).map erL).flatten))] [dShapes, dRow 4 tA t.length tc (encNs t), dRow 4 A81 ((erA t).length) c82 (encNs (erA t)), dRow 1 A108 rL110.length c109 (encSs rL110), dAll rL110, dRow 1 A322 rL324.length c323 (encSs rL324), dAll rL324]) ∧ (k ≤ rL324.length) ∧ (rL324.length - k) = gn) _ ⟨0, (some ⟨g339, 0, none⟩), 0, (Reg.cons hR353 (Reg.cons hR353 (Reg.cons hR353 (Reg.cons hR353 (Reg.cons hR353 (Reg.cons hR353 (Reg.consi hR353 (Reg.cons hR353 (hR353.nil) rfl) rfl (by simp)) rfl) rfl) rfl) rfl) rfl) rfl), hS341, by omega, rfl⟩ ?_
        rintro r354 a355 w356 ⟨k, Ao, co, hR357, hS358, hk, hn359⟩
        have hrl : rL324.length = (ptL t).length := by rw [← lsts_len, hL327]
        have hp8 := ptL_le hb
        have hr5 : rL110.length ≤ t.length := by rw [← lsts_len, hL113]; exact prA_len t
        have hf1 := flat_take_le (f := erL) hb (fun p hp => erL_len (ptL_mem hb hp).1) k
        have hf2 := flat_take_le (f := prL) hb (fun p hp => (prL_len (ptL_mem hb hp).1).1) k
        refine wp_seq_k (fun K360 hK361 => ?_)
        refine wp_seq_k (fun K362 hK363 => ?_)
        refine c_region ?_
        refine r_move (st_listV rfl) hR357 rfl rfl rfl (by decide) (fun a364 hR365 => ?_)
        refine r_move (st_listV rfl) hR365 rfl rfl rfl (by decide) (fun a366 hR367 => ?_)
        refine r_len (st_listV rfl) hR367 rfl rfl rfl rfl Tryd.underlying39 (by decide) (fun a368 hR369 => ?_)
        refine r_lss (st_listV rfl) hR369 rfl rfl rfl rfl (by decide) (fun a370 hR371 => ?_)
        refine wpList_nil ?_
        refine x_then_n (hK363 _ _ ?_)
        rcases Decidable.em (((k : Nat) : Int) < ((rL324.length : Nat) : Int)) with h372 | h372
        · skip
          obtain ⟨hpe, hpk, hpb, hpl, hps, hp0'⟩ := part_at hb hst hL327 (show k < rL324.length by omega)
          have hpc := ptL_chk hc (nthL_mem hpk)
          have hea2 : erA (nthS rL324 k).2.2 = erL (nthS rL324 k).2.2 := erA_ok (by rw [hpe]; exact hpc)
          have hpa2 : prA (nthS rL324 k).2.2 = prL (nthS rL324 k).2.2 := prA_ok (by rw [hpe]; exact hpc)
          have hel2 := erA_le (nthS rL324 k).2.2
          have hR373 := hR371.setb (d := 84) (b := true) rfl (decide_eq_true h372)
          refine wp_cond_true (hR373.ev rfl) ?_
          refine wp_skip ?_
          refine x_then_n (hK361 _ _ ?_)
          refine wp_seq_k (fun K374 hK375 => ?_)
          refine wp_block ?_
          refine wp_seq_k (fun K376 hK377 => ?_)
          refine c_region ?_
          refine r_move (st_listV rfl) hR373 rfl rfl rfl (by decide) (fun a378 hR379 => ?_)
          refine r_move (st_listV rfl) hR379 rfl rfl rfl (by decide) (fun a380 hR381 => ?_)
          refine m_index (i := k) (j := k * 1) (st_listV rfl) hR381 rfl rfl rfl rfl Tryd.underlying39 sz22 (by omega) (by omega) (ss_elem (t := rL324) (k := k) (hS358.row (i := 5) rfl).2 (by omega)).some_ rfl (by decide) (fun a382 hR383 => ?_)
          refine m_loadE (st_listV rfl) hR383 rfl rfl rfl 0 (k * 1) (ss_elem (t := rL324) (k := k) (hS358.row (i := 5) rfl).2 (by omega)) rfl rfl Tryd.underlying22 rfl (by decide) (fun a384 hR385 => ?_)
          have hS386 := hS358.data (dRow 4 ((nthS rL324 k).1) ((nthS rL324 k).2.2.length) ((nthS rL324 k).2.1) (encNs ((nthS rL324 k).2.2))) (all_at (t := rL324) (k := k) (hS358.get (i := 6) rfl) (by omega))
          have hS387 : St w0 Z none_ w356 [.row Ao (((((ptL t).take k).map erL).flatten).length) co 32 4 (encNs ((((ptL t).take k).map erL).flatten))] [dShapes, dRow 4 tA t.length tc (encNs t), dRow 4 A81 ((erA t).length) c82 (encNs (erA t)), dRow 1 A108 rL110.length c109 (encSs rL110), dAll rL110, dRow 1 A322 rL324.length c323 (encSs rL324), dAll rL324, dRow 4 ((nthS rL324 k).1) ((nthS rL324 k).2.2.length) ((nthS rL324 k).2.1) (encNs ((nthS rL324 k).2.2))] := hS386
          refine k_call (xs := [.tmp 91]) (st_list rfl) hR385 rfl rfl rfl (by decide) ok28 (erase_calls _ (imm Z w0 [.row Ao (((((ptL t).take k).map erL).flatten).length) co 32 4 (encNs ((((ptL t).take k).map erL).flatten))] _) (fun _ h => h.1) ((nthS rL324 k).1) ((nthS rL324 k).2.1) ((nthS rL324 k).2.2) (hS387.get (i := 0) rfl) (hS387.get (i := 7) rfl) (by first | assumption | omega | (simp; done) | (simp; omega)) (by first | assumption | omega | (simp; done) | (simp; omega))) ?_
          rintro e397 w389 ⟨A393, c394, rfl, hf392, hd395⟩
          have hS398 := hS387.below hf392.below
          have hS399 := hS398.data (dRow 4 A393 ((erA ((nthS rL324 k).2.2)).length) c394 (encNs (erA ((nthS rL324 k).2.2)))) ⟨hd395.1, hd395.2.mono (fun _ hk => ⟨nxt_imm hS387 hk, rfl⟩)⟩
          refine ⟨_, rfl, fun a388 hR390 => ?_⟩
          refine r_move (st_listV rfl) hR390 rfl rfl rfl (by decide) (fun a400 hR401 => ?_)
          refine r_extract (st_listV rfl) hR401 rfl rfl rfl rfl (by decide) (fun a402 hR403 => ?_)
          refine r_extract (st_listV rfl) hR403 rfl rfl rfl rfl (by decide) (fun a404 hR405 => ?_)
          refine r_assign (st_listV rfl) hR405 rfl rfl rfl (by decide) (fun a406 hR407 => ?_)
          refine r_assign (st_listV rfl) hR407 rfl rfl rfl (by decide) (fun a408 hR409 => ?_)
          refine wpList_nil ?_
          refine x_then_n (hK377 _ _ ?_)
          refine wp_seq_k (fun K410 hK411 => ?_)
          refine c_region ?_
          refine r_move (st_listV rfl) hR409 rfl rfl rfl (by decide) (fun a412 hR413 => ?_)
          refine r_move (st_listV rfl) hR413 rfl rfl rfl (by decide) (fun a414 hR415 => ?_)
          refine m_index (i := k) (j := k * 1) (st_listV rfl) hR415 rfl rfl rfl rfl Tryd.underlying39 sz22 (by omega) (by omega) (ss_elem (t := rL324) (k := k) (hS399.row (i := 5) rfl).2 (by omega)).some_ rfl (by decide) (fun a416 hR417 => ?_)
          refine m_loadE (st_listV rfl) hR417 rfl rfl rfl 0 (k * 1) (ss_elem (t := rL324) (k := k) (hS399.row (i := 5) rfl).2 (by omega)) rfl rfl Tryd.underlying22 rfl (by decide) (fun a418 hR419 => ?_)
          have hS420 := hS399.data (dRow 4 ((nthS rL324 k).1) ((nthS rL324 k).2.2.length) ((nthS rL324 k).2.1) (encNs ((nthS rL324 k).2.2))) (all_at (t := rL324) (k := k) (hS399.get (i := 6) rfl) (by omega))
          have hS421 : St w0 Z none_ w389 [.row Ao (((((ptL t).take k).map erL).flatten).length) co 32 4 (encNs ((((ptL t).take k).map erL).flatten))] [dShapes, dRow 4 tA t.length tc (encNs t), dRow 4 A81 ((erA t).length) c82 (encNs (erA t)), dRow 1 A108 rL110.length c109 (encSs rL110), dAll rL110, dRow 1 A322 rL324.length c323 (encSs rL324), dAll rL324, dRow 4 ((nthS rL324 k).1) ((nthS rL324 k).2.2.length) ((nthS rL324 k).2.1) (encNs ((nthS rL324 k).2.2)), dRow 4 A393 ((erA ((nthS rL324 k).2.2)).length) c394 (encNs (erA ((nthS rL324 k).2.2))), dRow 4 ((nthS rL324 k).1) ((nthS rL324 k).2.2.length) ((nthS rL324 k).2.1) (encNs ((nthS rL324 k).2.2))] := hS420
          refine k_call (xs := [.tmp 99]) (st_list rfl) hR419 rfl rfl rfl (by decide) ok31 (eraProofs_calls _ (imm Z w0 [.row Ao (((((ptL t).take k).map erL).flatten).length) co 32 4 (encNs ((((ptL t).take k).map erL).flatten))] _) (fun _ h => h.1) ((nthS rL324 k).1) ((nthS rL324 k).2.1) ((nthS rL324 k).2.2) (hS421.get (i := 0) rfl) (hS421.get (i := 9) rfl) (by first | assumption | omega | (simp; done) | (simp; omega)) (by first | assumption | omega | (simp; done) | (simp; omega))) ?_
          rintro e434 w423 ⟨A427, c428, rL429, rfl, hf426, hd430, hd431, hL432⟩
          have hS435 := hS421.below hf426.below
          have hS436 := hS435.data (dRow 1 A427 rL429.length c428 (encSs rL429)) ⟨hd430.1, hd430.2.mono (fun _ hk => ⟨nxt_imm hS421 hk, rfl⟩)⟩
          have hS437 := hS436.data (dAll rL429) ((dAll _).mono _ _ _ _ (Nat.le_refl _) hd431 (fun _ hk => ⟨nxt_imm hS421 hk, rfl⟩))
          refine ⟨_, rfl, fun a422 hR424 => ?_⟩
          have hR : lsts rL110 = ((ptL t).map prL).flatten := by rw [hL113, hpa, prL_parts hb (by omega)]
          have hM : lsts rL429 = prL (nthL (ptL t) k) := by rw [hL432, hpa2, hpe]
          have hMl : rL429.length = (prL (nthL (ptL t) k)).length := by rw [← lsts_len, hM]
          refine r_move (st_listV rfl) hR424 rfl rfl rfl (by decide) (fun a438 hR439 => ?_)
          refine r_extract (st_listV rfl) hR439 rfl rfl rfl rfl (by decide) (fun a440 hR441 => ?_)
          refine r_extract (st_listV rfl) hR441 rfl rfl rfl rfl (by decide) (fun a442 hR443 => ?_)
          refine r_assign (st_listV rfl) hR443 rfl rfl rfl (by decide) (fun a444 hR445 => ?_)
          refine r_assign (st_listV rfl) hR445 rfl rfl rfl (by decide) (fun a446 hR447 => ?_)
          refine wpList_nil ?_
          refine x_then_n (hK411 _ _ ?_)
          refine wp_seq_k (fun K448 hK449 => ?_)
          refine wp_seq_k (fun K450 hK451 => ?_)
          refine c_region ?_
          refine r_move (st_listV rfl) hR447 rfl rfl rfl (by decide) (fun a452 hR453 => ?_)
          refine r_neq (st_listV rfl) hR453 rfl rfl rfl rfl (by decide) (fun a454 hR455 => ?_)
          refine r_move (st_listV rfl) hR455 rfl rfl rfl (by decide) (fun a456 hR457 => ?_)
          have h466 : ((chk ((nthS rL324 k).2.2))) = 0 := by rw [hpe]; exact hpc
          have hR467 := hR457.setb (d := 105) (b := false) rfl (by rw [(decide_eq_true h466)]; rfl)
          refine r_move (st_listV_w (want_t hR467 rfl rfl rfl (by decide) rfl)) hR467 rfl rfl rfl (by decide) (fun a468 hR469 => ?_)
          refine r_neq (st_listV_w (want_t hR469 rfl rfl rfl (by decide) rfl)) hR469 rfl rfl rfl rfl (by decide) (fun a470 hR471 => ?_)
          refine r_pick_f (st_listV rfl) hR471 rfl rfl rfl rfl (by decide) (fun a472 hR473 => ?_)
          refine wpList_nil ?_
          refine x_then_n (hK451 _ _ ?_)
          have hR474 := hR473.setb (d := 108) (b := false) rfl (by rw [(decide_eq_true h466)]; rfl)
          refine wp_cond_false (hR474.ev rfl) ?_
          refine wp_skip ?_
          refine x_then_n (hK449 _ _ ?_)
          refine wp_seq_k (fun K475 hK476 => ?_)
          refine c_region ?_
          refine r_move (st_listV rfl) hR474 rfl rfl rfl (by decide) (fun a477 hR478 => ?_)
          refine r_move (st_listV rfl) hR478 rfl rfl rfl (by decide) (fun a479 hR480 => ?_)
          refine m_appendF (f := encN) (i := 0) ((((ptL t).take k).map erL).flatten) (erA ((nthS rL324 k).2.2)) (st_listV rfl) hR480 hS437 rfl rfl rfl rfl rfl encN_len (encN_one _) Tryd.underlying22 zi32 rfl rfl (hS437.row (i := 8) rfl).2.news rfl (by first | omega | (simp only [List.length_cons, List.length_nil]; omega)) (by decide) (fun a481 w482 A483 c484 hc485 hR486 hS487 => ?_)
          have hl489 : (((((ptL t).take k).map erL).flatten) ++ (erA ((nthS rL324 k).2.2))).length = ((((ptL t).take k).map erL).flatten).length + (erA ((nthS rL324 k).2.2)).length := by first | (simp only [List.length_append, List.length_take, List.length_cons, List.length_nil]; done) | (simp only [List.length_append, List.length_take, List.length_cons, List.length_nil]; omega)
          refine r_assign (st_listV rfl) hR486 rfl rfl rfl (by decide) (fun a490 hR491 => ?_)
          refine wpList_nil ?_
          refine x_then_n (hK476 _ _ ?_)
          refine wp_seq_k (fun K492 hK493 => ?_)
          refine c_region ?_
          refine r_assign (st_listV rfl) hR491 rfl rfl rfl (by decide) (fun a494 hR495 => ?_)
          refine wpList_nil ?_
          refine x_then_n (hK493 _ _ ?_)
          refine wp_block ?_
          refine wp_loop_ghost (fun gn ga gw => ∃ j : Nat, (Reg ga 150 [(0, .slice tA t.length tc), (1000000, .bool false), (3, .slice A81 ((erA t).length) c82), (5, .slice A108 rL110.length c109), (7, .slice A322 rL324.length c323), (10, .int .i64 ((k : Nat) : Int)), (8, .slice A483 ((((((ptL t).take k).map erL).flatten) ++ (erA ((nthS rL324 k).2.2))).length) c484), (13, .slice A427 rL429.length c428), (15, .int .i64 ((j : Nat) : Int)), (9, .int .i64 (((((ptL t).take k).map prL).flatten.length + j : Nat) : Int))]) ∧ (St w0 Z none_ gw [.row A483 ((((((ptL t).take k).map erL).flatten) ++ (erA ((nthS rL324 k).2.2))).length) c484 32 4 (encNs (((((ptL t).take k).map erL).flatten) ++ (erA ((nthS rL324 k).2.2))))] [dShapes, dRow 4 tA t.length tc (encNs t), dRow 4 A81 ((erA t).length) c82 (encNs (erA t)), dRow 1 A108 rL110.length c109 (encSs rL110), dAll rL110, dRow 1 A322 rL324.length c323 (encSs rL324), dAll rL324, dRow 4 ((nthS rL324 k).1) ((nthS rL324 k).2.2.length) ((nthS rL324 k).2.1) (encNs ((nthS rL324 k).2.2)), dRow 4 A393 ((erA ((nthS rL324 k).2.2)).length) c394 (encNs (erA ((nthS rL324 k).2.2))), dRow 4 ((nthS rL324 k).1) ((nthS rL324 k).2.2.length) ((nthS rL324 k).2.1) (encNs ((nthS rL324 k).2.2)), dRow 1 A427 rL429.length c428 (encSs rL429), dAll rL429]) ∧ (j ≤ rL429.length) ∧ (rL429.length - j) = gn) _ ⟨0, (Reg.cons hR495 (Reg.cons hR495 (Reg.cons hR495 (Reg.cons hR495 (Reg.cons hR495 (Reg.cons hR495 (Reg.cons hR495 (Reg.cons hR495 (Reg.cons hR495 (Reg.consi hR495 (hR495.nil) rfl (by omega)) rfl) rfl) rfl) rfl) rfl) rfl) rfl) rfl) rfl), hS487, by omega, rfl⟩ ?_
          rintro r496 a497 w498 ⟨j, hR499, hS500, hj, hn501⟩
          refine wp_seq_k (fun K502 hK503 => ?_)
          refine wp_seq_k (fun K504 hK505 => ?_)
          refine c_region ?_
          refine r_move (st_listV rfl) hR499 rfl rfl rfl (by decide) (fun a506 hR507 => ?_)
          refine r_move (st_listV rfl) hR507 rfl rfl rfl (by decide) (fun a508 hR509 => ?_)
          refine r_len (st_listV rfl) hR509 rfl rfl rfl rfl Tryd.underlying39 (by decide) (fun a510 hR511 => ?_)
          refine r_lss (st_listV rfl) hR511 rfl rfl rfl rfl (by decide) (fun a512 hR513 => ?_)
          refine wpList_nil ?_
          refine x_then_n (hK505 _ _ ?_)
          rcases Decidable.em (((j : Nat) : Int) < ((rL429.length : Nat) : Int)) with h514 | h514
          · skip
            obtain ⟨hpx, hpy⟩ := prf_at hR hM hpk (show j < rL429.length by omega)
            have hpz := prA_le t _ (prA_at hL113 (show (((ptL t).take k).map prL).flatten.length + j < rL110.length by omega)).1
            have hR515 := hR513.setb (d := 115) (b := true) rfl (decide_eq_true h514)
            refine wp_cond_true (hR515.ev rfl) ?_
            refine wp_skip ?_
            refine x_then_n (hK503 _ _ ?_)
            refine wp_seq_k (fun K516 hK517 => ?_)
            refine wp_block ?_
            refine wp_seq_k (fun K518 hK519 => ?_)
            refine wp_seq_k (fun K520 hK521 => ?_)
            obtain ⟨J522, hJ523, hS524⟩ := hS500.agree
            refine d_region2 (S := (fun x => (w498.heap.size ≤ x.heap.size ∧ ∀ k, J522 k → x.heap[k]? = w498.heap[k]?) ∧ (True))) (n := 16) mixed rfl hS524 (pan_then (pan_then (pan_block (pan_then (pan_then (pan_block (pan_block (pan_then (pan_then (pan_block (pan_then pan_body))))))))))) (fun Q527 hP528 hN529 w525 hS526 => ?_)
            have hSw530 : (w498.heap.size ≤ w525.heap.size ∧ ∀ k, J522 k → w525.heap[k]? = w498.heap[k]?) ∧ (True) := ⟨⟨(hS526.get (i := 12) rfl).1, fun k hk => ((hS526.get (i := 12) rfl).2 k hk).2⟩, trivial⟩
            refine d_take (i := 0) rfl (by kernel_rfl) (by kernel_rfl) (by kernel_rfl) (fun c a w h => hP528 c _ _ _ _ h) rfl (by decide) hR515 (want_n rfl) (fun x hx => r_move (st_yield hR515 rfl (by decide)) hR515 rfl rfl rfl (by decide) (fun _ h => ⟨h.get _ _ (by decide) rfl, rfl⟩)) hSw530 (fun a531 hR532 => ?_)
            refine d_take (i := 1) rfl (by kernel_rfl) (by kernel_rfl) (by kernel_rfl) (fun c a w h => hP528 c _ _ _ _ h) rfl (by decide) hR532 (want_n rfl) (fun x hx => r_move (st_yield hR532 rfl (by decide)) hR532 rfl rfl rfl (by decide) (fun _ h => ⟨h.get _ _ (by decide) rfl, rfl⟩)) hSw530 (fun a533 hR534 => ?_)
            refine d_take (i := 2) rfl (by kernel_rfl) (by kernel_rfl) (by kernel_rfl) (fun c a w h => hP528 c _ _ _ _ h) rfl (by decide) hR534 (want_n rfl) (fun x hx => r_len (st_yield hR534 rfl (by decide)) hR534 rfl rfl rfl rfl Tryd.underlying39 (by decide) (fun _ h => ⟨h.get _ _ (by decide) rfl, rfl⟩)) hSw530 (fun a535 hR536 => ?_)
            refine d_take (i := 3) rfl (by kernel_rfl) (by kernel_rfl) (by kernel_rfl) (fun c a w h => hP528 c _ _ _ _ h) rfl (by decide) hR536 (want_n rfl) (fun x hx => r_geq (st_yield hR536 rfl (by decide)) hR536 rfl rfl rfl rfl (by decide) (fun _ h => ⟨h.get _ _ (by decide) rfl, rfl⟩)) hSw530 (fun a537 hR538 => ?_)
            refine d_take (i := 4) rfl (by kernel_rfl) (by kernel_rfl) (by kernel_rfl) (fun c a w h => hP528 c _ _ _ _ h) rfl (by decide) hR538 (want_n rfl) (fun x hx => r_move (st_yield hR538 rfl (by decide)) hR538 rfl rfl rfl (by decide) (fun _ h => ⟨h.get _ _ (by decide) rfl, rfl⟩)) hSw530 (fun a539 hR540 => ?_)
            have h541 : ¬ (((rL110.length : Nat) : Int) ≤ (((((ptL t).take k).map prL).flatten.length + j : Nat) : Int)) := by omega
            have hR542 := hR540.setb (d := 122) (b := false) rfl (decide_eq_false h541)
            refine d_take (i := 5) rfl (by kernel_rfl) (by kernel_rfl) (by kernel_rfl) (fun c a w h => hP528 c _ _ _ _ h) rfl (by decide) hR542 (want_t hR542 rfl rfl rfl (by decide) rfl) (fun x hx => r_move (st_yield hR542 rfl (by decide)) hR542 rfl rfl rfl (by decide) (fun _ h => ⟨h.get _ _ (by decide) rfl, rfl⟩)) hSw530 (fun a543 hR544 => ?_)
            refine d_take (i := 6) rfl (by kernel_rfl) (by kernel_rfl) (by kernel_rfl) (fun c a w h => hP528 c _ _ _ _ h) rfl (by decide) hR544 (want_t hR544 rfl rfl rfl (by decide) rfl) (fun x hx => r_move (st_yield hR544 rfl (by decide)) hR544 rfl rfl rfl (by decide) (fun _ h => ⟨h.get _ _ (by decide) rfl, rfl⟩)) hSw530 (fun a545 hR546 => ?_)
            refine d_take (i := 7) rfl (by kernel_rfl) (by kernel_rfl) (by kernel_rfl) (fun c a w h => hP528 c _ _ _ _ h) rfl (by decide) hR546 (want_t hR546 rfl rfl rfl (by decide) rfl) (fun x hx => m_index (i := (((ptL t).take k).map prL).flatten.length + j) (j := ((((ptL t).take k).map prL).flatten.length + j) * 1) (st_yield hR546 rfl (by decide)) hR546 rfl rfl rfl rfl Tryd.underlying39 sz22 (by omega) (by omega) (ss_elem (t := rL110) (k := (((ptL t).take k).map prL).flatten.length + j) (sdat (hJ523 3 _ rfl) hx.1).2 (by omega)).some_ rfl (by decide) (fun _ h => ⟨h.get _ _ (by decide) rfl, rfl⟩)) hSw530 (fun a547 hR548 => ?_)
            refine d_take (i := 8) rfl (by kernel_rfl) (by kernel_rfl) (by kernel_rfl) (fun c a w h => hP528 c _ _ _ _ h) rfl (by decide) hR548 (want_t hR548 rfl rfl rfl (by decide) rfl) (fun x hx => m_loadE (st_yield hR548 rfl (by decide)) hR548 rfl rfl rfl 0 (((((ptL t).take k).map prL).flatten.length + j) * 1) (ss_elem (t := rL110) (k := (((ptL t).take k).map prL).flatten.length + j) (sdat (hJ523 3 _ rfl) hx.1).2 (by omega)) rfl rfl Tryd.underlying22 rfl (by decide) (fun _ h => ⟨h.get _ _ (by decide) rfl, rfl⟩)) hSw530 (fun a549 hR550 => ?_)
            have hS551 := hS526.data (dRow 4 ((nthS rL110 ((((ptL t).take k).map prL).flatten.length + j)).1) ((nthS rL110 ((((ptL t).take k).map prL).flatten.length + j)).2.2.length) ((nthS rL110 ((((ptL t).take k).map prL).flatten.length + j)).2.1) (encNs ((nthS rL110 ((((ptL t).take k).map prL).flatten.length + j)).2.2))) (all_at (t := rL110) (k := (((ptL t).take k).map prL).flatten.length + j) (hS526.get (i := 4) rfl) (by omega))
            refine d_take (i := 9) rfl (by kernel_rfl) (by kernel_rfl) (by kernel_rfl) (fun c a w h => hP528 c _ _ _ _ h) rfl (by decide) hR550 (want_t hR550 rfl rfl rfl (by decide) rfl) (fun x hx => r_move (st_yield hR550 rfl (by decide)) hR550 rfl rfl rfl (by decide) (fun _ h => ⟨h.get _ _ (by decide) rfl, rfl⟩)) hSw530 (fun a552 hR553 => ?_)
            refine d_take (i := 10) rfl (by kernel_rfl) (by kernel_rfl) (by kernel_rfl) (fun c a w h => hP528 c _ _ _ _ h) rfl (by decide) hR553 (want_t hR553 rfl rfl rfl (by decide) rfl) (fun x hx => r_move (st_yield hR553 rfl (by decide)) hR553 rfl rfl rfl (by decide) (fun _ h => ⟨h.get _ _ (by decide) rfl, rfl⟩)) hSw530 (fun a554 hR555 => ?_)
            refine d_take (i := 11) rfl (by kernel_rfl) (by kernel_rfl) (by kernel_rfl) (fun c a w h => hP528 c _ _ _ _ h) rfl (by decide) hR555 (want_t hR555 rfl rfl rfl (by decide) rfl) (fun x hx => m_index (i := j) (j := j * 1) (st_yield hR555 rfl (by decide)) hR555 rfl rfl rfl rfl Tryd.underlying39 sz22 (by omega) (by omega) (ss_elem (t := rL429) (k := j) (sdat (hJ523 10 _ rfl) hx.1).2 (by omega)).some_ rfl (by decide) (fun _ h => ⟨h.get _ _ (by decide) rfl, rfl⟩)) hSw530 (fun a556 hR557 => ?_)
            refine d_take (i := 12) rfl (by kernel_rfl) (by kernel_rfl) (by kernel_rfl) (fun c a w h => hP528 c _ _ _ _ h) rfl (by decide) hR557 (want_t hR557 rfl rfl rfl (by decide) rfl) (fun x hx => m_loadE (st_yield hR557 rfl (by decide)) hR557 rfl rfl rfl 0 (j * 1) (ss_elem (t := rL429) (k := j) (sdat (hJ523 10 _ rfl) hx.1).2 (by omega)) rfl rfl Tryd.underlying22 rfl (by decide) (fun _ h => ⟨h.get _ _ (by decide) rfl, rfl⟩)) hSw530 (fun a558 hR559 => ?_)
            have hS560 := hS551.data (dRow 4 ((nthS rL429 j).1) ((nthS rL429 j).2.2.length) ((nthS rL429 j).2.1) (encNs ((nthS rL429 j).2.2))) (all_at (t := rL429) (k := j) (hS551.get (i := 11) rfl) (by omega))
            refine d_one (i := 13) (by kernel_rfl) ?_
            have hS561 : St w0 Z none_ w525 [.row A483 ((((((ptL t).take k).map erL).flatten) ++ (erA ((nthS rL324 k).2.2))).length) c484 32 4 (encNs (((((ptL t).take k).map erL).flatten) ++ (erA ((nthS rL324 k).2.2))))] [dShapes, dRow 4 tA t.length tc (encNs t), dRow 4 A81 ((erA t).length) c82 (encNs (erA t)), dRow 1 A108 rL110.length c109 (encSs rL110), dAll rL110, dRow 1 A322 rL324.length c323 (encSs rL324), dAll rL324, dRow 4 ((nthS rL324 k).1) ((nthS rL324 k).2.2.length) ((nthS rL324 k).2.1) (encNs ((nthS rL324 k).2.2)), dRow 4 A393 ((erA ((nthS rL324 k).2.2)).length) c394 (encNs (erA ((nthS rL324 k).2.2))), dRow 4 ((nthS rL324 k).1) ((nthS rL324 k).2.2.length) ((nthS rL324 k).2.1) (encNs ((nthS rL324 k).2.2)), dRow 1 A427 rL429.length c428 (encSs rL429), dAll rL429, dAg w498 J522, dRow 4 ((nthS rL110 ((((ptL t).take k).map prL).flatten.length + j)).1) ((nthS rL110 ((((ptL t).take k).map prL).flatten.length + j)).2.2.length) ((nthS rL110 ((((ptL t).take k).map prL).flatten.length + j)).2.1) (encNs ((nthS rL110 ((((ptL t).take k).map prL).flatten.length + j)).2.2)), dRow 4 ((nthS rL429 j).1) ((nthS rL429 j).2.2.length) ((nthS rL429 j).2.1) (encNs ((nthS rL429 j).2.2))] := hS560
            refine k_call (xs := [.tmp 126, .tmp 130]) (st_op rfl (want_t hR559 rfl rfl rfl (by decide) rfl)) hR559 rfl rfl rfl (by decide) ok30 (rsame_calls _ (imm Z w0 [.row A483 ((((((ptL t).take k).map erL).flatten) ++ (erA ((nthS rL324 k).2.2))).length) c484 32 4 (encNs (((((ptL t).take k).map erL).flatten) ++ (erA ((nthS rL324 k).2.2))))] _) (fun _ h => h.1) ((nthS rL110 ((((ptL t).take k).map prL).flatten.length + j)).1) ((nthS rL110 ((((ptL t).take k).map prL).flatten.length + j)).2.1) ((nthS rL110 ((((ptL t).take k).map prL).flatten.length + j)).2.2) ((nthS rL429 j).1) ((nthS rL429 j).2.1) ((nthS rL429 j).2.2) (hS561.get (i := 13) rfl) (hS561.get (i := 14) rfl) (by first | assumption | omega | (simp; done) | (simp; omega))) ?_
            rintro e568 w563 ⟨rfl, hf566⟩
            have hS569 := hS561.below hf566.below
            refine ⟨_, rfl, fun a562 hR564 => ?_⟩
            have hSw570 : (w498.heap.size ≤ w563.heap.size ∧ ∀ k, J522 k → w563.heap[k]? = w498.heap[k]?) ∧ (True) := ⟨⟨(hS569.get (i := 12) rfl).1, fun k hk => ((hS569.get (i := 12) rfl).2 k hk).2⟩, trivial⟩
            refine ⟨hSw570, ?_⟩
            refine d_take (i := 14) rfl (by kernel_rfl) (by kernel_rfl) (by kernel_rfl) (fun c a w h => hP528 c _ _ _ _ h) rfl (by decide) hR564 (want_t hR564 rfl rfl rfl (by decide) rfl) (fun x hx => r_not (st_yield hR564 rfl (by decide)) hR564 rfl rfl rfl (by decide) (fun _ h => ⟨h.get _ _ (by decide) rfl, rfl⟩)) hSw570 (fun a571 hR572 => ?_)
            refine d_take (i := 15) rfl (by kernel_rfl) (by kernel_rfl) (by kernel_rfl) (fun c a w h => hP528 c _ _ _ _ h) rfl (by decide) hR572 (want_n rfl) (fun x hx => r_pick_f (st_yield hR572 rfl (by decide)) hR572 rfl rfl rfl rfl (by decide) (fun _ h => ⟨h.get _ _ (by decide) rfl, rfl⟩)) hSw570 (fun a573 hR574 => ?_)
            refine wpAnyH_done (by kernel_rfl) (hN529 _ _ ?_) _
            refine x_then_n (hK521 _ _ ?_)
            have h575 : (decide (((nthS rL110 ((((ptL t).take k).map prL).flatten.length + j)).2.2) = ((nthS rL429 j).2.2))) = true := decide_eq_true hpy
            have h576 := of_decide_eq_true h575
            have hR577 := hR574.setb (d := 133) (b := false) rfl (by rw [h575]; rfl)
            refine wp_cond_false (hR577.ev rfl) ?_
            refine wp_skip ?_
            refine x_then_n (hK519 _ _ ?_)
            refine c_region ?_
            refine r_move (st_listV rfl) hR577 rfl rfl rfl (by decide) (fun a578 hR579 => ?_)
            refine r_add (z := (((((ptL t).take k).map prL).flatten.length + j + 1 : Nat) : Int)) (st_listV rfl) hR579 rfl rfl rfl rfl (by decide) (by omega) (by omega) (by omega) (fun a580 hR581 => ?_)
            refine r_assign (st_listV rfl) hR581 rfl rfl rfl (by decide) (fun a582 hR583 => ?_)
            refine wpList_nil ?_
            refine x_block_n ?_
            refine x_then_n (hK517 _ _ ?_)
            refine c_region ?_
            refine r_move (st_listV rfl) hR583 rfl rfl rfl (by decide) (fun a584 hR585 => ?_)
            refine r_add (z := ((j + 1 : Nat) : Int)) (st_listV rfl) hR585 rfl rfl rfl rfl (by decide) (by omega) (by omega) (by omega) (fun a586 hR587 => ?_)
            refine r_assign (st_listV rfl) hR587 rfl rfl rfl (by decide) (fun a588 hR589 => ?_)
            refine wpList_nil ?_
            have hS590 := hS569.forget 14
            have hS591 := hS590.forget 13
            have hS592 := hS591.forget 12
            exact ⟨_, by omega, j + 1, (Reg.cons hR589 (Reg.cons hR589 (Reg.cons hR589 (Reg.cons hR589 (Reg.cons hR589 (Reg.cons hR589 (Reg.cons hR589 (Reg.cons hR589 (Reg.cons hR589 (Reg.consi hR589 (hR589.nil) rfl (by omega)) rfl) rfl) rfl) rfl) rfl) rfl) rfl) rfl) rfl), hS592, by omega, rfl⟩
          · skip
            have hR593 := hR513.setb (d := 115) (b := false) rfl (decide_eq_false h514)
            refine wp_cond_false (hR593.ev rfl) ?_
            refine wp_exit ?_
            refine x_then_e ?_
            refine x_then_e ?_
            refine x_block_eq ?_
            refine x_block_n ?_
            refine x_then_n (hK375 _ _ ?_)
            refine c_region ?_
            refine r_move (st_listV rfl) hR593 rfl rfl rfl (by decide) (fun a594 hR595 => ?_)
            refine r_add (z := ((k + 1 : Nat) : Int)) (st_listV rfl) hR595 rfl rfl rfl rfl (by decide) (by omega) (by omega) (by omega) (fun a596 hR597 => ?_)
            refine r_assign (st_listV rfl) hR597 rfl rfl rfl (by decide) (fun a598 hR599 => ?_)
            refine wpList_nil ?_
            have he600 : ((((ptL t).take k).map erL).flatten) ++ (erA ((nthS rL324 k).2.2)) = (((ptL t).take (k + 1)).map erL).flatten := by rw [flat_step2 hpk, hea2, hpe]
            have hR601 := hR599
            have hS602 := hS500
            rw [he600] at hR601 hS602
            have hS603 := hS602.forget 11
            have hS604 := hS603.forget 10
            have hS605 := hS604.forget 9
            have hS606 := hS605.forget 8
            have hS607 := hS606.forget 7
            exact ⟨_, by omega, k + 1, A483, c484, (Reg.cons hR601 (Reg.cons hR601 (Reg.cons hR601 (Reg.cons hR601 (Reg.cons hR601 (Reg.cons hR601 (Reg.consi hR601 (Reg.cons hR601 (hR601.nil) rfl) rfl (by rw [flat_step2 hpk, List.length_append]; omega)) rfl) rfl) rfl) rfl) rfl) rfl), hS607, by omega, rfl⟩
        · skip
          have hR608 := hR371.setb (d := 84) (b := false) rfl (decide_eq_false h372)
          refine wp_cond_false (hR608.ev rfl) ?_
          refine wp_exit ?_
          refine x_then_e ?_
          refine x_then_e ?_
          refine x_block_eq ?_
          refine x_then_n (hK349 _ _ ?_)
          refine wp_seq_k (fun K609 hK610 => ?_)
          refine c_region ?_
          refine r_move (st_listV rfl) hR608 rfl rfl rfl (by decide) (fun a611 hR612 => ?_)
          refine r_move (st_listV rfl) hR612 rfl rfl rfl (by decide) (fun a613 hR614 => ?_)
          have hS615 : St w0 Z none_ w356 [.row Ao (((((ptL t).take k).map erL).flatten).length) co 32 4 (encNs ((((ptL t).take k).map erL).flatten))] [dShapes, dRow 4 tA t.length tc (encNs t), dRow 4 A81 ((erA t).length) c82 (encNs (erA t)), dRow 1 A108 rL110.length c109 (encSs rL110), dAll rL110, dRow 1 A322 rL324.length c323 (encSs rL324), dAll rL324] := hS358
          refine k_call (xs := [.tmp 137]) (st_list rfl) hR614 rfl rfl rfl (by decide) ok23 (rroot_calls _ (imm Z w0 [.row Ao (((((ptL t).take k).map erL).flatten).length) co 32 4 (encNs ((((ptL t).take k).map erL).flatten))] _) (fun _ h => h.1) tA tc t (hS615.get (i := 1) rfl) (by first | assumption | omega | (simp; done) | (simp; omega)) (by first | assumption | omega | (simp; done) | (simp; omega))) ?_
          rintro e622 w617 ⟨rfl, hf620⟩
          have hS623 := hS615.below hf620.below
          refine ⟨_, rfl, fun a616 hR618 => ?_⟩
          refine m_buildSlice (ps := [(0, .tmp 138)]) (cs := [.int .i64 (((nth t (t.length - 1)).K)), .int .i64 (((nth t (t.length - 1)).N)), .int .i64 (((nth t (t.length - 1)).M)), .string ((nth t (t.length - 1)).S)]) (st_listV rfl) hR618 hS623 rfl rfl rfl Tryd.underlying22 zi32 rfl rfl (by kernel_rfl) rfl (by decide) (fun a624 w625 g626 hR627 hS628 => ?_)
          refine m_appendF (f := encN) (i := 0) ((((ptL t).take k).map erL).flatten) ([(nth t (t.length - 1))]) (st_listV rfl) hR627 hS628 rfl rfl rfl rfl rfl encN_len (encN_one _) Tryd.underlying22 zi32 rfl rfl (own_lnews (f := encN) (hS628.res (i := 1) rfl)) rfl (by first | omega | (simp only [List.length_cons, List.length_nil]; omega)) (by decide) (fun a629 w630 A631 c632 hc633 hR634 hS635 => ?_)
          have hl637 : (((((ptL t).take k).map erL).flatten) ++ ([(nth t (t.length - 1))]) : List Nd).length = ((((ptL t).take k).map erL).flatten).length + 1 := by first | (simp only [List.length_append, List.length_take, List.length_cons, List.length_nil]; done) | (simp only [List.length_append, List.length_take, List.length_cons, List.length_nil]; omega)
          have hS638 := hS635.erase 1
          refine r_assign (st_listV rfl) hR634 rfl rfl rfl (by decide) (fun a639 hR640 => ?_)
          refine wpList_nil ?_
          refine x_then_n (hK610 _ _ ?_)
          refine wp_seq_k (fun K641 hK642 => ?_)
          refine c_region ?_
          refine r_move (st_listV rfl) hR640 rfl rfl rfl (by decide) (fun a643 hR644 => ?_)
          refine r_move (st_listV rfl) hR644 rfl rfl rfl (by decide) (fun a645 hR646 => ?_)
          have hS647 : St w0 Z none_ w630 [.row A631 ((((((ptL t).take k).map erL).flatten) ++ ([(nth t (t.length - 1))]) : List Nd).length) c632 32 4 (encNs (((((ptL t).take k).map erL).flatten) ++ ([(nth t (t.length - 1))])))] [dShapes, dRow 4 tA t.length tc (encNs t), dRow 4 A81 ((erA t).length) c82 (encNs (erA t)), dRow 1 A108 rL110.length c109 (encSs rL110), dAll rL110, dRow 1 A322 rL324.length c323 (encSs rL324), dAll rL324] := hS638
          have hc651 := own_cap (hS647.res (i := 0) rfl)
          obtain ⟨hS648, hrow649⟩ := hS647.row_data (i := 0) rfl (fun _ h => h)
          have hS650 := hS648.data (dRow 4 A631 ((((((ptL t).take k).map erL).flatten) ++ ([(nth t (t.length - 1))]) : List Nd).length) c632 (encNs (((((ptL t).take k).map erL).flatten) ++ ([(nth t (t.length - 1))])))) ⟨hc651, hrow649⟩
          refine k_call (xs := [.tmp 141, .tmp 142]) (st_list rfl) hR646 rfl rfl rfl (by decide) ok30 (rsame_calls _ (imm Z w0 [] _) (fun _ h => h.1) A631 c632 (((((ptL t).take k).map erL).flatten) ++ ([(nth t (t.length - 1))])) A81 c82 (erA t) (hS650.get (i := 7) rfl) (hS650.get (i := 2) rfl) (by first | assumption | omega | (simp; done) | (simp; omega))) ?_
          rintro e658 w653 ⟨rfl, hf656⟩
          have hS659 := hS650.below hf656.below
          refine ⟨_, rfl, fun a652 hR654 => ?_⟩
          refine r_move (st_listV rfl) hR654 rfl rfl rfl (by decide) (fun a660 hR661 => ?_)
          have h675 : (decide ((((((ptL t).take k).map erL).flatten) ++ ([(nth t (t.length - 1))])) = (erA t))) = true := decide_eq_true (by rw [hea, erL_parts hb (by omega), List.take_of_length_le (by omega)])
          have h676 := of_decide_eq_true h675
          have hR677 := hR661.setb (d := 144) (b := true) rfl h675
          refine r_move (st_listV_w (want_t hR677 rfl rfl rfl (by decide) rfl)) hR677 rfl rfl rfl (by decide) (fun a678 hR679 => ?_)
          refine r_move (st_listV_w (want_t hR679 rfl rfl rfl (by decide) rfl)) hR679 rfl rfl rfl (by decide) (fun a680 hR681 => ?_)
          refine r_len (st_listV_w (want_t hR681 rfl rfl rfl (by decide) rfl)) hR681 rfl rfl rfl rfl Tryd.underlying39 (by decide) (fun a682 hR683 => ?_)
          refine r_eql (st_listV_w (want_t hR683 rfl rfl rfl (by decide) rfl)) hR683 rfl rfl rfl rfl (by decide) (fun a684 hR685 => ?_)
          refine r_pick_t (st_listV rfl) hR685 rfl rfl rfl rfl (by decide) (fun a686 hR687 => ?_)
          refine r_assign (st_listV rfl) hR687 rfl rfl rfl (by decide) (fun a688 hR689 => ?_)
          refine wpList_nil ?_
          refine x_then_n (hK642 _ _ ?_)
          refine wp_ret ?_
          refine e_ret1 hR689 rfl rfl rfl ?_
          have h690 : (((((ptL t).take k).map prL).flatten.length : Nat) : Int) = ((rL110.length : Nat) : Int) := by rw [← lsts_len, hL113, hpa, prL_parts hb (by omega), List.take_of_length_le (by omega)]
          refine ⟨?_, hS659.fr⟩
          exact congrArg Ending.returned (ret_b (by first | rfl | omega | (have q0 := h51; (try simp at q0); have q1 := h67; (try simp at q1); have q2 := h69; (try simp at q2); have q3 := h160; (try simp at q3); have q4 := h179; (try simp at q4); have q5 := h200; (try simp at q5); have q6 := h372; (try simp at q6); have q7 := h675; (try simp at q7); have q8 := h676; (try simp at q8); have q9 := h690; (try simp at q9);  omega) | (simp [h51, h67, h69, h160, h179, h200, h372, h675, h676, h690]; done) | (simp [] at *; done) | (simp [h51, h67, h69, h160, h179, h200, h372, h675, h676, h690] <;> omega) | (rw [Bool.eq_iff_iff]; simp [h51, h67, h69, h160, h179, h200, h372, h675, h676, h690] <;> omega) | (rw [Bool.eq_iff_iff]; simp [h51, h67, h69, h160, h179, h200, h372, h675, h676, h690] at * <;> omega)))
    · skip
      have hR691 := hR178.setb (d := 43) (b := true) rfl (by rw [(decide_eq_false h179)]; rfl)
      refine wp_cond_true (hR691.ev rfl) ?_
      refine wp_seq_k (fun K692 hK693 => ?_)
      refine c_region ?_
      refine r_move (st_listV rfl) hR691 rfl rfl rfl (by decide) (fun a694 hR695 => ?_)
      refine r_len (st_listV rfl) hR695 rfl rfl rfl rfl Tryd.underlying22 (by decide) (fun a696 hR697 => ?_)
      refine r_eql (st_listV rfl) hR697 rfl rfl rfl rfl (by decide) (fun a698 hR699 => ?_)
      refine r_move (st_listV rfl) hR699 rfl rfl rfl (by decide) (fun a700 hR701 => ?_)
      have h712 : (((erA t).length : Nat) : Int) = 0 := by rw [erA_no (by assumption)]; rfl
      have hR713 := hR701.setb (d := 47) (b := true) rfl (decide_eq_true h712)
      refine r_move (st_listV_w (want_t hR713 rfl rfl rfl (by decide) rfl)) hR713 rfl rfl rfl (by decide) (fun a714 hR715 => ?_)
      refine r_len (st_listV_w (want_t hR715 rfl rfl rfl (by decide) rfl)) hR715 rfl rfl rfl rfl Tryd.underlying39 (by decide) (fun a716 hR717 => ?_)
      refine r_eql (st_listV_w (want_t hR717 rfl rfl rfl (by decide) rfl)) hR717 rfl rfl rfl rfl (by decide) (fun a718 hR719 => ?_)
      refine r_pick_t (st_listV rfl) hR719 rfl rfl rfl rfl (by decide) (fun a720 hR721 => ?_)
      refine r_assign (st_listV rfl) hR721 rfl rfl rfl (by decide) (fun a722 hR723 => ?_)
      refine wpList_nil ?_
      refine x_then_n (hK693 _ _ ?_)
      refine wp_ret ?_
      refine x_then_r ?_
      refine e_ret1 hR723 rfl rfl rfl ?_
      have h724 : ((rL110.length : Nat) : Int) = 0 := by rw [← lsts_len, hL113, prA_no (by assumption)]; rfl
      refine ⟨?_, hS145.fr⟩
      exact congrArg Ending.returned (ret_b (by first | rfl | omega | (have q0 := h51; (try simp at q0); have q1 := h67; (try simp at q1); have q2 := h69; (try simp at q2); have q3 := h160; (try simp at q3); have q4 := h179; (try simp at q4); have q5 := h712; (try simp at q5); have q6 := h724; (try simp at q6);  omega) | (simp [h51, h67, h69, h160, h179, h712, h724]; done) | (simp [] at *; done) | (simp [h51, h67, h69, h160, h179, h712, h724] <;> omega) | (rw [Bool.eq_iff_iff]; simp [h51, h67, h69, h160, h179, h712, h724] <;> omega) | (rw [Bool.eq_iff_iff]; simp [h51, h67, h69, h160, h179, h712, h724] at * <;> omega)))
end Go.Proofs.YtobgdeffhdefeaaDoor
/- From a row's reading to cells, and back: slices of nodes, the table of shapes, arguments that nobody changed. -/
namespace Go.Proofs.YtobgdeffhdefeaaDoor
set_option linter.unusedSimpArgs false
set_option linter.unusedVariables false
open Go Go.RowKit Go.WideShapes Go.ChangeShapes

theorem kids : Kids Tryd.prog (· < Tryd.prog.types.size) := kids_rows (by kernel_rfl) (by kernel_rfl)
theorem slicesFull : ∀ t e, t < Tryd.prog.types.size → Tryd.prog.underlying t = some (.slice e) → 0 < Tryd.prog.cellsOf e := slices_full_of Tryd.prog (by kernel_rfl)
theorem ownKnobNone : ownKnob Tryd.prog.godebug = none := by kernel_rfl

section
variable {H : Type} {enc : TypeId × Value → H} {P : Program} {w W W' : World}
/-- What lay in old blocks reads as it did. -/
theorem trodAll_carry {base : Nat} {sp : Nat → Bool} {held : Bool} : ∀ {ts : List TypeId} {vs : List Value} {ds : List (DataW H)} {ps : List MemPlace},
    DataW.TrodAll enc P W base sp held ts vs ds ps → (∀ p ∈ ps, W.sameAt W' p) → DataW.TrodAll enc P W' base sp held ts vs ds ps
  | [], [], [], _, h, _ => h
  | _ :: _, _ :: _, _ :: _, _, ⟨p, q, ⟨n, h1⟩, h2, e⟩, hs =>
    ⟨p, q, ⟨n, DataW.trod_carry n _ _ _ h1 (fun x hx => hs x (by rw [e]; exact List.mem_append_left _ hx))⟩,
      trodAll_carry h2 (fun x hx => hs x (by rw [e]; exact List.mem_append_right _ hx)), e⟩
  | [], [], _ :: _, _, h, _ => h.elim
  | [], _ :: _, _, _, h, _ => h.elim
  | _ :: _, [], _, _, h, _ => h.elim
  | _ :: _, _ :: _, [], _, h, _ => h.elim
theorem sameAt_below (hb : Below W.heap.size W W') {p : MemPlace} (hp : p.block < W.heap.size) : W.sameAt W' p := by
  cases p with
  | cell b off => exact hb.cell (p := ⟨b, off, none⟩) hp
  | map b => exact hb.block b hp
/-- The last step of a row of a law that returns true and changes nothing old. -/
theorem post_true {f : Func} {s : ChangeSpec} {apart fresh handsOn again : Bool} {args : Array Value} {ds : List (DataW H)} {before : List MemPlace}
    (K : Kids P (· < P.types.size)) (hz : ∀ t e, t < P.types.size → P.underlying t = some (.slice e) → 0 < P.cellsOf e) (hts : ∀ t ∈ f.params.toList, t < P.types.size)
    (hvars : s.vars = []) (hW : DataW.Whole enc P f.params.toList s.vars apart W args.toList ds [] before)
    {tb : TypeId} (hrt : f.resultTypes = #[tb]) (htb : P.underlying tb = some .bool)
    (hfn : (s.fn H ds).results = [.lit (.bool true)] ∧ (s.fn H ds).args = ds ∧ (s.fn H ds).vars = []) (hb : Below W.heap.size W W') :
    s.post enc P f apart fresh handsOn again W args (.bool true) W' := by
  have hlt : ∀ p ∈ before, p.block < W.heap.size := fun p hp => hW.lt p hp
  have hold : ∀ p ∈ before, (fun b => decide (b < W.heap.size)) p.block = true := fun p hp => by simpa using hlt p hp
  have hW0 := hW
  obtain ⟨p, q, hA, hV, he, hzf, hn⟩ := hW0
  rw [hvars] at hV
  have hq : q = [] := hV
  subst hq
  rw [List.append_nil] at he
  subst he
  have hA' := trodAll_carry (W' := W') hA (fun x hx => sameAt_below hb (hlt x hx))
  have hres : ∀ (b : Nat) (sp : Nat → Bool) (hd : Bool), DataW.TrodAll enc P W' b sp hd f.resultTypes.toList ((Value.bool true).resultList f.resultTypes.size) (s.fn H ds).results [] := fun b sp hd => by
    rw [hfn.1, hrt]
    exact trodAll_mk1 (shut_bool htb true)
  refine ⟨ds, [], before, [], before, [], hW, ?_, ?_, ?_, World.keptBut_mono (fun p hp => ⟨hp, .inr (.inl hp)⟩) (hb.frame (· ∈ before)), fun _ => ⟨?_, ?_⟩⟩
  · rw [List.append_nil]; exact hres _ _ _
  · rw [List.append_nil, hfn.2.1]
    exact DataW.TrodAll.respare K hz hts hA' hold
  · rw [List.append_nil, hfn.2.2, hvars]
    exact rfl
  · exact ok_one hrt rfl (okWide_bool_mk htb true)
  · refine ⟨[.lit (.bool true)] ++ ds, [], [] ++ before, ⟨[] ++ before, [], ?_, ?_, by simp, ?_, ?_⟩, ?_⟩
    · rw [hrt]
      exact trodAll_append hA' (trodAll_mk1 (shut_bool htb true))
    · rw [hvars]
      exact rfl
    · intro b off hp
      have hin : MemPlace.cell b off ∈ before := by simpa using hp
      rw [hb.frozen (hlt _ hin)]
      exact hzf b off hin
    · intro ha
      simpa using hn ha
    · intro x hx _
      simpa using hx
end

section
variable {H : Type} {enc : TypeId × Value → H} {w : World}
theorem lt_of_cell {p : Addr} {v : Value} (h : w.cell? p = some v) : p.block < w.heap.size := by
  unfold World.cell? at h
  cases ho : w.heap[p.block]? with
  | none => simp [ho] at h
  | some o => exact (Array.getElem?_eq_some_iff.1 ho).1
set_option maxRecDepth 100000 in
/-- A node's four cells, read. -/
theorem node_cells {base : Nat} {sp : Nat → Bool} {held : Bool} {n : Nat} {cs : List Value} {x : DataW H × List MemPlace} (h : DataW.trod enc Tryd.prog w base sp held n 32 cs = some x) : ∃ nd : Nd, cs = encN nd := by
  have hu : Tryd.prog.underlying 32 = some (.struct (Tryd.prog.fieldsOf 32)) := by kernel_rfl
  have hf : (Tryd.prog.fieldsOf 32).toList.map (fun f => (f.type, f.offset)) = [(3, 0), (3, 1), (3, 2), (9, 3)] := by kernel_rfl
  have hci : Tryd.prog.cellsOf 3 = 1 := by kernel_rfl
  have hcs : Tryd.prog.cellsOf 9 = 1 := by kernel_rfl
  have hcn : Tryd.prog.cellsOf 32 = 4 := by kernel_rfl
  obtain ⟨xs, m, _, _, hl, _, hg⟩ := DataW.trod_struct hu h
  rw [hcn] at hl
  have fld : ∀ (j : Nat) (t : TypeId) (off : Nat), ((Tryd.prog.fieldsOf 32).toList.map (fun f => (f.type, f.offset)))[j]? = some (t, off) → ∃ y, DataW.trod enc Tryd.prog w base sp held m t ((cs.drop off).take (Tryd.prog.cellsOf t)) = some y := by
    intro j t off hj
    rw [List.getElem?_map] at hj
    cases hfj : (Tryd.prog.fieldsOf 32).toList[j]? with
    | none => rw [hfj] at hj; cases hj
    | some f =>
      rw [hfj] at hj
      simp only [Option.map_some, Option.some.injEq, Prod.mk.injEq] at hj
      obtain ⟨rfl, rfl⟩ := hj
      have h1 := hg j f (by rw [← Array.getElem?_toList]; exact hfj)
      have hjl : j < (Tryd.prog.fieldsOf 32).size := by
        have := (List.getElem?_eq_some_iff.1 hfj).1
        simpa using this
      have hxl : j < xs.length := by omega
      exact ⟨xs[j], by rw [h1]; exact List.getElem?_eq_getElem hxl⟩
  rw [hf] at fld
  match cs, hl with
  | [c0, c1, c2, c3], _ =>
    obtain ⟨y0, h0⟩ := fld 0 _ _ rfl
    obtain ⟨y1, h1⟩ := fld 1 _ _ rfl
    obtain ⟨y2, h2⟩ := fld 2 _ _ rfl
    obtain ⟨y3, h3⟩ := fld 3 _ _ rfl
    rw [hci] at h0 h1 h2
    rw [hcs] at h3
    obtain ⟨a, ha, _⟩ := DataW.trod_int Tryd.underlying3 h0
    obtain ⟨b, hb, _⟩ := DataW.trod_int Tryd.underlying3 h1
    obtain ⟨c, hc, _⟩ := DataW.trod_int Tryd.underlying3 h2
    obtain ⟨s, hs, _⟩ := DataW.trod_string Tryd.underlying9 h3
    simp at ha hb hc hs
    exact ⟨⟨a, b, c, s⟩, by simp [encN, ha, hb, hc, hs]⟩
set_option maxRecDepth 100000 in
/-- An argument that is a slice of nodes. -/
theorem open_nodes {r : Reach} {base b0 : Nat} {sp : Nat → Bool} {held : Bool} {v : Value} {d : DataW H} {ps : List MemPlace} (hval : Value.okWide Tryd.prog w r b0 22 v) (hd : DataW.Trod enc Tryd.prog w base sp held 22 v d ps) :
    ∃ (A : Option Addr) (c : Nat) (t : List Nd), v = .slice A t.length c ∧ (dRow 4 A t.length c (encNs t)).φ w (fun k => k < w.heap.size) := by
  obtain ⟨A, len, cap, rfl⟩ := okWide_slice Tryd.underlying22 hval
  obtain ⟨fuel, hf⟩ := hd
  have hcn : Tryd.prog.cellsOf 32 = 4 := by kernel_rfl
  rcases Deep.open_slice Tryd.underlying22 hf with ⟨hcs, _⟩ | ⟨a, len', cap', m, n, D, Pl, hcs, _, hl, _, hm, _, hi⟩
  · simp [Value.cells] at hcs
    obtain ⟨rfl, rfl, rfl⟩ := hcs
    exact ⟨none, 0, [], rfl, Nat.le_refl _, rfl, fun h => absurd h (by simp)⟩
  · simp [Value.cells] at hcs
    obtain ⟨rfl, rfl, rfl⟩ := hcs
    have hmm : len ≤ m := by rw [hm]; split <;> omega
    have hnd : ∀ i, ∃ nd : Nd, i < len → w.cells? base (a.add (i * 4)) 4 = some (encN nd) := by
      intro i
      by_cases hil : i < len
      · obtain ⟨cs', hc, ht⟩ := hi i (by omega)
        obtain ⟨nd, rfl⟩ := node_cells ht
        rw [hcn] at hc
        exact ⟨nd, fun _ => hc⟩
      · exact ⟨ndz, fun h => absurd h hil⟩
    obtain ⟨f, hf'⟩ := Classical.axiomOfChoice hnd
    refine ⟨some a, cap, (List.range len).map f, by simp, ?_, ?_, fun hpos => ⟨a, rfl, ?_, ?_⟩⟩
    · simpa using hl
    · exact encNs_length _
    · have hp0 : 0 < len := by simpa using hpos
      obtain ⟨_, _, hat⟩ := World.cells?_some (hf' 0 hp0)
      have h0 := hat 0 (by omega)
      rw [add_of_add] at h0
      have := lt_of_cell (w := w) (p := a.add (0 * 4 + 0)) (by rw [h0]; rfl)
      rwa [block_of_add] at this
    · intro j u hu
      have hjl : j < len * 4 := by
        have h1 := (List.getElem?_eq_some_iff.1 hu).1
        rw [encNs_length] at h1
        simpa using h1
      have hi4 : j / 4 < len := by omega
      obtain ⟨_, hcl, hat⟩ := World.cells?_some (hf' (j / 4) hi4)
      have h1 := hat (j % 4) (by omega)
      rw [add_of_add, show j / 4 * 4 + j % 4 = j by omega] at h1
      rw [h1, ← hu]
      have h2 := enc_at encN_len ((List.range len).map f) (j / 4) (by simpa using hi4) ndz
      have h3 : (((List.range len).map f).getD (j / 4) ndz) = f (j / 4) := by simp [hi4]
      rw [h3] at h2
      have h4 : (encNs ((List.range len).map f))[j]? = (((((List.range len).map f).flatMap encN).drop (j / 4 * 4)).take 4)[j % 4]? := by
        rw [List.getElem?_take_of_lt (by omega), List.getElem?_drop, show j / 4 * 4 + j % 4 = j by omega]
        rfl
      rw [h4, h2]
end
end Go.Proofs.YtobgdeffhdefeaaDoor
/- The table of shapes: from the row's list to cells; a world that holds it. -/
namespace Go.Proofs.YtobgdeffhdefeaaDoor
set_option linter.unusedSimpArgs false
set_option linter.unusedVariables false
open Go Go.RowKit Go.WideShapes Go.ChangeShapes
set_option maxRecDepth 100000
/-- The datum of one shape. -/
def shapeD (k : Nat) : DataW Unit := .agg [(match (shp k).b with | [] => .nil | b => .slice (lits .i64 b) []), .lit (.bool (shp k).n), .lit (.bool (shp k).m), .lit (.bool (shp k).s)]
theorem laid_eq : (Rows.laid_cornice_term_shapes : DataW Unit) = .agg ((List.range 30).map shapeD) := by kernel_rfl
theorem encIs_map (l : List Int) : encIs l = l.map (fun n => Value.int .i64 n) := by
  induction l with
  | nil => rfl
  | cons x t ih => rw [List.map_cons, ← ih]; rfl
theorem shape_cells {w : World} {base : Nat} {sp : Nat → Bool} {held : Bool} {n : Nat} {cs : List Value} {k : Nat} {p : List MemPlace}
    (h : DataW.trod (fun _ => ()) Tryd.prog w base sp held n 129 cs = some (shapeD k, p)) :
    ∃ (A : Option Addr) (cap : Nat), cs = [.slice A (shp k).b.length cap, .bool (shp k).n, .bool (shp k).m, .bool (shp k).s] ∧ (shp k).b.length ≤ cap ∧ RowI w (fun k => k < w.heap.size) 1 A (shp k).b.length (encIs (shp k).b) := by
  have hu : Tryd.prog.underlying 129 = some (.struct (Tryd.prog.fieldsOf 129)) := by kernel_rfl
  have hf : (Tryd.prog.fieldsOf 129).toList.map (fun f => (f.type, f.offset)) = [(66, 0), (4, 1), (4, 2), (4, 3)] := by kernel_rfl
  have hci : Tryd.prog.cellsOf 66 = 1 := by kernel_rfl
  have hci1 : Tryd.prog.cellsOf 3 = 1 := by kernel_rfl
  have hcs : Tryd.prog.cellsOf 4 = 1 := by kernel_rfl
  have hcn : Tryd.prog.cellsOf 129 = 4 := by kernel_rfl
  obtain ⟨xs, m, _, hx, hl, hxl, hg⟩ := DataW.trod_struct hu h
  rw [hcn] at hl
  have hd : xs.map (·.1) = [(match (shp k).b with | [] => .nil | b => .slice (lits .i64 b) []), .lit (.bool (shp k).n), .lit (.bool (shp k).m), .lit (.bool (shp k).s)] := by
    have := congrArg Prod.fst hx
    simp only [shapeD] at this
    injection this with h1
    exact h1.symm
  have fld : ∀ (j : Nat) (t : TypeId) (off : Nat), ((Tryd.prog.fieldsOf 129).toList.map (fun f => (f.type, f.offset)))[j]? = some (t, off) → DataW.trod (fun _ => ()) Tryd.prog w base sp held m t ((cs.drop off).take (Tryd.prog.cellsOf t)) = xs[j]? := by
    intro j t off hj
    rw [List.getElem?_map] at hj
    cases hfj : (Tryd.prog.fieldsOf 129).toList[j]? with
    | none => rw [hfj] at hj; cases hj
    | some f =>
      rw [hfj] at hj
      simp only [Option.map_some, Option.some.injEq, Prod.mk.injEq] at hj
      obtain ⟨rfl, rfl⟩ := hj
      exact hg j f (by rw [← Array.getElem?_toList]; exact hfj)
  rw [hf] at fld
  match cs, hl, xs, hd with
  | [c0, c1, c2, c3], _, [y0, y1, y2, y3], hd =>
    simp only [List.map_cons, List.map_nil, List.cons.injEq, and_true] at hd
    obtain ⟨d0, d1, d2, d3⟩ := hd
    have h0 := fld 0 _ _ rfl
    have h1 := fld 1 _ _ rfl
    have h2 := fld 2 _ _ rfl
    have h3 := fld 3 _ _ rfl
    rw [hci] at h0
    rw [hcs] at h1 h2 h3
    obtain ⟨b1, e1, f1⟩ := DataW.trod_bool Tryd.underlying4 h1
    obtain ⟨b2, e2, f2⟩ := DataW.trod_bool Tryd.underlying4 h2
    obtain ⟨b3, e3, f3⟩ := DataW.trod_bool Tryd.underlying4 h3
    simp at e1 e2 e3
    simp [f1] at d1
    simp [f2] at d2
    simp [f3] at d3
    subst e1 e2 e3 d1 d2 d3
    rcases open_ints Tryd.underlying66 Tryd.underlying3 hci1 h0 with ⟨hcs0, hy⟩ | ⟨a, len, cap, zs, hcs0, _, hle, _, hzl, hy, hcell, _⟩
    · simp at hcs0
      subst hcs0
      rw [hy] at d0
      cases hb : (shp k).b with
      | nil => exact ⟨none, 0, by simp, by simp, by simp [encIs], fun h => absurd h (by simp)⟩
      | cons z zs => rw [hb] at d0; simp at d0
    · simp at hcs0
      subst hcs0
      rw [hy] at d0
      cases hb : (shp k).b with
      | nil => rw [hb] at d0; simp at d0
      | cons z l =>
        rw [hb] at d0
        simp only [DataW.slice.injEq] at d0
        obtain ⟨d4, d5⟩ := d0
        have hinj : ∀ a b : List Int, (lits .i64 a : List (DataW Unit)) = lits .i64 b → a = b := by
          intro a
          induction a with
          | nil => intro b hb; cases b with
            | nil => rfl
            | cons _ _ => simp [lits] at hb
          | cons x a ih => intro b hb; cases b with
            | nil => simp [lits] at hb
            | cons y b =>
              simp only [lits, List.map_cons, List.cons.injEq, DataW.lit.injEq, Lit.int.injEq, true_and] at hb
              rw [hb.1, ih b hb.2]
        have d6 := hinj _ _ d4
        have hll : len = (z :: l).length := by
          have := congrArg List.length d6
          rw [List.length_take] at this
          have hz : len ≤ zs.length := by rw [hzl]; split <;> omega
          omega
        subst hll
        refine ⟨some a, cap, rfl, hle, by simp [encIs_length], fun _ => ⟨a, rfl, ?_, ?_⟩⟩
        · have h9 := hcell 0 (by have hz2 : (z :: l).length ≤ zs.length := (by rw [hzl]; split <;> omega); rw [List.length_cons] at hz2; omega)
          have := lt_of_cell h9
          rwa [block_of_add] at this
        · intro j u hu
          have hjl : j < (z :: l).length := by
            have := (List.getElem?_eq_some_iff.1 hu).1
            rw [encIs_length] at this
            simpa using this
          have hzz : (z :: l).length ≤ zs.length := by rw [hzl]; split <;> omega
          rw [hcell j (by omega)]
          have h8 : (z :: l)[j]? = zs[j]? := by rw [← d6, List.getElem?_take_of_lt hjl]
          have h7 := encIs_map (z :: l)
          rw [h7, List.getElem?_map, h8] at hu
          cases hq : zs[j]? with
          | none => rw [hq] at hu; simp at hu
          | some q =>
            rw [hq] at hu
            simp only [Option.map_some, Option.some.injEq] at hu
            rw [← hu, List.getD_eq_getElem?_getD, hq]
            rfl
/-- What the row's list gives. -/
theorem shapes_of_laid {W : World} (h : laidMetH Tryd.prog [("cornice/term.shapes", Rows.laid_cornice_term_shapes)] W) : Shapes W (fun k => k < W.heap.size) := by
  have h' : laidMet Tryd.prog [("cornice/term.shapes", Rows.laid_cornice_term_shapes)] W := h
  obtain ⟨ps, ⟨g, t, cs, fuel, p, q, hg, ht, hvar, hd, _, _⟩, _⟩ := h'
  have hg0 : Tryd.prog.globalNamed "cornice/term.shapes" = some 0 := by kernel_rfl
  have ht0 : (Tryd.prog.globals[0]?).map (·.type) = some 130 := by kernel_rfl
  obtain rfl : 0 = g := Option.some.inj (hg0.symm.trans hg)
  obtain rfl : 130 = t := Option.some.inj (ht0.symm.trans ht)
  have hcn : Tryd.prog.cellsOf 129 = 4 := by kernel_rfl
  have hct : Tryd.prog.cellsOf 130 = 120 := by kernel_rfl
  obtain ⟨xs, m, _, hx, hl, hxl, hi⟩ := DataW.trod_array Tryd.underlying130 hd
  rw [hct] at hl
  have hxd : xs.map (·.1) = (List.range 30).map shapeD := by
    have := congrArg Prod.fst hx
    simp only [laid_eq] at this
    injection this with h1
    exact h1.symm
  intro k hk
  have h1 := hi k hk
  rw [hcn] at h1
  have hkx : k < xs.length := by omega
  have h2 : xs[k]? = some (shapeD k, (xs[k]).2) := by
    rw [List.getElem?_eq_getElem hkx]
    have h3 : (xs.map (·.1))[k]? = some (shapeD k) := by rw [hxd]; simp [hk]
    rw [List.getElem?_map, List.getElem?_eq_getElem hkx] at h3
    simp only [Option.map_some, Option.some.injEq] at h3
    rw [← h3]
  rw [h2] at h1
  obtain ⟨A, cap, hcs, hle, hrow⟩ := shape_cells h1
  refine ⟨A, cap, ⟨hle, hrow⟩, ?_, ?_⟩
  · have h4 := World.var?_cell hg hvar 0
    have h5 : cs[0]? ≠ none := by
      intro e
      rw [← Array.getElem?_toList, List.getElem?_eq_none_iff] at e
      omega
    cases h6 : cs[0]? with
    | none => exact absurd h6 h5
    | some v => rw [h6] at h4; exact lt_of_cell h4
  · intro j u hu
    have hj : j < 4 := by
      have := (List.getElem?_eq_some_iff.1 hu).1
      simpa using this
    have h4 := World.var?_cell hg hvar (k * 4 + j)
    rw [← hcs, List.getElem?_take_of_lt hj, List.getElem?_drop, Array.getElem?_toList] at hu
    rw [hu] at h4
    rw [add_of_add]
    have : (⟨0, 0, none⟩ : Addr).add (k * 4 + j) = ⟨0, k * 4 + j, none⟩ := by unfold Addr.add; split <;> simp_all
    rw [this]
    exact h4
/-- A world that holds the table. -/
noncomputable def laidWorld (os : Os) : World :=
  { World.holding Tryd.prog os ⟨#[.cells #[.int .i64 0, .int .i64 1, .int .i64 0, .int .i64 1, .int .i64 0, .int .i64 0, .int .i64 0, .int .i64 1, .int .i64 0, .int .i64 0, .int .i64 0, .int .i64 0, .int .i64 0, .int .i64 0, .int .i64 1, .int .i64 0, .int .i64 2, .int .i64 0, .int .i64 0, .int .i64 0, .int .i64 0, .int .i64 0, .int .i64 0, .int .i64 0, .int .i64 0, .int .i64 0, .int .i64 0, .int .i64 0, .int .i64 0, .int .i64 0, .int .i64 0, .int .i64 1, .int .i64 0, .int .i64 0, .int .i64 0, .int .i64 0, .int .i64 2, .int .i64 0, .int .i64 0, .int .i64 0, .int .i64 0, .int .i64 0, .int .i64 0, .int .i64 1, .int .i64 0, .int .i64 0, .int .i64 0] 3], #[], []⟩ with heap := (World.holding Tryd.prog os ⟨#[.cells #[.int .i64 0, .int .i64 1, .int .i64 0, .int .i64 1, .int .i64 0, .int .i64 0, .int .i64 0, .int .i64 1, .int .i64 0, .int .i64 0, .int .i64 0, .int .i64 0, .int .i64 0, .int .i64 0, .int .i64 1, .int .i64 0, .int .i64 2, .int .i64 0, .int .i64 0, .int .i64 0, .int .i64 0, .int .i64 0, .int .i64 0, .int .i64 0, .int .i64 0, .int .i64 0, .int .i64 0, .int .i64 0, .int .i64 0, .int .i64 0, .int .i64 0, .int .i64 1, .int .i64 0, .int .i64 0, .int .i64 0, .int .i64 0, .int .i64 2, .int .i64 0, .int .i64 0, .int .i64 0, .int .i64 0, .int .i64 0, .int .i64 0, .int .i64 1, .int .i64 0, .int .i64 0, .int .i64 0] 3], #[], []⟩).heap.modify 0 fun
      | .cells _ t frozen => .cells #[.slice none 0 0, .bool true, .bool false, .bool false, .slice none 0 0, .bool false, .bool false, .bool true, .slice none 0 0, .bool true, .bool false, .bool false, .slice (some ⟨6, 0, none⟩) 2 2, .bool true, .bool false, .bool false, .slice (some ⟨6, 2, none⟩) 2 2, .bool false, .bool false, .bool false, .slice (some ⟨6, 4, none⟩) 2 2, .bool false, .bool false, .bool false, .slice (some ⟨6, 6, none⟩) 2 2, .bool true, .bool false, .bool false, .slice (some ⟨6, 8, none⟩) 3 3, .bool false, .bool false, .bool false, .slice (some ⟨6, 11, none⟩) 1 1, .bool false, .bool false, .bool false, .slice (some ⟨6, 12, none⟩) 1 1, .bool false, .bool false, .bool false, .slice none 0 0, .bool false, .bool false, .bool false, .slice none 0 0, .bool false, .bool false, .bool false, .slice (some ⟨6, 13, none⟩) 1 1, .bool false, .bool false, .bool false, .slice (some ⟨6, 14, none⟩) 4 4, .bool false, .bool false, .bool false, .slice none 0 0, .bool false, .bool false, .bool false, .slice (some ⟨6, 18, none⟩) 2 2, .bool false, .bool false, .bool false, .slice none 0 0, .bool false, .bool false, .bool false, .slice none 0 0, .bool false, .bool false, .bool false, .slice (some ⟨6, 20, none⟩) 3 3, .bool false, .bool false, .bool false, .slice (some ⟨6, 23, none⟩) 2 2, .bool false, .bool false, .bool false, .slice (some ⟨6, 25, none⟩) 4 4, .bool false, .bool false, .bool false, .slice (some ⟨6, 29, none⟩) 6 6, .bool false, .bool false, .bool false, .slice (some ⟨6, 35, none⟩) 5 5, .bool false, .bool false, .bool false, .slice (some ⟨6, 40, none⟩) 2 2, .bool false, .bool false, .bool false, .slice (some ⟨6, 42, none⟩) 4 4, .bool false, .bool false, .bool false, .slice none 0 0, .bool false, .bool false, .bool true, .slice none 0 0, .bool true, .bool true, .bool true, .slice none 0 0, .bool false, .bool true, .bool true, .slice (some ⟨6, 46, none⟩) 1 1, .bool false, .bool false, .bool false, .slice none 0 0, .bool false, .bool false, .bool false] t frozen
      | o => o }
end Go.Proofs.YtobgdeffhdefeaaDoor
/- The law EraseParts: it returns true, whatever its arguments are, and they read as they did; the table of shapes holds what the program's text lays. -/
namespace Go.Proofs.YtobgdeffhdefeaaDoor.lawEraseParts
open Go Go.RowKit Go.WideShapes Go.ChangeShapes Go.Proofs.YtobgdeffhdefeaaDoor
set_option maxRecDepth 100000
set_option linter.unusedSimpArgs false
set_option linter.unusedVariables false
theorem contract (H : Type) (enc : TypeId × Value → H) (W : World) (base : Nat) (args : Array Value) (ds gs : List (DataW H)) (before : List MemPlace)
    (hval : ∀ (j : Nat) t v, Tryd.f7.params[j]? = some t → args[j]? = some v → Value.okWide Tryd.prog W .any base t v)
    (hW : DataW.Whole enc Tryd.prog Tryd.f7.params.toList Rows.erasePartsSpec.vars false W args.toList ds gs before) (hL : laidMetH Tryd.prog Rows.erasePartsRow.laid W) :
    Calls Tryd.prog 7 args W fun e W' => ∃ v, e = .returned v ∧ Rows.erasePartsSpec.post enc Tryd.prog Tryd.f7 false true false false W args v W' := by
  have hW' := hW
  obtain ⟨p, q, hA0, hV, rfl, hfz, hnd⟩ := hW
  have hA := hA0
  rw [Tryd.params7] at hA hval
  obtain ⟨v0, vs0, d0, ds0, p0, q0, hargs, rfl, rfl, h0, r0⟩ := trodAll_cons hA
  obtain ⟨rfl, rfl, rfl⟩ := trodAll_nil r0
  obtain rfl : args = #[v0] := by cases args; simp_all
  obtain ⟨rfl, rfl⟩ := trodVars_none hV
  obtain ⟨A0, c0, t0, rfl, g0⟩ := open_nodes (hval 0 _ _ rfl rfl) h0
  refine (eraseParts_calls W (fun k => k < W.heap.size) (fun _ h => h) A0 c0 t0 (shapes_of_laid hL) g0).mono fun e W' ⟨he, hf⟩ => ?_
  subst he
  exact ⟨_, rfl, post_true kids slicesFull (by rw [Tryd.params7]; decide) rfl hW' rfl Tryd.underlying4 ⟨rfl, rfl, rfl⟩ hf.below⟩
theorem laid_met (os : Os) : laidMet Tryd.prog Rows.erasePartsRow.laid ((laidWorld os).forCall (fun _ _ => 0) ⟨#[], #[Value.slice none 0 0], []⟩).memory :=
  laidMet_of_run' 8 (by kernel_rfl) (by kernel_rfl)
theorem reads (os : Os) {H : Type} (enc : TypeId × Value → H) : ∃ places, DataW.whole enc Tryd.prog ((laidWorld os).forCall (fun _ _ => 0) ⟨#[], #[Value.slice none 0 0], []⟩).memory Tryd.f7.params.toList Rows.erasePartsSpec.vars false #[Value.slice none 0 0].toList 8 = some ([.nil], [], places) :=
  ⟨[], by kernel_rfl⟩
theorem lifted (os : Os) (started : os.Started) (H : Type) (enc : TypeId × Value → H) (F : Stop.Interp) :
    ReturnsInHanded {} Tryd.checked os 7 .any ((OpenSpec.ofChange Rows.erasePartsSpec).preRow enc Tryd.prog Tryd.f7 Rows.erasePartsRow.domain false Rows.erasePartsRow.laid) (((OpenSpec.ofChange Rows.erasePartsSpec).at F).post enc Tryd.prog Tryd.f7 false true false false) := by
  obtain ⟨places, hx⟩ := reads os enc
  refine returnsInHanded_of_row (C := Tryd.checked) (s := OpenSpec.ofChange Rows.erasePartsSpec) ownKnobNone started (by kernel_rfl) Tryd.func7
    (witness_row_atRef (enc := enc) (C := Tryd.checked) false (laidWorld os) #[Value.slice none 0 0] rfl (by kernel_rfl) (by kernel_rfl) (by kernel_rfl)
      (OpenSpec.preRow_of_cond 8 hx (by kernel_rfl) (fun k hk => by cases hk) (by kernel_rfl) (laid_met os))) ?_
  intro W base args ds gs before hval hW _ _ _ hL _ _
  exact contract H enc W base args ds gs before hval hW hL
theorem said : Rows.ErasePartsSaid :=
  OpenClaim.holds_of_cond 7 Tryd.f7 rfl rfl rfl rfl rfl rfl rfl ⟨rfl, rfl, rfl, rfl, rfl⟩ rfl rfl rfl rfl rfl (by kernel_rfl) Tryd.func7 (by kernel_rfl)
    (of_decide_eq_true (by kernel_rfl)) (by unfold Func.isWrapper; first | (rw [if_pos (by decide +kernel)]; kernel_rfl) | (rw [if_neg (by decide +kernel)]; exact ⟨rfl, rfl⟩))
    (fun os started H enc _ F => by rw [OpenClaim.pre_eq_preRow]; exact lifted os started H enc F)
theorem plain (f : FuncId) (fn : Func) (hf : Tryd.pinned.checked.prog.funcNamed "cornice/cornicelaw11.EraseParts" = some f) (hfn : Tryd.pinned.checked.prog.funcs[f]? = some fn) :
    false = Tryd.pinned.checked.prog.looks [] ∧ ∀ (j : Nat) t, fn.params[j]? = some t → Tryd.pinned.checked.prog.wantsStandIn t = false := by
  obtain rfl : f = 7 := Option.some.inj ((show Tryd.prog.funcNamed "cornice/cornicelaw11.EraseParts" = some 7 by kernel_rfl).symm.trans hf) |>.symm
  obtain rfl : fn = Tryd.f7 := (Option.some.inj (Tryd.func7.symm.trans hfn)).symm
  refine ⟨by kernel_rfl, fun j t ht => ?_⟩
  rw [Tryd.params7] at ht
  have hm := Array.mem_of_getElem? ht
  simp only [List.mem_toArray, List.mem_cons, List.not_mem_nil, or_false] at hm
  subst hm
  exact (show Tryd.prog.wantsStandIn 22 = false by kernel_rfl)
/-- The card. -/
theorem proved : Rows.ErasePartsCardSaid :=
  Claim7.holds_tied_plain_at .later [] _ _ _ _ said (fun _ h => by cases h) (by kernel_rfl) (fun _ h => by cases h) eraseParts_row_tie rfl ⟨rfl, rfl⟩ (by kernel_rfl) rfl plain (by kernel_rfl)
end Go.Proofs.YtobgdeffhdefeaaDoor.lawEraseParts
